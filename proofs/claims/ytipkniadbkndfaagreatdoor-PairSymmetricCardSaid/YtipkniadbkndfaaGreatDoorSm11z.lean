/- Part of the proof of one law of the seat. -/
import Derived.Test.YtipkniadbkndfaaGreatDoorSm11
import Derived.Test.YtipkniadbkndfaaGreatDoorSm10n
set_option linter.all false
set_option maxRecDepth 100000
set_option maxHeartbeats 40000000
namespace Go.Proofs.YtipkniadbkndfaaGreatDoor
open Go Go.RowKit
open Option renaming some->O
open Bool renaming true->U
open Decidable renaming decide->Z
open List renaming length->xh,map->xn
open Tree renaming enc->xo
open D renaming int->xt
open Range renaming enc->xy
open Model renaming enc->xR
open _root_.Go.Proofs.YtipkniadbkndfaaGreatDoor.Question renaming enc->wz
open Step renaming enc->wA
open Go.Value renaming int->wW
open System renaming enc->w9
open Answer renaming enc->vc
open zv5 renaming enc->tc
section
set_option maxRecDepth 100000
set_option maxHeartbeats 40000000
theorem zlv (n t0 t1 r)(h:zgk n t0 t1=O r):Pure pg 27 [w9 t0,.int t1]<|.tup [vc r.1,.int r.2]:=by
 have:HS 26:=⟨⟩;have:HA 6:=⟨⟩;have:HS 6:=⟨⟩;refine Pure.ot Tryz.func27 I Tryz.ntmps27 I λA w=>.S 1 I<|.zwB I I I I (.agg Zc91 (ds':=[.int 0,.int 0,eB [],.int 0,.sl 3<|xn wA [],.int 0,.int 0,.sl 5<|xn xo [],.int 0])<|.e<|.e<|.o<|.e<|.o<|.e<|.e<|.o .e1) I<|.A 1 I<|.nil<|.seq<|.block<|.S 1 I<|.xc h I (system_Valid_ok _ _) λx1 h=>.A 2 I<|.nil<|.zvG I h (λh=>?_) λh=>?_;·exact walk h
 ·refine .seq<|.plain 6 I<|.A 3 I<|.jO 2 (Z<|65536<t1) I (λb2=>?_) ?_;·exact walk h
  refine .nil<|.A 1 I<|.nil<|.zvG I h (λh=>?_) λh=>?_;·exact walk h
  ·refine .skip<|.S 4 I<|.p I (.B (zwa.enc ⟨t0,t0.rows,t1,0⟩) Zc132 I)<|.box I I I I I (.ofD I)<|.zwB I I I I (.val Zv130) I<|.store I I I I I I (.cons (.loc I) .nil) C130 I (yt I)<|.nil<|.K [1,2,4,6] I<|.sr<|.zwB I I I I (.agg Zc134 (ds':=[.osl 1<|xn xt [],.int 0,.int 0,.sl 3<|xn wA [],.int 0,.int 0,.sl 5<|xn xo []])<|.cons (.onil _)<|.e<|.e<|.o<|.e<|.e .o1) I<|.nil<|.seq<|.sr<|.p I (.zxe I I)<|.guardC zqs I I I I (zwe I) (zwe I) Tryz.func71 I Tryz.ntmps71 I I I I λA0 own0 w gh=>?_;refine bK h λx3 q3 h=>.drawB 6 Hm I<|.via 2 (bN 6 15) ⟨[(2,.loc 3 0),(3,.loc 1 0),(6,.vec 4<|xh x3)],[wE4,wE5 t0.box t0.rows t0.zvv t0.cases t1,.box 130 [.loc 1 0],wE6,.vec 83 2<|xn xy x3]⟩ ?_ λsA0=>?_
   ·refine .lin 4 (by decide+kernel) I<|bK h λy_4 hy_4 h=>?_;obtain⟨ey_4,h⟩|⟨x5,ey_4,h⟩:=ppkS h
    ·subst ey_4;refine .turn3P (bi:=1) (vi:=4) ((zdW n).ok _ _ _ _ hy_4) I I I (.stat I (zwe I) I) I (yI _).symm I I λcs2=>?_;refine .inr ⟨I,?_⟩;refine .A 1 I<|.nil ?_;refine .zzT I<|.S 1 I<|.p I (.zzB (vc (⟨2,0,[],(⟨0,[],0,0,[]⟩:Tree),t1⟩:Answer)) (by simp only[vc,Tree.zw4,xo]<;>rfl)<|.build I Pl91 (.agg Zc91 (ds':=[_,_,eB [],_,.sl 3<|xn wA [],_,_,.sl 5<|xn xo [],_])<|.e<|.e<|.o<|.e<|.o<|.e<|.e<|.o .e1) I I)<|.so I<|.A 1 I<|.nil<|.ret ?_;cases h;exact zeW I I Y91 (.v<|.v<|.v<|.v<|.v<|.v<|.v<|.v .v1) I<|.d _
    ·subst ey_4;refine .turn3S (bi:=1) (vi:=4) ((zdW n).ok _ _ _ _ hy_4) I I I (.stat I (zwe I) I) I (yI _).symm I I<|.so I<|.nil<|.inl ⟨.inr I,?_⟩;refine .A 1 I<|.nil<|.K [1,4,6,7,29] I<|.zzS I<|.skip<|.seq<|.S 2 I<|.p I (.oslNeq I U22 I)<|.nil<|.zvG I h (λh=>?_) λh=>?_
     ·refine .seq<|.dr 9<|.A 3 I<|.p I (.leD zu9<|.zvM I I I Y22 I)<|.A 4 I<|.p I (.zzB (vc (⟨0,x5.1.index,x5.1.values,(⟨0,[],0,0,[]⟩:Tree),x5.2.cost⟩:Answer)) (by simp only[vc,Tree.zw4,xo]<;>rfl)<|.build I Pl91 (.agg Zc91 (ds':=[_,_,_,_,.sl 3<|xn wA [],_,_,.sl 5<|xn xo [],_])<|.e<|.e<|.e<|.e<|.o<|.e<|.e<|.o .e1) I I)<|.nil<|.so I<|.A 1 I<|.nil<|.ret ?_;cases h;exact zeW I I Y91 (.v<|.v<|.v<|.v<|.v<|.v<|.v<|.v .v1) I<|.d _
     exact walk h
   refine .via 3 (bN 6 7) ⟨[(2,.loc 3 0),(3,.loc 1 0),(5,.d<|eC t0.box)],[wE4,wE5 t0.box t0.rows t0.zvv t0.cases t1,.box 130 [.loc 1 0],wE6]⟩ ?_ λsA1=>?_
   ·refine .step 3 [] (by decide+kernel)<|.cons (i:=3) I (.clone (enc:=xy) I I I I (zwe I) Tryz.func73 I I I I E80 I (λ_=>I) (λ_=>I) q3 I I<|.nil ⟨I,I⟩) ?_ .nil;exact .kt sA0 I
   refine .via 3 (bN 6 14) ⟨[(0,.loc 2 0),(2,.loc 3 0),(6,.vec 4<|xh x3)],[wE4,wE5 t0.box t0.rows t0.zvv t0.cases t1,.box 130 [.loc 1 0],wE6,.vec 83 2<|xn xy x3]⟩ ?_ λsA2=>?_
   ·refine .step 0 [] (by decide+kernel)<|.cons (i:=0) I (.p I (.zvM I I I Y130 I)<|.nil ⟨I,I⟩) ?_ .nil;exact .kt sA0 I
   refine .via 4 (bN 6 3) ⟨[(2,.loc 3 0),(3,.loc 1 0),(4,.d<|.ref<|eC t0.box)],[wE4,wE5 t0.box t0.rows t0.zvv t0.cases t1,.box 130 [.loc 1 0],wE6]⟩ ?_ λsA3=>?_
   ·refine .step 2 [] (by decide+kernel)<|.cons (i:=2) I (.p I (.ld Y80 I)<|.nil ⟨I,I⟩) ?_ .nil;exact .kt sA1 I
   refine .via 4 (bN 6 6) ⟨[(0,.loc 2 0),(2,.loc 3 0),(5,.d<|eC t0.box)],[wE4,wE5 t0.box t0.rows t0.zvv t0.cases t1,.box 130 [.loc 1 0],wE6]⟩ ?_ λsA4=>?_
   ·refine .step 0 [3] (by decide+kernel)<|.cons (i:=0) I (.p I (.zvM I I I Y130 I)<|.nil ⟨I,I⟩) ?_<|.cons (i:=3) I (.clone (enc:=xy) I I I I (zwe I) Tryz.func73 I I I I E80 I (λ_=>I) (λ_=>I) q3 I I<|.nil ⟨I,I⟩) ?_ .nil;·exact .kt sA1 I
    ·exact .kt sA2 I
   refine .via 5 (bN 6 1) ⟨[(1,.d<|.ref<|w9 t0),(2,.loc 3 0),(3,.loc 1 0)],[wE4,wE5 t0.box t0.rows t0.zvv t0.cases t1,.box 130 [.loc 1 0],wE6]⟩ ?_ λsA5=>?_;·refine .step 1 [] (by decide+kernel)<|.cons (i:=1) I (.p I (.fa I<|G87_0 _)<|.nil ⟨I,I⟩) ?_ .nil;exact .kt sA3 I
   refine .via 5 (bN 6 2) ⟨[(0,.loc 2 0),(2,.loc 3 0),(4,.d<|.ref<|eC t0.box)],[wE4,wE5 t0.box t0.rows t0.zvv t0.cases t1,.box 130 [.loc 1 0],wE6]⟩ ?_ λsA6=>?_
   ·refine .step 0 [2] (by decide+kernel)<|.cons (i:=0) I (.p I (.zvM I I I Y130 I)<|.nil ⟨I,I⟩) ?_<|.cons (i:=2) I (.p I (.ld Y80 I)<|.nil ⟨I,I⟩) ?_ .nil;·exact .kt sA3 I
    ·exact .kt sA4 I
   refine .step 0 [1] (by decide+kernel)<|.cons (i:=0) I (.p I (.zvM I I I Y130 I)<|.nil ⟨I,I⟩) ?_<|.cons (i:=1) I (.p I (.fa I<|G87_0 _)<|.nil ⟨I,I⟩) ?_ .nil;·exact .kt sA5 I
   ·exact .kt sA6 I
instance pair_Decide_1_ok:Kd1 28 ziv (λt0=>.ref<|vc t0) tc:=⟨λn t0 r h=>.ot Tryz.func28 I Tryz.ntmps28 I λ_ _=>walk h⟩
instance pair_Decide_2_ok:Kd1 29 ziw (λt0=>.ref<|vc t0) tc:=⟨λn t0 r h=>.ot Tryz.func29 I Tryz.ntmps29 I λ_ _=>walk h⟩
instance pair_Decide_3_ok:Kd0 30 zix tc:=⟨λn r h=>.ot Tryz.func30 I Tryz.ntmps30 I λ_ _=>walk h⟩
theorem zlq (n t0 t1 t2 t3 r)(h:zbn n t0 t1 t2 t3=O r):Pure pg 10 [xR t0,wz t1,.int t2,eB t3]<|.tup [tc r.1,.int r.2]:=by
 have:HA 15:=⟨⟩;refine Pure.ot Tryz.func10 I Tryz.ntmps10 I λA w=>.S 2 I<|.zwB I I I I (.agg Zc42 (ds':=[.int 0,eB [],.int 0,.sl 3<|xn wA [],.int 0,.int 0,.sl 5<|xn xo [],.int 0])<|.e<|.o<|.e<|.o<|.e<|.e<|.o .e1) I<|.A 1 I<|.nil<|.S 3 I<|.xc h I (condition_System_ok _ _ _ _) λx1 h=>.A 3 I<|.aS I<|.A 1 I<|.nil<|.seq<|.seq<|.plain 6 I<|.A 3 I<|.jO 2 (x1.2==2) I (λb2=>?_) ?_;·exact walk h
 refine .nil<|.nil<|.K [2,8,10,11,28] I<|.zvG I h (λh=>?_) λh=>?_;·exact walk h
 ·refine .skip<|.seq<|.seq<|.plain 6 I<|.A 3 I<|.jO 2 (Z<|65536<t2) I (λb3=>?_) ?_;·exact walk h
  refine .nil<|.nil<|.zvG I h (λh=>?_) λh=>?_;·exact walk h
  ·refine .skip<|.seq<|.sA 2 I<|.zvG I h (λh=>?_) λh=>?_;·exact walk h
   ·refine .skip<|.S 2 I<|.xc h I (zlv _ _ _) λx4 h=>.A 3 I<|.aS I<|.A 1 I<|.nil<|.K [8,11,12] I<|.seq<|.sA 2 I<|.zvG I h (λh=>?_) λh=>?_;·exact walk h
    ·refine .skip<|.sr<|.makeMap (λn:Int=>wW .i64 n) (λd:D=>d) I I I I<|.p I (.makeFunc I I)<|.zzv (k:=0) (v:=.fn (.func 28) [] [.ref<|vc x4.1]) I I I U95 KT3 I I I I<|.p I (.makeFunc I I)<|.zzv (k:=1) (v:=.fn (.func 29) [] [.ref<|vc x4.1]) I I I U95 KT3 I I I I<|.zzv (k:=2) (v:=.fn (.func 30) [] []) I I I U95 KT3 I I I I<|.A 2 I<|.nil<|.S 3 I ?_;by_cases hq:(x4.1.kind==0)=U
     ·rw[if_pos hq]at h;have hk_9:x4.1.kind=0:=by simpa using hq
      refine .p I (.zzB (.fn (.func 28) [] [.ref<|vc x4.1]) (by rw[hk_9];rfl)<|.zzu I U95 KT3 I I I (k:=x4.1.kind) (z:=D.val .nilFunc)<|.val Zv94)<|.A 1 I<|.nil<|.S 1 I<|bK h λx10 q10 h=>.p I (.dyn I I I ⟨_,_,I,K28,pair_Decide_1_ok _ _ _ q10⟩)<|.zwB I I I I (.agg Zc42 (ds':=[.int 0,eB [],.int 0,.sl 3<|xn wA [],.int 0,.int 0,.sl 5<|xn xo [],.int 0])<|.e<|.o<|.e<|.o<|.e<|.e<|.o .e1) I<|.so I<|.nil<|.K [8,12,15] I<|.S 3 I<|.so I<|.nil<|.sr<|.p I (.zxi I I I Y42 (yt I) (v:=.d<|tc (⟨x10.kind,x10.state,x10.tree,x4.1.steps⟩:zv5)) I)<|.so I<|.A 1 I<|.nil<|.ret ?_;cases h;exact zeW I I Y42 (.v<|.v<|.v<|.v<|.v<|.v<|.v .v1) I<|.d _
     ·rw[if_neg hq]at h;by_cases hq:(x4.1.kind==1)=U
      ·rw[if_pos hq]at h;have hk_7:x4.1.kind=1:=by simpa using hq
       refine .p I (.zzB (.fn (.func 29) [] [.ref<|vc x4.1]) (by rw[hk_7];rfl)<|.zzu I U95 KT3 I I I (k:=x4.1.kind) (z:=D.val .nilFunc)<|.val Zv94)<|.A 1 I<|.nil<|.S 1 I<|bK h λx8 q8 h=>.p I (.dyn I I I ⟨_,_,I,K29,pair_Decide_2_ok _ _ _ q8⟩)<|.zwB I I I I (.agg Zc42 (ds':=[.int 0,eB [],.int 0,.sl 3<|xn wA [],.int 0,.int 0,.sl 5<|xn xo [],.int 0])<|.e<|.o<|.e<|.o<|.e<|.e<|.o .e1) I<|.so I<|.nil<|.K [8,12,15] I<|.S 3 I<|.so I<|.nil<|.sr<|.p I (.zxi I I I Y42 (yt I) (v:=.d<|tc (⟨x8.kind,x8.state,x8.tree,x4.1.steps⟩:zv5)) I)<|.so I<|.A 1 I<|.nil<|.ret ?_;cases h;exact zeW I I Y42 (.v<|.v<|.v<|.v<|.v<|.v<|.v .v1) I<|.d _
      ·rw[if_neg hq]at h;by_cases hq:(x4.1.kind==2)=U
       ·rw[if_pos hq]at h;have hk_5:x4.1.kind=2:=by simpa using hq
        refine .p I (.zzB (.fn (.func 30) [] []) (by rw[hk_5];rfl)<|.zzu I U95 KT3 I I I (k:=x4.1.kind) (z:=D.val .nilFunc)<|.val Zv94)<|.A 1 I<|.nil<|.S 1 I<|bK h λx6 q6 h=>.p I (.dyn I I I ⟨_,_,I,K30,pair_Decide_3_ok _ _ q6⟩)<|.zwB I I I I (.agg Zc42 (ds':=[.int 0,eB [],.int 0,.sl 3<|xn wA [],.int 0,.int 0,.sl 5<|xn xo [],.int 0])<|.e<|.o<|.e<|.o<|.e<|.e<|.o .e1) I<|.so I<|.nil<|.K [8,12,15] I<|.S 3 I<|.so I<|.nil<|.sr<|.p I (.zxi I I I Y42 (yt I) (v:=.d<|tc (⟨x6.kind,x6.state,x6.tree,x4.1.steps⟩:zv5)) I)<|.so I<|.A 1 I<|.nil<|.ret ?_;cases h;exact zeW I I Y42 (.v<|.v<|.v<|.v<|.v<|.v<|.v .v1) I<|.d _
       ·rw[if_neg hq]at h;cases h
instance pair_Decide_i:Kd4 10 zbn xR wz xt (slE 1 xt) λr=>.tup [tc r.1,.int r.2]:=⟨λn t0 t1 t2 t3 r h=>zlq n t0 t1 t2 t3 r h⟩
end
