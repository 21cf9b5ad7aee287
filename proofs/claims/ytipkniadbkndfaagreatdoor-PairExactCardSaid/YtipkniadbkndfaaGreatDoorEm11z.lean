/- Part of the proof of one law of the seat. -/
import Derived.Test.YtipkniadbkndfaaGreatDoorEm11
import Derived.Test.YtipkniadbkndfaaGreatDoorEm10n
set_option linter.all false
set_option maxRecDepth 100000
set_option maxHeartbeats 40000000
namespace Go.Proofs.YtipkniadbkndfaaGreatDoor
open Go Go.RowKit
open Option renaming some->O
open Bool renaming true->U
open Decidable renaming decide->Z
open List renaming length->xh,map->xj
open D renaming int->xo
open Tree renaming enc->xq
open Range renaming enc->xw
open Model renaming enc->xZ
open Step renaming enc->ww
open _root_.Go.Proofs.YtipkniadbkndfaaGreatDoor.Question renaming enc->wE
open Go.Value renaming int->wQ
open System renaming enc->wW
open Answer renaming enc->vb
section
set_option maxRecDepth 100000
set_option maxHeartbeats 40000000
theorem zlv (n t0 t1 r)(h:zgg n t0 t1=O r):Pure pg 27 [wW t0,.int t1]<|.tup [vb r.1,.int r.2]:=by
 have:HS 26:=⟨⟩;have:HA 6:=⟨⟩;have:HS 6:=⟨⟩;refine Pure.ot Tryz.func27 I Tryz.ntmps27 I λA w=>.S 1 I<|.zv3 I I I I (.agg Zc91 (ds':=[.int 0,.int 0,eB [],.int 0,.sl 3<|xj ww [],.int 0,.int 0,.sl 5<|xj xq [],.int 0])<|.e<|.e<|.o<|.e<|.o<|.e<|.e<|.o .e1) I<|.A 1 I<|.nil<|.seq<|.block<|.S 1 I<|.xc h I (system_Valid_ok _ _) λx1 h=>.A 2 I<|.nil<|.zu7 I h (λh=>?_) λh=>?_;·exact walk h
 ·refine .seq<|.plain 6 I<|.A 3 I<|.jO 2 (Z<|65536<t1) I (λb2=>?_) ?_;·exact walk h
  refine .nil<|.A 1 I<|.nil<|.zu7 I h (λh=>?_) λh=>?_;·exact walk h
  ·refine .skip<|.S 4 I<|.p I (.B (zvB.enc ⟨t0,t0.rows,t1,0⟩) Zc132 I)<|.box I I I I I (.ofD I)<|.zv3 I I I I (.val Zv130) I<|.store I I I I I I (.cons (.loc I) .nil) C130 I (yt I)<|.nil<|.K [1,2,4,6] I<|.sr<|.zv3 I I I I (.agg Zc134 (ds':=[.osl 1<|xj xo [],.int 0,.int 0,.sl 3<|xj ww [],.int 0,.int 0,.sl 5<|xj xq []])<|.cons (.onil _)<|.e<|.e<|.o<|.e<|.e .o1) I<|.nil<|.seq<|.sr<|.p I (.zwF I I)<|.guardC zqa I I I I (zvA I) (zvA I) Tryz.func71 I Tryz.ntmps71 I I I I λA0 own0 w gh=>?_;refine bK h λx3 q3 h=>.drawB 6 Hm I<|.via 2 (bN 6 15) ⟨[(2,.loc 3 0),(3,.loc 1 0),(6,.vec 4<|xh x3)],[wE4,wE5 t0.box t0.rows t0.zuT t0.cases t1,.box 130 [.loc 1 0],wE6,.vec 83 2<|xj xw x3]⟩ ?_ λsA0=>?_
   ·refine .lin 4 (by decide+kernel) I<|bK h λy_4 hy_4 h=>?_;obtain⟨ey_4,h⟩|⟨x5,ey_4,h⟩:=ppkS h
    ·subst ey_4;refine .turn3P (bi:=1) (vi:=4) ((zdR n).ok _ _ _ _ hy_4) I I I (.stat I (zvA I) I) I (yL _).symm I I λcs2=>?_;refine .inr ⟨I,?_⟩;refine .A 1 I<|.nil ?_;refine .zzi I<|.S 1 I<|.p I (.zy0 (vb (⟨2,0,[],(⟨0,[],0,0,[]⟩:Tree),t1⟩:Answer)) (by simp only[vb,Tree.zww,xq]<;>rfl)<|.build I Pl91 (.agg Zc91 (ds':=[_,_,eB [],_,.sl 3<|xj ww [],_,_,.sl 5<|xj xq [],_])<|.e<|.e<|.o<|.e<|.o<|.e<|.e<|.o .e1) I I)<|.so I<|.A 1 I<|.nil<|.ret ?_;cases h;exact zeQ I I Y91 (.v<|.v<|.v<|.v<|.v<|.v<|.v<|.v .v1) I<|.d _
    ·subst ey_4;refine .turn3S (bi:=1) (vi:=4) ((zdR n).ok _ _ _ _ hy_4) I I I (.stat I (zvA I) I) I (yL _).symm I I<|.so I<|.nil<|.inl ⟨.inr I,?_⟩;refine .A 1 I<|.nil<|.K [1,4,6,7,29] I<|.zzh I<|.skip<|.seq<|.S 2 I<|.p I (.oslNeq I U22 I)<|.nil<|.zu7 I h (λh=>?_) λh=>?_
     ·refine .seq<|.dr 9<|.A 3 I<|.p I (.leD zuy<|.zvd I I I Y22 I)<|.A 4 I<|.p I (.zy0 (vb (⟨0,x5.1.index,x5.1.values,(⟨0,[],0,0,[]⟩:Tree),x5.2.cost⟩:Answer)) (by simp only[vb,Tree.zww,xq]<;>rfl)<|.build I Pl91 (.agg Zc91 (ds':=[_,_,_,_,.sl 3<|xj ww [],_,_,.sl 5<|xj xq [],_])<|.e<|.e<|.e<|.e<|.o<|.e<|.e<|.o .e1) I I)<|.nil<|.so I<|.A 1 I<|.nil<|.ret ?_;cases h;exact zeQ I I Y91 (.v<|.v<|.v<|.v<|.v<|.v<|.v<|.v .v1) I<|.d _
     exact walk h
   refine .via 3 (bN 6 7) ⟨[(2,.loc 3 0),(3,.loc 1 0),(5,.d<|eC t0.box)],[wE4,wE5 t0.box t0.rows t0.zuT t0.cases t1,.box 130 [.loc 1 0],wE6]⟩ ?_ λsA1=>?_
   ·refine .step 3 [] (by decide+kernel)<|.cons (i:=3) I (.clone (enc:=xw) I I I I (zvA I) Tryz.func73 I I I I E80 I (λ_=>I) (λ_=>I) q3 I I<|.nil ⟨I,I⟩) ?_ .nil;exact .kt sA0 I
   refine .via 3 (bN 6 14) ⟨[(0,.loc 2 0),(2,.loc 3 0),(6,.vec 4<|xh x3)],[wE4,wE5 t0.box t0.rows t0.zuT t0.cases t1,.box 130 [.loc 1 0],wE6,.vec 83 2<|xj xw x3]⟩ ?_ λsA2=>?_
   ·refine .step 0 [] (by decide+kernel)<|.cons (i:=0) I (.p I (.zvd I I I Y130 I)<|.nil ⟨I,I⟩) ?_ .nil;exact .kt sA0 I
   refine .via 4 (bN 6 3) ⟨[(2,.loc 3 0),(3,.loc 1 0),(4,.d<|.ref<|eC t0.box)],[wE4,wE5 t0.box t0.rows t0.zuT t0.cases t1,.box 130 [.loc 1 0],wE6]⟩ ?_ λsA3=>?_
   ·refine .step 2 [] (by decide+kernel)<|.cons (i:=2) I (.p I (.ld Y80 I)<|.nil ⟨I,I⟩) ?_ .nil;exact .kt sA1 I
   refine .via 4 (bN 6 6) ⟨[(0,.loc 2 0),(2,.loc 3 0),(5,.d<|eC t0.box)],[wE4,wE5 t0.box t0.rows t0.zuT t0.cases t1,.box 130 [.loc 1 0],wE6]⟩ ?_ λsA4=>?_
   ·refine .step 0 [3] (by decide+kernel)<|.cons (i:=0) I (.p I (.zvd I I I Y130 I)<|.nil ⟨I,I⟩) ?_<|.cons (i:=3) I (.clone (enc:=xw) I I I I (zvA I) Tryz.func73 I I I I E80 I (λ_=>I) (λ_=>I) q3 I I<|.nil ⟨I,I⟩) ?_ .nil;·exact .kt sA1 I
    ·exact .kt sA2 I
   refine .via 5 (bN 6 1) ⟨[(1,.d<|.ref<|wW t0),(2,.loc 3 0),(3,.loc 1 0)],[wE4,wE5 t0.box t0.rows t0.zuT t0.cases t1,.box 130 [.loc 1 0],wE6]⟩ ?_ λsA5=>?_;·refine .step 1 [] (by decide+kernel)<|.cons (i:=1) I (.p I (.fa I<|G87_0 _)<|.nil ⟨I,I⟩) ?_ .nil;exact .kt sA3 I
   refine .via 5 (bN 6 2) ⟨[(0,.loc 2 0),(2,.loc 3 0),(4,.d<|.ref<|eC t0.box)],[wE4,wE5 t0.box t0.rows t0.zuT t0.cases t1,.box 130 [.loc 1 0],wE6]⟩ ?_ λsA6=>?_
   ·refine .step 0 [2] (by decide+kernel)<|.cons (i:=0) I (.p I (.zvd I I I Y130 I)<|.nil ⟨I,I⟩) ?_<|.cons (i:=2) I (.p I (.ld Y80 I)<|.nil ⟨I,I⟩) ?_ .nil;·exact .kt sA3 I
    ·exact .kt sA4 I
   refine .step 0 [1] (by decide+kernel)<|.cons (i:=0) I (.p I (.zvd I I I Y130 I)<|.nil ⟨I,I⟩) ?_<|.cons (i:=1) I (.p I (.fa I<|G87_0 _)<|.nil ⟨I,I⟩) ?_ .nil;·exact .kt sA5 I
   ·exact .kt sA6 I
instance pair_Decide_1_ok:Kd1 28 zis (λt0=>.ref<|vb t0) zvr.enc:=⟨λn t0 r h=>.ot Tryz.func28 I Tryz.ntmps28 I λ_ _=>walk h⟩
instance pair_Decide_2_ok:Kd1 29 zit (λt0=>.ref<|vb t0) zvr.enc:=⟨λn t0 r h=>.ot Tryz.func29 I Tryz.ntmps29 I λ_ _=>walk h⟩
instance pair_Decide_3_ok:Kd0 30 ziu zvr.enc:=⟨λn r h=>.ot Tryz.func30 I Tryz.ntmps30 I λ_ _=>walk h⟩
theorem zll (n t0 t1 t2 t3 r)(h:zcm n t0 t1 t2 t3=O r):Pure pg 10 [xZ t0,wE t1,.int t2,eB t3]<|.tup [zvr.enc r.1,.int r.2]:=by
 have:HA 15:=⟨⟩;refine Pure.ot Tryz.func10 I Tryz.ntmps10 I λA w=>.S 2 I<|.zv3 I I I I (.agg Zc42 (ds':=[.int 0,eB [],.int 0,.sl 3<|xj ww [],.int 0,.int 0,.sl 5<|xj xq [],.int 0])<|.e<|.o<|.e<|.o<|.e<|.e<|.o .e1) I<|.A 1 I<|.nil<|.S 3 I<|.xc h I (condition_System_ok _ _ _ _) λx1 h=>.A 3 I<|.aS I<|.A 1 I<|.nil<|.seq<|.seq<|.plain 6 I<|.A 3 I<|.jO 2 (x1.2==2) I (λb2=>?_) ?_;·exact walk h
 refine .nil<|.nil<|.K [2,8,10,11,28] I<|.zu7 I h (λh=>?_) λh=>?_;·exact walk h
 ·refine .skip<|.seq<|.seq<|.plain 6 I<|.A 3 I<|.jO 2 (Z<|65536<t2) I (λb3=>?_) ?_;·exact walk h
  refine .nil<|.nil<|.zu7 I h (λh=>?_) λh=>?_;·exact walk h
  ·refine .skip<|.seq<|.sA 2 I<|.zu7 I h (λh=>?_) λh=>?_;·exact walk h
   ·refine .skip<|.S 2 I<|.xc h I (zlv _ _ _) λx4 h=>.A 3 I<|.aS I<|.A 1 I<|.nil<|.K [8,11,12] I<|.seq<|.sA 2 I<|.zu7 I h (λh=>?_) λh=>?_;·exact walk h
    ·refine .skip<|.sr<|.makeMap (λn:Int=>wQ .i64 n) (λd:D=>d) I I I I<|.p I (.makeFunc I I)<|.zyT (k:=0) (v:=.fn (.func 28) [] [.ref<|vb x4.1]) I I I U95 KT3 I I I I<|.p I (.makeFunc I I)<|.zyT (k:=1) (v:=.fn (.func 29) [] [.ref<|vb x4.1]) I I I U95 KT3 I I I I<|.zyT (k:=2) (v:=.fn (.func 30) [] []) I I I U95 KT3 I I I I<|.A 2 I<|.nil<|.S 3 I ?_;by_cases hq:(x4.1.kind==0)=U
     ·rw[if_pos hq]at h;have hk_9:x4.1.kind=0:=by simpa using hq
      refine .p I (.zy0 (.fn (.func 28) [] [.ref<|vb x4.1]) (by rw[hk_9];rfl)<|.zyS I U95 KT3 I I I (k:=x4.1.kind) (z:=D.val .nilFunc)<|.val Zv94)<|.A 1 I<|.nil<|.S 1 I<|bK h λx10 q10 h=>.p I (.dyn I I I ⟨_,_,I,K28,pair_Decide_1_ok _ _ _ q10⟩)<|.zv3 I I I I (.agg Zc42 (ds':=[.int 0,eB [],.int 0,.sl 3<|xj ww [],.int 0,.int 0,.sl 5<|xj xq [],.int 0])<|.e<|.o<|.e<|.o<|.e<|.e<|.o .e1) I<|.so I<|.nil<|.K [8,12,15] I<|.S 3 I<|.so I<|.nil<|.sr<|.p I (.zwJ I I I Y42 (yt I) (v:=.d<|zvr.enc (⟨x10.kind,x10.state,x10.tree,x4.1.steps⟩:zvr)) I)<|.so I<|.A 1 I<|.nil<|.ret ?_;cases h;exact zeQ I I Y42 (.v<|.v<|.v<|.v<|.v<|.v<|.v .v1) I<|.d _
     ·rw[if_neg hq]at h;by_cases hq:(x4.1.kind==1)=U
      ·rw[if_pos hq]at h;have hk_7:x4.1.kind=1:=by simpa using hq
       refine .p I (.zy0 (.fn (.func 29) [] [.ref<|vb x4.1]) (by rw[hk_7];rfl)<|.zyS I U95 KT3 I I I (k:=x4.1.kind) (z:=D.val .nilFunc)<|.val Zv94)<|.A 1 I<|.nil<|.S 1 I<|bK h λx8 q8 h=>.p I (.dyn I I I ⟨_,_,I,K29,pair_Decide_2_ok _ _ _ q8⟩)<|.zv3 I I I I (.agg Zc42 (ds':=[.int 0,eB [],.int 0,.sl 3<|xj ww [],.int 0,.int 0,.sl 5<|xj xq [],.int 0])<|.e<|.o<|.e<|.o<|.e<|.e<|.o .e1) I<|.so I<|.nil<|.K [8,12,15] I<|.S 3 I<|.so I<|.nil<|.sr<|.p I (.zwJ I I I Y42 (yt I) (v:=.d<|zvr.enc (⟨x8.kind,x8.state,x8.tree,x4.1.steps⟩:zvr)) I)<|.so I<|.A 1 I<|.nil<|.ret ?_;cases h;exact zeQ I I Y42 (.v<|.v<|.v<|.v<|.v<|.v<|.v .v1) I<|.d _
      ·rw[if_neg hq]at h;by_cases hq:(x4.1.kind==2)=U
       ·rw[if_pos hq]at h;have hk_5:x4.1.kind=2:=by simpa using hq
        refine .p I (.zy0 (.fn (.func 30) [] []) (by rw[hk_5];rfl)<|.zyS I U95 KT3 I I I (k:=x4.1.kind) (z:=D.val .nilFunc)<|.val Zv94)<|.A 1 I<|.nil<|.S 1 I<|bK h λx6 q6 h=>.p I (.dyn I I I ⟨_,_,I,K30,pair_Decide_3_ok _ _ q6⟩)<|.zv3 I I I I (.agg Zc42 (ds':=[.int 0,eB [],.int 0,.sl 3<|xj ww [],.int 0,.int 0,.sl 5<|xj xq [],.int 0])<|.e<|.o<|.e<|.o<|.e<|.e<|.o .e1) I<|.so I<|.nil<|.K [8,12,15] I<|.S 3 I<|.so I<|.nil<|.sr<|.p I (.zwJ I I I Y42 (yt I) (v:=.d<|zvr.enc (⟨x6.kind,x6.state,x6.tree,x4.1.steps⟩:zvr)) I)<|.so I<|.A 1 I<|.nil<|.ret ?_;cases h;exact zeQ I I Y42 (.v<|.v<|.v<|.v<|.v<|.v<|.v .v1) I<|.d _
       ·rw[if_neg hq]at h;cases h
instance pair_Decide_i:Kd4 10 zcm xZ wE xo (slE 1 xo) λr=>.tup [zvr.enc r.1,.int r.2]:=⟨λn t0 t1 t2 t3 r h=>zll n t0 t1 t2 t3 r h⟩
end
