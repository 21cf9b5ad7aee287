/- Part of the proof of one law of the seat. -/
import Derived.Test.YtipkniadbkndfaaGreatDoorFr08
import Derived.Shelf.SlGeneric
import Derived.Ground.SlsfProg
set_option linter.unusedVariables false
set_option linter.unusedSectionVars false
set_option linter.unusedSimpArgs false
set_option maxRecDepth 100000
set_option maxHeartbeats 40000000
namespace Go.Proofs.YtipkniadbkndfaaGreatDoor
open Go Go.RowKit
abbrev LI (l:List Int):D:=.sl 1 (l.map D.int)
abbrev yfn (l:Nat):D:=.fn (.yield l) [] []
abbrev HT (out:List (List Int)):List Blk:=[.box 51 [.vec 1 out.length],.vec 22 1 (out.map LI)]
abbrev HH (g:zuy) (l:Nat) (out:List (List Int)):List Blk:=[.box 51 [.vec 1 out.length],.vec 22 1 (out.map LI),.box 60 [.fn (.func 210) [] [.d (.ref g.enc),.d (.ref (yfn l)),.loc 2 0]]]
theorem dK210:ztF pg 210=true:=by kernel_rfl
theorem dK166:ztF pg 166=true:=by kernel_rfl
theorem dK167:ztF pg 167=true:=by kernel_rfl
theorem dK168:ztF pg 168=true:=by kernel_rfl
theorem dK165:ztF pg 165=true:=by kernel_rfl
theorem zxZ:ztF pg 211=true:=by kernel_rfl
theorem dK54:ztF pg 54=true:=by kernel_rfl
theorem zxd:ztF pg 163=true:=by kernel_rfl
theorem dY60:zae pg 60=some none:=by kernel_rfl
theorem dY51:zae pg 51=some none:=by kernel_rfl
theorem dC60:cellsOf pg 60=some 1:=by kernel_rfl
theorem dC51:cellsOf pg 51=some 1:=by kernel_rfl
theorem dZa60:zbD pg 60=some .nilFunc:=by kernel_rfl
theorem dZa51:zbD pg 51=some (.slice none 0 0):=by kernel_rfl
theorem dZ223:zcD pg 223 (some 2)=true:=by kernel_rfl
def Tryz.zxM:Go.Shelf.Ren:=⟨fun | 6=>167 | 15=>213 | 14=>212 | 28=>256 | 29=>257 | 20=>248 | 21=>249 | 22=>250 | 23=>251 | 24=>252 | 25=>253 | 26=>254 | 27=>255 | 46=>282 | 47=>283 | 48=>284 | 49=>285 | 50=>286 | 57=>296 | n=>n,fun | 22=>51 | 24=>22 | 25=>166 | 3=>3 | 39=>260 | 0=>0 | 53=>296 | 55=>298 | 4=>4 | 46=>290 | 45=>289 | 50=>160 | 5=>5 | 9=>9 | 66=>317 | 70=>279 | 76=>328 | 77=>302 | n=>n,fun | n=>n⟩
theorem Tryz.sortLL:Go.Proofs.SlLaysF.n6 pg Tryz.zxM:=by
 constructor <;> first | kernel_rfl | (intro w;kernel_rfl) | exact zrx (by kernel_rfl) (by kernel_rfl) (by kernel_rfl)
theorem dE51:zbK pg 51 22 1 24=true:=by kernel_rfl
theorem Tri.seqJ [ztC] {P} {C} {Q} {s} {x y} (J) (hy:∀ s,J s→Tri P C y Q s) (hx:Tri P C x (zv6 J Q) s):Tri P C (.seq x y) Q s:=
 .seq (hx.mono λe s h=>by cases e <;> first | exact hy s h | exact h)
theorem TriL.visit {G:ztC} {g} {l} {rec} {xs} {out out2} {T1}
  (IH:∀ (A0 own0) (w0) (gh),zvG ⟨A0,own0,w0,57,λ_ _=>False,gh,3,[]⟩ l rec T1→Tri pg ⟨A0,own0,w0,57,λ_ _=>False,gh,3,[]⟩ (zhs pg 210) (retV [.tmp 5] λv H2=>v = .d (.bool true)∧∃ X,H2=HH g l out2++X)
   ⟨zbE 0 [.d (LI xs),.d (.ref g.enc),.d (.ref (yfn l)),.loc 2 0],HH g l out⟩)
  {C} {ops} {o:Oper} {rest} {Q} {T} {d:Nat} (hg:o.guard=none) (hd:o.dst=some d) (hdn:Nat.blt d C.n=true) (hc:zvk pg o (ev T) 210 [.d (LI xs),.d (.ref g.enc),.d (.ref (yfn l)),.loc 2 0])
  (hu:(T.all λp=>p.2.under 3)=true) (hgn:Nat.ble C.gn 3=true) (hs:zvG C l rec T1) (hT:Sub ((d,.d (.bool true))::T) ((d,.d (.bool true))::T))
  (kk:TriL pg C ops rest Q ⟨(d,.d (.bool true))::T,HH g l out2⟩):TriL pg C ops (o::rest) Q ⟨T,HH g l out⟩:=by
 refine TriL.zx2 (rs:=[.tmp 5]) hg (by grind [zt2]) hc Tryz.func210 rfl Tryz.ntmps210 rfl rfl hu hgn λown0 w gh f c=>?_
 have a:=IH C.A0 own0 w gh ⟨f _ hs.1,λq h=>c _ (hs.2 q h)⟩
 rw [zcF Tryz.func210 rfl] at a
 refine a.mono λe s ⟨i,j,k,m,X,b⟩=>⟨i,j,k,?_⟩
 rw [m,b,hd]
 exact TriL.ge (t:=⟨(d,.d (.bool true))::T,HH g l out2⟩) ⟨X,rfl,rfl,by grind [V.under],hT⟩ hgn kk
set_option maxRecDepth 10000 in
theorem zng {G1} [G:ztC] {l} {rec} {ia ib ic} {ra rb} (hGs : @ztC.gs G=(l,.loop rec)::@ztC.gs G1) (hGE:∀ q∈@ztC.gs G1,q.1≠l) (hsub:∀ p∈@ztC.gs globs,p∈@ztC.gs G)
  (hrec:rec.state = .ready∧rec.pending=none∧rec.params = #[19]∧rec.tmps.size=27) (hasg:rec.assign = .region ia ra.toArray false) (hbd:rec.body = .block ib (.region ic rb.toArray false)) (hda:(ra.all zdJ)=true) (hdb:(rb.all zdJ)=true) (n) (g)
  (hY:∀ (A0 own0) (w) (gh) (out out') (z),app 24 out [z]=some out'→@TriL G1 _ pg ⟨A0,own0,w,27,λ_ _=>False,gh,3,[]⟩ ra.toArray ra (λe s1=>e = .normal∧∀ (own0) (w),
   @TriL G1 _ pg ⟨A0,own0,w,27,λ_ _=>False,gh,3,[]⟩ rb.toArray rb (λe s2=>e = .normal∧s2.H=HH g l out') s1) ⟨(19,.d (LI z))::[(7,.loc 0 0)],HH g l out⟩) :
  ∀ (k) (xs) (out out2),zC n g k xs out=some out2→∀ (A0 own0) (w0) (gh),zvG ⟨A0,own0,w0,57,λ_ _=>False,gh,3,[]⟩ l rec [(7,.loc 0 0)] →
   Tri pg ⟨A0,own0,w0,57,λ_ _=>False,gh,3,[]⟩ (zhs pg 210) (retV [.tmp 5] λv H2=>v = .d (.bool true)∧∃ X,H2=HH g l out2++X) ⟨zbE 0 [.d (LI xs),.d (.ref g.enc),.d (.ref (yfn l)),.loc 2 0],HH g l out⟩
 | 0,xs,out,out2,h,_,_,_,_,_=>by grind [zC]
 | k+1,xs,out,out2,h,A0,own0,w0,gh,hs=>by
  have hasP:∀ n (g:zuy) a b r,zaQ n g a b=some r→Pure pg 211 [zuy.enc g,.int a,.int b] (.bool r):=λ_ _ _ _ _ h=>Pure.widen hsub (digraph_graph_has_ok _ _ _ _ _ h)
  have hasP:∀ n a b r,zaQ n g a b=some r→Pure pg 211 [zuy.enc g,.int a,.int b] (.bool r):=λn a b r h=>hasP n g a b r h
  have contP:∀ n b r,zaF n xs b=some r→Pure pg 54 [eB xs,.int b] (.bool r):=λ_ _ _ h=>Pure.widen hsub (slices_Contains_Lint_int_ok _ _ _ _ h)
  have cloneP:∀ ys zs,app 8 [] ys=some zs→Pure pg 163 [eB ys] (eB zs):=λ_ _ h=>zo6 Tryz.func163 rfl Tryz.ntmps163 rfl E22 rfl (λ_=>rfl) (λ_=>rfl) h
  have hgn3:Nat.ble (Ctx.gn ⟨A0,own0,w0,57,λ_ _=>False,gh,3,[]⟩) 3=true:=rfl
  have IH:=zng hGs hGE hsub hrec hasg hbd hda hdb n g hY k
  rw [zcF Tryz.func210 rfl]
  simp only [zC] at h
  refine .sr <| .z I <| .nil <| .sr <| .m I <| .m I <| .p I (.len I U22 I) <| .p I (.sb I) <| bK h λlast ql h=>.p I (.ix I U22 S3 ql) <| .p I (.ld Y3 I) <| .z I <| .nil ?_
  obtain ⟨first,qf,h⟩:=zud h
  obtain ⟨e,he,h⟩:=zud h
  refine Tri.seqJ (λs=>∃ out1,ztz (zC.l1 n g (zC n g k) xs last) n (ztu first 1,out1)=some out2∧s=⟨[(0,.d (LI xs)),(1,.d (.ref g.enc)),(2,.d (.ref (yfn l))),(3,.loc 2 0),(6,.d (.int last)),(26,.d (.bool false))],HH g l out1⟩) ?_ ?_
  ·rintro s ⟨out1,h,rfl⟩
   refine .seq <| .seq <| .region <| .m I <| .p I (.ix I U22 S3 qf) <| .p I (.ld Y3 I) <| .p I (.ad I) <| .z I <| .nil ?_
   refine .block <| .loopS [0,1,2,3,6] (λ(v:Int×List (List Int))=>[(7,.d (.int v.1))]) (λv=>[(0,.box 51 [.vec 1 v.2.length]),(1,.vec 22 1 (v.2.map LI))]) (.c4 I <| .c I .nil) h ⟨_,Fz8 I <| FzE⟩ (λrec' v h=>?_)
   refine .seq <| .seq <| .region <| .m I <| .p I (.fa I (zrw _)) <| .p I (.ld Y3 I) <| .p I (.ls I) <| .nil <| .keep (HH g l v.2) [0,1,2,3,6,7,34] (.c4 I <| .c2 I <| .c I .nil) I <| .ztJ I h (λh=>?_) λh=>?_
   ·obtain ⟨e2,he2,h⟩:=zud h
    refine .skip <| Tri.seqJ (λs=>∃ out1,rec' (ztu v.1 1,out1)=some out2∧s=⟨[(0,.d (LI xs)),(1,.d (.ref g.enc)),(2,.d (.ref (yfn l))),(3,.loc 2 0),(6,.d (.int last)),(7,.d (.int v.1)),(56,.d (.bool false))],HH g l out1⟩) ?_ ?_
    ·rintro s ⟨out1,h,rfl⟩
     refine .region <| .m I <| .p I (.ad I) <| .z I <| .nil ⟨_,h,⟨_,Fz8 I <| FzE⟩⟩
    refine .block <| .seq <| .drawI 20 Hm I ?_
    cases e2 with
    | false=>
     rw [if_neg (by simp)] at h
     refine .first 1 rfl (by decide +kernel) rfl (.none rfl) ?_
     refine .first 2 rfl (by decide +kernel) rfl (.none rfl) ?_
     refine .step 0 [] (by decide +kernel) (.cons (i:=0) rfl (OneI.of rfl (.p I (.ld Y223 I) (.nil ⟨rfl,rfl⟩))) ?_ .nil)
     refine .step 3 [] (by decide +kernel) (.cons (i:=3) rfl (OneI.of rfl (.p I (.call I zxZ I (hasP _ _ _ _ he2)) (.nil ⟨rfl,rfl⟩))) ?_ .nil)
     refine .first 4 rfl (by decide +kernel) rfl (.none rfl) ?_
     refine .skip 5 rfl (by decide +kernel) rfl rfl (.some rfl) ?_
     refine .skip 6 rfl (by decide +kernel) rfl rfl (.some rfl) ?_
     refine .step 7 [] (by decide +kernel) (.cons (i:=7) rfl (OneI.no rfl (.some rfl)) ?_ .nil)
     refine .skip 8 rfl (by decide +kernel) rfl rfl (.some rfl) ?_
     refine .step 9 [] (by decide +kernel) (.cons (i:=9) rfl (OneI.of rfl (.p I (.pick (b:=false) (v:=.d (.bool false)) I I (λh=>by cases h) (λ_=>rfl)) (.nil ⟨rfl,rfl⟩))) ?_ .nil)
     refine .first 10 rfl (by decide +kernel) rfl (.none rfl) ?_
     refine .skip 11 rfl (by decide +kernel) rfl rfl (.some rfl) ?_
     refine .skip 12 rfl (by decide +kernel) rfl rfl (.some rfl) ?_
     refine .skip 14 rfl (by decide +kernel) rfl rfl (.some rfl) ?_
     refine .skip 15 rfl (by decide +kernel) rfl rfl (.some rfl) ?_
     refine .step 13 [] (by decide +kernel) (.cons (i:=13) rfl (OneI.no rfl (.some rfl)) ?_ .nil)
     refine .step 16 [] (by decide +kernel) (.cons (i:=16) rfl (OneI.no rfl (.some rfl)) ?_ .nil)
     refine .step 17 [] (by decide +kernel) (.cons (i:=17) rfl (OneI.no rfl (.some rfl)) ?_ .nil)
     refine .skip 18 rfl (by decide +kernel) rfl rfl (.some rfl) ?_
     refine .step 19 [] (by decide +kernel) (.cons (i:=19) rfl (OneI.of rfl (.p I (.pick (b:=false) (v:=.d (.bool false)) I I (λh=>by cases h) (λ_=>rfl)) (.nil ⟨rfl,rfl⟩))) ?_ .nil)
     refine .done (by decide +kernel) ?_
     refine .keep (HH g l v.2) [0,1,2,3,6,7,56] (.c4 I <| .c2 I <| .c I .nil) I ?_
     refine .cond (t:=false) rfl (λh=>by cases h) (λ_=>.skip ?_)
     exact ⟨_,h,rfl⟩
    | true=>
     rw [if_pos rfl] at h
     obtain ⟨f,hf,h⟩:=zud h
     cases f with
     | true=>
      rw [if_pos rfl] at h
      refine .first 1 rfl (by decide +kernel) rfl (.none rfl) ?_
      refine .first 2 rfl (by decide +kernel) rfl (.none rfl) ?_
      refine .step 0 [] (by decide +kernel) (.cons (i:=0) rfl (OneI.of rfl (.p I (.ld Y223 I) (.nil ⟨rfl,rfl⟩))) ?_ .nil)
      refine .step 3 [] (by decide +kernel) (.cons (i:=3) rfl (OneI.of rfl (.p I (.call I zxZ I (hasP _ _ _ _ he2)) (.nil ⟨rfl,rfl⟩))) ?_ .nil)
      refine .first 4 rfl (by decide +kernel) rfl (.none rfl) ?_
      refine .first 5 rfl (by decide +kernel) rfl (.some rfl) ?_
      refine .first 6 rfl (by decide +kernel) rfl (.some rfl) ?_
      refine .step 7 [] (by decide +kernel) (.cons (i:=7) rfl (OneI.ofG rfl (.some rfl) (.p I (.call I dK54 I (contP _ _ _ hf)) (.nil ⟨rfl,rfl⟩))) ?_ .nil)
      refine .step 8 [] (by decide +kernel) (.cons (i:=8) rfl (OneI.ofG rfl (.some rfl) (.p I (.nt I) (.nil ⟨rfl,rfl⟩))) ?_ .nil)
      refine .step 9 [] (by decide +kernel) (.cons (i:=9) rfl (OneI.of rfl (.p I (.pick (b:=true) (v:=.d (.bool false)) I I (λ_=>rfl) (λh=>by cases h)) (.nil ⟨rfl,rfl⟩))) ?_ .nil)
      refine .first 10 rfl (by decide +kernel) rfl (.none rfl) ?_
      refine .skip 11 rfl (by decide +kernel) rfl rfl (.some rfl) ?_
      refine .skip 12 rfl (by decide +kernel) rfl rfl (.some rfl) ?_
      refine .skip 14 rfl (by decide +kernel) rfl rfl (.some rfl) ?_
      refine .skip 15 rfl (by decide +kernel) rfl rfl (.some rfl) ?_
      refine .step 13 [] (by decide +kernel) (.cons (i:=13) rfl (OneI.no rfl (.some rfl)) ?_ .nil)
      refine .step 16 [] (by decide +kernel) (.cons (i:=16) rfl (OneI.no rfl (.some rfl)) ?_ .nil)
      refine .step 17 [] (by decide +kernel) (.cons (i:=17) rfl (OneI.no rfl (.some rfl)) ?_ .nil)
      refine .skip 18 rfl (by decide +kernel) rfl rfl (.some rfl) ?_
      refine .step 19 [] (by decide +kernel) (.cons (i:=19) rfl (OneI.of rfl (.p I (.pick (b:=false) (v:=.d (.bool false)) I I (λh=>by cases h) (λ_=>rfl)) (.nil ⟨rfl,rfl⟩))) ?_ .nil)
      refine .done (by decide +kernel) ?_
      refine .keep (HH g l v.2) [0,1,2,3,6,7,56] (.c4 I <| .c2 I <| .c I .nil) I ?_
      refine .cond (t:=false) rfl (λh=>by cases h) (λ_=>.skip ?_)
      exact ⟨_,h,rfl⟩
     | false=>
      rw [if_neg (by simp)] at h
      obtain ⟨c2,hc2,h⟩:=zud h
      obtain ⟨l2,hl2,h⟩:=zud h
      obtain ⟨out3,ho3,h⟩:=zud h
      refine TriI.via 3 (bN 20 131071) ⟨[(0,.d (LI xs)),(1,.d (.ref g.enc)),(2,.d (.ref (yfn l))),(3,.loc 2 0),(6,.d (.int last)),(7,.d (.int v.1)),(47,.d (.bool true)),(48,.fn (.func 210) [] [.d (.ref g.enc),.d (.ref (yfn l)),.loc 2 0]),(53,.d (LI l2))],HH g l v.2⟩ ?_ λtail=>?_
      ·have visitCall:∀ {C:Ctx} {ops:Array Oper} {o:Oper} {rest:List Oper} {Q:Exit→St→Prop} {T:List (Nat×V)} {d:Nat},o.guard=none→o.dst=some d→Nat.blt d C.n=true→zvk pg o (ev T) 210 [.d (LI l2),.d (.ref g.enc),.d (.ref (yfn l)),.loc 2 0]→(T.all λp=>p.2.under 3)=true→Nat.ble C.gn 3=true →
         zvG C l rec [(7,.loc 0 0)]→Sub ((d,.d (.bool true))::T) ((d,.d (.bool true))::T)→TriL pg C ops rest Q ⟨(d,.d (.bool true))::T,HH g l out3⟩→TriL pg C ops (o::rest) Q ⟨T,HH g l v.2⟩:=λa1 a2 a3 a4 a5 a6 a7 a8 a9=>TriL.visit (IH _ _ _ ho3) a1 a2 a3 a4 a5 a6 a7 a8 a9
       refine .step 17 [] (by decide +kernel) (.cons (i:=17) rfl (OneI.ofG rfl (.some rfl) (visitCall rfl rfl rfl (zvk.clos (xs:=[.d (LI l2)]) (caps:=[.d (.ref g.enc),.d (.ref (yfn l)),.loc 2 0]) rfl rfl dK210 rfl) rfl rfl hs (Fz8 I <| Fz2 I trivial) (.nil ⟨rfl,rfl⟩))) ?_ .nil)
       refine .step 18 [] (by decide +kernel) (.cons (i:=18) rfl (OneI.ofG rfl (.some rfl) (.p I (.nt I) (.nil ⟨rfl,rfl⟩))) ?_ .nil)
       refine .step 19 [] (by decide +kernel) (.cons (i:=19) rfl (OneI.of rfl (.p I (.pick (b:=true) (v:=.d (.bool false)) I I (λ_=>rfl) (λh=>by cases h)) (.nil ⟨rfl,rfl⟩))) ?_ .nil)
       refine .done (by decide +kernel) ?_
       refine .keep (HH g l out3) [0,1,2,3,6,7,56] (.c4 I <| .c2 I <| .c I .nil) I ?_
       refine .cond (t:=false) rfl (λh=>by cases h) (λ_=>.skip ?_)
       exact ⟨_,h,rfl⟩
      refine .first 1 rfl (by decide +kernel) rfl (.none rfl) ?_
      refine .first 2 rfl (by decide +kernel) rfl (.none rfl) ?_
      refine .step 0 [] (by decide +kernel) (.cons (i:=0) rfl (OneI.of rfl (.p I (.ld Y223 I) (.nil ⟨rfl,rfl⟩))) ?_ .nil)
      refine .step 3 [] (by decide +kernel) (.cons (i:=3) rfl (OneI.of rfl (.p I (.call I zxZ I (hasP _ _ _ _ he2)) (.nil ⟨rfl,rfl⟩))) ?_ .nil)
      refine .first 4 rfl (by decide +kernel) rfl (.none rfl) ?_
      refine .first 5 rfl (by decide +kernel) rfl (.some rfl) ?_
      refine .first 6 rfl (by decide +kernel) rfl (.some rfl) ?_
      refine .step 7 [] (by decide +kernel) (.cons (i:=7) rfl (OneI.ofG rfl (.some rfl) (.p I (.call I dK54 I (contP _ _ _ hf)) (.nil ⟨rfl,rfl⟩))) ?_ .nil)
      refine .step 8 [] (by decide +kernel) (.cons (i:=8) rfl (OneI.ofG rfl (.some rfl) (.p I (.nt I) (.nil ⟨rfl,rfl⟩))) ?_ .nil)
      refine .step 9 [] (by decide +kernel) (.cons (i:=9) rfl (OneI.of rfl (.p I (.pick (b:=true) (v:=.d (.bool true)) I I (λ_=>rfl) (λh=>by cases h)) (.nil ⟨rfl,rfl⟩))) ?_ .nil)
      refine .first 10 rfl (by decide +kernel) rfl (.none rfl) ?_
      refine .first 12 rfl (by decide +kernel) rfl (.some rfl) ?_
      refine .first 14 rfl (by decide +kernel) rfl (.some rfl) ?_
      refine .step 11 [13,15] (by decide +kernel) (.cons (i:=11) rfl (OneI.ofG rfl (.some rfl) (.p I (.ztT I I I dY60 I) (.nil ⟨rfl,rfl⟩))) ?_ (.cons (i:=13) rfl (OneI.ofG rfl (.some rfl) (.clone I I I I zxd Tryz.func163 I Tryz.ntmps163 I I E22 I (λ_=>I) (λ_=>I) hc2 I hgn3 (.nil ⟨rfl,rfl⟩))) ?_ (.cons (i:=15) rfl (OneI.ofG rfl (.some rfl) (.p I (.zug [_] I I E22 I (λ_=>I) I (enc:=D.int)) (.nil ⟨rfl,rfl⟩))) ?_ .nil)))
      ·refine .step 13 [15] (by decide +kernel) (.cons (i:=13) rfl (OneI.ofG rfl (.some rfl) (.clone I I I I zxd Tryz.func163 I Tryz.ntmps163 I I E22 I (λ_=>I) (λ_=>I) hc2 I hgn3 (.nil ⟨rfl,rfl⟩))) ?_ (.cons (i:=15) rfl (OneI.ofG rfl (.some rfl) (.p I (.zug [_] I I E22 I (λ_=>I) I (enc:=D.int)) (.nil ⟨rfl,rfl⟩))) ?_ .nil))
       ·refine .step 15 [] (by decide +kernel) (.cons (i:=15) rfl (OneI.ofG rfl (.some rfl) (.p I (.zug [_] I I E22 I (λ_=>I) I (enc:=D.int)) (.nil ⟨rfl,rfl⟩))) ?_ .nil)
        refine .step 16 [] (by decide +kernel) (.cons (i:=16) rfl (OneI.ofG rfl (.some rfl) (.app I I I I I I I I E22 I (λ_=>I) hl2 (.ztW [3] (.cons (t:=53) rfl (.vec (zur rfl) rfl (by simp)) .nil) (.nil ⟨rfl,rfl⟩)))) ?_ .nil)
        exact .zvE [0,1,2,3,6,7,47,48,53] (.c8 I <| .c I .nil) (.cut (HH g l v.2) ⟨_,rfl⟩ rfl rfl (Fz8 I <| FzE) hgn3 (.to _ (by decide +kernel) tail))
       ·refine .step 13 [] (by decide +kernel) (.cons (i:=13) rfl (OneI.ofG rfl (.some rfl) (.clone I I I I zxd Tryz.func163 I Tryz.ntmps163 I I E22 I (λ_=>I) (λ_=>I) hc2 I hgn3 (.nil ⟨rfl,rfl⟩))) ?_ .nil)
        refine .step 16 [] (by decide +kernel) (.cons (i:=16) rfl (OneI.ofG rfl (.some rfl) (.app I I I I I I I I E22 I (λ_=>I) hl2 (.ztW [3] (.cons (t:=53) rfl (.vec (zur rfl) rfl (by simp)) .nil) (.nil ⟨rfl,rfl⟩)))) ?_ .nil)
        exact .zvE [0,1,2,3,6,7,47,48,53] (.c8 I <| .c I .nil) (.cut (HH g l v.2) ⟨_,rfl⟩ rfl rfl (Fz8 I <| FzE) hgn3 (.to _ (by decide +kernel) tail))
      ·refine .step 11 [15] (by decide +kernel) (.cons (i:=11) rfl (OneI.ofG rfl (.some rfl) (.p I (.ztT I I I dY60 I) (.nil ⟨rfl,rfl⟩))) ?_ (.cons (i:=15) rfl (OneI.ofG rfl (.some rfl) (.p I (.zug [_] I I E22 I (λ_=>I) I (enc:=D.int)) (.nil ⟨rfl,rfl⟩))) ?_ .nil))
       ·refine .step 15 [] (by decide +kernel) (.cons (i:=15) rfl (OneI.ofG rfl (.some rfl) (.p I (.zug [_] I I E22 I (λ_=>I) I (enc:=D.int)) (.nil ⟨rfl,rfl⟩))) ?_ .nil)
        refine .step 16 [] (by decide +kernel) (.cons (i:=16) rfl (OneI.ofG rfl (.some rfl) (.app I I I I I I I I E22 I (λ_=>I) hl2 (.ztW [3] (.cons (t:=53) rfl (.vec (zur rfl) rfl (by simp)) .nil) (.nil ⟨rfl,rfl⟩)))) ?_ .nil)
        exact .zvE [0,1,2,3,6,7,47,48,53] (.c8 I <| .c I .nil) (.cut (HH g l v.2) ⟨_,rfl⟩ rfl rfl (Fz8 I <| FzE) hgn3 (.to _ (by decide +kernel) tail))
       ·refine .step 11 [16] (by decide +kernel) (.cons (i:=11) rfl (OneI.ofG rfl (.some rfl) (.p I (.ztT I I I dY60 I) (.nil ⟨rfl,rfl⟩))) ?_ (.cons (i:=16) rfl (OneI.ofG rfl (.some rfl) (.app I I I I I I I I E22 I (λ_=>I) hl2 (.ztW [3] (.cons (t:=53) rfl (.vec (zur rfl) rfl (by simp)) .nil) (.nil ⟨rfl,rfl⟩)))) ?_ .nil))
        ·refine .step 16 [] (by decide +kernel) (.cons (i:=16) rfl (OneI.ofG rfl (.some rfl) (.app I I I I I I I I E22 I (λ_=>I) hl2 (.ztW [3] (.cons (t:=53) rfl (.vec (zur rfl) rfl (by simp)) .nil) (.nil ⟨rfl,rfl⟩)))) ?_ .nil)
         exact .zvE [0,1,2,3,6,7,47,48,53] (.c8 I <| .c I .nil) (.cut (HH g l v.2) ⟨_,rfl⟩ rfl rfl (Fz8 I <| FzE) hgn3 (.to _ (by decide +kernel) tail))
        ·refine .step 11 [] (by decide +kernel) (.cons (i:=11) rfl (OneI.ofG rfl (.some rfl) (.p I (.ztT I I I dY60 I) (.nil ⟨rfl,rfl⟩))) ?_ .nil)
         exact .zvE [0,1,2,3,6,7,47,48,53] (.c8 I <| .c I .nil) (.cut (HH g l v.2) ⟨_,rfl⟩ rfl rfl (Fz8 I <| FzE) hgn3 (.to _ (by decide +kernel) tail))
      ·refine .step 11 [13] (by decide +kernel) (.cons (i:=11) rfl (OneI.ofG rfl (.some rfl) (.p I (.ztT I I I dY60 I) (.nil ⟨rfl,rfl⟩))) ?_ (.cons (i:=13) rfl (OneI.ofG rfl (.some rfl) (.clone I I I I zxd Tryz.func163 I Tryz.ntmps163 I I E22 I (λ_=>I) (λ_=>I) hc2 I hgn3 (.nil ⟨rfl,rfl⟩))) ?_ .nil))
       ·refine .step 13 [] (by decide +kernel) (.cons (i:=13) rfl (OneI.ofG rfl (.some rfl) (.clone I I I I zxd Tryz.func163 I Tryz.ntmps163 I I E22 I (λ_=>I) (λ_=>I) hc2 I hgn3 (.nil ⟨rfl,rfl⟩))) ?_ .nil)
        refine .step 16 [] (by decide +kernel) (.cons (i:=16) rfl (OneI.ofG rfl (.some rfl) (.app I I I I I I I I E22 I (λ_=>I) hl2 (.ztW [3] (.cons (t:=53) rfl (.vec (zur rfl) rfl (by simp)) .nil) (.nil ⟨rfl,rfl⟩)))) ?_ .nil)
        exact .zvE [0,1,2,3,6,7,47,48,53] (.c8 I <| .c I .nil) (.cut (HH g l v.2) ⟨_,rfl⟩ rfl rfl (Fz8 I <| FzE) hgn3 (.to _ (by decide +kernel) tail))
       ·refine .step 11 [16] (by decide +kernel) (.cons (i:=11) rfl (OneI.ofG rfl (.some rfl) (.p I (.ztT I I I dY60 I) (.nil ⟨rfl,rfl⟩))) ?_ (.cons (i:=16) rfl (OneI.ofG rfl (.some rfl) (.app I I I I I I I I E22 I (λ_=>I) hl2 (.ztW [3] (.cons (t:=53) rfl (.vec (zur rfl) rfl (by simp)) .nil) (.nil ⟨rfl,rfl⟩)))) ?_ .nil))
        ·refine .step 16 [] (by decide +kernel) (.cons (i:=16) rfl (OneI.ofG rfl (.some rfl) (.app I I I I I I I I E22 I (λ_=>I) hl2 (.ztW [3] (.cons (t:=53) rfl (.vec (zur rfl) rfl (by simp)) .nil) (.nil ⟨rfl,rfl⟩)))) ?_ .nil)
         exact .zvE [0,1,2,3,6,7,47,48,53] (.c8 I <| .c I .nil) (.cut (HH g l v.2) ⟨_,rfl⟩ rfl rfl (Fz8 I <| FzE) hgn3 (.to _ (by decide +kernel) tail))
        ·refine .step 11 [] (by decide +kernel) (.cons (i:=11) rfl (OneI.ofG rfl (.some rfl) (.p I (.ztT I I I dY60 I) (.nil ⟨rfl,rfl⟩))) ?_ .nil)
         exact .zvE [0,1,2,3,6,7,47,48,53] (.c8 I <| .c I .nil) (.cut (HH g l v.2) ⟨_,rfl⟩ rfl rfl (Fz8 I <| FzE) hgn3 (.to _ (by decide +kernel) tail))
   ·cases h
    refine .exit <| .sr <| .z I <| .nil <| .ret ⟨.inl rfl,[.d (.bool true)],⟨_,[],rfl,rfl,rfl⟩,rfl,[],rfl⟩
  ·refine .seq <| .drawI 13 Hm I ?_
   refine TriI.via 8 (bN 13 31) ⟨[(0,.d (LI xs)),(1,.d (.ref g.enc)),(2,.d (.ref (yfn l))),(3,.loc 2 0),(6,.d (.int last)),(14,.d g.enc),(15,.d (.int last)),(18,.d (.int first))],HH g l out⟩ ?_ λtail=>?_
   ·cases e with
    | false=>
     rw [if_neg (by simp)] at h
     refine .step 5 [] (by decide +kernel) (.cons (i:=5) rfl (OneI.of rfl (.p I (.call I zxZ I (hasP _ _ _ _ he)) (.nil ⟨rfl,rfl⟩))) ?_ .nil)
     refine .first 6 rfl (by decide +kernel) rfl (.none rfl) ?_
     refine .skip 7 rfl (by decide +kernel) rfl rfl (.some rfl) ?_
     refine .skip 8 rfl (by decide +kernel) rfl rfl (.some rfl) ?_
     refine .step 9 [] (by decide +kernel) (.cons (i:=9) rfl (OneI.no rfl (.some rfl)) ?_ .nil)
     refine .step 10 [] (by decide +kernel) (.cons (i:=10) rfl (OneI.no rfl (.some rfl)) ?_ .nil)
     refine .skip 11 rfl (by decide +kernel) rfl rfl (.some rfl) ?_
     refine .step 12 [] (by decide +kernel) (.cons (i:=12) rfl (OneI.of rfl (.p I (.pick (b:=false) (v:=.d (.bool false)) I I (λh=>by cases h) (λ_=>rfl)) (.nil ⟨rfl,rfl⟩))) ?_ .nil)
     refine .done (by decide +kernel) ?_
     refine .keep (HH g l out) [0,1,2,3,6,26] (.c4 I <| .c2 I .nil) I ?_
     refine .cond (t:=false) rfl (λh=>by cases h) (λ_=>.skip ?_)
     exact ⟨_,h,rfl⟩
    | true=>
     rw [if_pos rfl] at h
     obtain ⟨c,hc,h⟩:=zud h
     obtain ⟨out1,ho1,h⟩:=zud h
     refine TriI.via 3 (bN 13 1023) ⟨[(0,.d (LI xs)),(1,.d (.ref g.enc)),(2,.d (.ref (yfn l))),(3,.loc 2 0),(6,.d (.int last)),(20,.d (.bool true)),(21,.d (yfn l)),(23,.d (LI c))],HH g l out⟩ ?_ λtail2=>?_
     ·have yieldBody:=λown0 w gh=>hY A0 own0 w gh out out1 c ho1
      refine .step 10 [] (by decide +kernel) (.cons (i:=10) rfl (OneI.yield (G1:=G1) hGs hGE hrec hasg hbd hda hdb hs rfl rfl rfl rfl rfl rfl rfl (.some rfl) rfl rfl λown0 w gh=>yieldBody own0 w gh) ?_ .nil)
      refine .step 11 [] (by decide +kernel) (.cons (i:=11) rfl (OneI.ofG rfl (.some rfl) (.p I (.nt I) (.nil ⟨rfl,rfl⟩))) ?_ .nil)
      refine .step 12 [] (by decide +kernel) (.cons (i:=12) rfl (OneI.of rfl (.p I (.pick (b:=true) (v:=.d (.bool false)) I I (λ_=>rfl) (λh=>by cases h)) (.nil ⟨rfl,rfl⟩))) ?_ .nil)
      refine .done (by decide +kernel) ?_
      refine .keep (HH g l out1) [0,1,2,3,6,26] (.c4 I <| .c2 I .nil) I ?_
      refine .cond (t:=false) rfl (λh=>by cases h) (λ_=>.skip ?_)
      exact ⟨_,h,rfl⟩
     refine .step 5 [] (by decide +kernel) (.cons (i:=5) rfl (OneI.of rfl (.p I (.call I zxZ I (hasP _ _ _ _ he)) (.nil ⟨rfl,rfl⟩))) ?_ .nil)
     refine .first 6 rfl (by decide +kernel) rfl (.none rfl) ?_
     refine .first 8 rfl (by decide +kernel) rfl (.some rfl) ?_
     refine .step 7 [9] (by decide +kernel) (.cons (i:=7) rfl (OneI.ofG rfl (.some rfl) (.p I (.ld dY60 I) (.nil ⟨rfl,rfl⟩))) ?_ (.cons (i:=9) rfl (OneI.ofG rfl (.some rfl) (.p I (.call I zxd I (cloneP _ _ hc)) (.nil ⟨rfl,rfl⟩))) ?_ .nil))
     ·refine .step 9 [] (by decide +kernel) (.cons (i:=9) rfl (OneI.ofG rfl (.some rfl) (.p I (.call I zxd I (cloneP _ _ hc)) (.nil ⟨rfl,rfl⟩))) ?_ .nil)
      exact .zvE [0,1,2,3,6,20,21,23] (.c8 I .nil) (.to _ (by decide +kernel) tail2)
     ·refine .step 7 [] (by decide +kernel) (.cons (i:=7) rfl (OneI.ofG rfl (.some rfl) (.p I (.ld dY60 I) (.nil ⟨rfl,rfl⟩))) ?_ .nil)
      exact .zvE [0,1,2,3,6,20,21,23] (.c8 I .nil) (.to _ (by decide +kernel) tail2)
   refine .first 1 rfl (by decide +kernel) rfl (.none rfl) ?_
   refine .first 2 rfl (by decide +kernel) rfl (.none rfl) ?_
   refine .step 0 [3] (by decide +kernel) (.cons (i:=0) rfl (OneI.of rfl (.p I (.ld Y223 I) (.nil ⟨rfl,rfl⟩))) ?_ (.cons (i:=3) rfl (OneI.of rfl (.p I (.ix I U22 S3 qf) (.nil ⟨rfl,rfl⟩))) ?_ .nil))
   ·refine .step 3 [] (by decide +kernel) (.cons (i:=3) rfl (OneI.of rfl (.p I (.ix I U22 S3 qf) (.nil ⟨rfl,rfl⟩))) ?_ .nil)
    refine .step 4 [] (by decide +kernel) (.cons (i:=4) rfl (OneI.of rfl (.p I (.ld Y3 I) (.nil ⟨rfl,rfl⟩))) ?_ .nil)
    exact .zvE [0,1,2,3,6,14,15,18] (.c8 I .nil) (.to _ (by decide +kernel) tail)
   ·refine .step 0 [4] (by decide +kernel) (.cons (i:=0) rfl (OneI.of rfl (.p I (.ld Y223 I) (.nil ⟨rfl,rfl⟩))) ?_ (.cons (i:=4) rfl (OneI.of rfl (.p I (.ld Y3 I) (.nil ⟨rfl,rfl⟩))) ?_ .nil))
    ·refine .step 4 [] (by decide +kernel) (.cons (i:=4) rfl (OneI.of rfl (.p I (.ld Y3 I) (.nil ⟨rfl,rfl⟩))) ?_ .nil)
     exact .zvE [0,1,2,3,6,14,15,18] (.c8 I .nil) (.to _ (by decide +kernel) tail)
    ·refine .step 0 [] (by decide +kernel) (.cons (i:=0) rfl (OneI.of rfl (.p I (.ld Y223 I) (.nil ⟨rfl,rfl⟩))) ?_ .nil)
     exact .zvE [0,1,2,3,6,14,15,18] (.c8 I .nil) (.to _ (by decide +kernel) tail)
theorem zo9 {G1} [G:ztC] {l} {rec} {ia ib ic} {ra rb} (hGs : @ztC.gs G=(l,.loop rec)::@ztC.gs G1) (hGE:∀ q∈@ztC.gs G1,q.1≠l) (hsub:∀ p∈@ztC.gs globs,p∈@ztC.gs G)
  (hrec:rec.state = .ready∧rec.pending=none∧rec.params = #[19]∧rec.tmps.size=27) (hasg:rec.assign = .region ia ra.toArray false) (hbd:rec.body = .block ib (.region ic rb.toArray false)) (hda:(ra.all zdJ)=true) (hdb:(rb.all zdJ)=true) (n) (g)
  (hY:∀ (A0 own0) (w) (gh) (out out') (z),app 24 out [z]=some out'→@TriL G1 _ pg ⟨A0,own0,w,27,λ_ _=>False,gh,3,[]⟩ ra.toArray ra (λe s1=>e = .normal∧∀ (own0) (w),
   @TriL G1 _ pg ⟨A0,own0,w,27,λ_ _=>False,gh,3,[]⟩ rb.toArray rb (λe s2=>e = .normal∧s2.H=HH g l out') s1) ⟨(19,.d (LI z))::[(7,.loc 0 0)],HH g l out⟩)
  (out) (h:ztz (ztZ.l1 n g) n (0,[])=some out) (A0 own0) (w0) (gh) (hs:zvG ⟨A0,own0,w0,18,λ_ _=>False,gh,2,[]⟩ l rec [(7,.loc 0 0)]) :
  Tri pg ⟨A0,own0,w0,18,λ_ _=>False,gh,2,[]⟩ (zhs pg 166) (retV [] λ_ H2=>∃ X,H2=HT out++X) ⟨zbE 0 [.d g.enc,.d (yfn l)],HT []⟩:=by
 rw [zcF Tryz.func166 rfl]
 refine .sr <| .p I (.bx I) <| .p I (.bx I) <| .nil <| .sr <| .alloc I I I I dZa60 <| .nil <| .sr <| .p I (.zuS I I) <| .store I I I I I I (.cons .fn .nil) dC60 I (yq I) <| .nil <| .sr <| .p I (.fa I (zrw _)) <| .p I (.ld Y3 I) <| .m I <| .nil ?_
 refine .block <| .loopS [2,3,4,8] (λv=>[(9,.d (.int v.1))]) (λv=>[(0,.box 51 [.vec 1 v.2.length]),(1,.vec 22 1 (v.2.map LI))]) (.c4 I .nil) h ⟨_,Fz8 I trivial⟩ (λb v h=>?_)
 refine .sr <| .p I (.ls I) <| .nil <| .keep (HH g l v.2) [2,3,4,8,9,10] (.c4 I <| .c2 I .nil) I <| .seq <| .ztJ I h (λh=>?_) λh=>?_
 ·obtain ⟨c,a,h⟩:=zud h
  refine .skip <| .seq <| .block <| .sr <| .m I <| .z I <| .nil <| .sr <| .p I (.ztT I I I dY60 I) <| .m I <| .p I (.zug [_] I I E22 I (λ_=>I) I (enc:=D.int)) <| TriL.visit (zng hGs hGE hsub hrec hasg hbd hda hdb n g hY n _ _ _ a) I I I (zvk.clos (xs:=[.d (LI [v.1])]) (caps:=[.d (.ref g.enc),.d (.ref (yfn l)),.loc 2 0]) I I dK210 I) I I hs (by repeat (first | exact trivial | refine ⟨rfl,?_⟩)) <| .p I (.nt I) <| .nil ?_
  refine .cond (t:=false) rfl (λh=>by cases h) (λ_=>.skip ?_)
  refine .region <| .p I (.ad I) <| .m I <| .nil ⟨_,h,⟨_,Fz8 I trivial⟩⟩
 ·cases h
  refine .exit ?_
  exact ⟨.inr rfl,[],rfl,_,rfl⟩
theorem zio (n) (t0) (t1) (r) (h:zbp n t0 t1=some r):Pure pg 118 [.int t0,eK t1] (eJ r):=by
 unfold zbp at h
 obtain ⟨o,ho,h⟩:=zud h
 refine Pure.zxk Tryz.func118 rfl (by simp_all) λA w=>?_
 rw [Tryz.ntmps118]
 refine .sr <| .p I (.nilS 1 (α:=List Int) LI I) <| .nil <| .sr <| .m I <| .m I <| .p I (.call I dK165 I (digraph_open_ok _ _ _ _ ho)) <| .m I <| .p I (.extract I I I) <| .p I (.extract I I I) <| .zu9 I I I I I I I I (by simp) I I dZ223 <| .z I <| .nil ?_
 refine .seq <| .sr <| .m I <| .p I (.nt I) <| .nil <| .ztJ I h (λh=>?_) λh=>?_
 ·refine .sr <| .p I (.nilS 1 (α:=List Int) LI I) <| .nil <| .ret ?_
  cases h
  exact zfO I (.d _)
 obtain ⟨out,ho2,hsort⟩:=zud h
 refine .skip <| .sr <| .alloc I I I I dZa51 <| .zuw 0 0 1 22 rfl rfl <| .nil <| .keep (HT []) [5,7] (.c2 I .nil) I ?_
 refine Tri.rangeFunc (K:=λH2=>∃ X,H2=HT out++X) (.region <| .p I (.ld Y223 I) <| .p I (.zx8 I I) <| .nil ⟨rfl,rfl⟩) rfl dK166 Tryz.func166 rfl Tryz.ntmps166 rfl rfl rfl ?_ ?_
 ·intro l Dd rec own0 w1 gh G' hne hG' hGl hrec hasg hbd hown hgh
  obtain ⟨G1,hG1⟩:∃ G1:ztC,@ztC.gs G1=(Dd,.deferred (some []))::@ztC.gs globs:=⟨⟨_⟩,rfl⟩
  have hGs : @ztC.gs G'=(l,.loop rec)::@ztC.gs G1:=by grind
  have ct:=@zo9 G1 G' l rec _ _ _ _ _ hGs (λq hq=>by
   grind) (λp hp=>by grind) hrec hasg hbd rfl rfl n o.1 (λA0 own0 w gh out out' z hz=>?_) out ho2 A own0 w1 gh ⟨hown,λq hq=>by
    have:q=(7,.loc 0 0):=by grind
    subst this
    exact hgh 7 _ rfl⟩
  ·rw [zcF Tryz.func166 rfl] at ct
   exact ct
  ·refine .z I <| .nil ⟨rfl,λown0 w=>?_⟩
   refine .p I (.ztT I I I dY51 I) <| .m I <| .p I (.zug [_] I I dE51 I (λ_=>I) I (enc:=LI)) <| .app I I I I I I I I dE51 I (λ_=>I) hz <| .store I I I I I I (.cons (.vec I ?_) .nil) dC51 I (yq I) <| .nil ⟨rfl,rfl⟩
   simp
 ·intro Dd H2 G' hG' ⟨X,hX⟩
  subst hX
  have hsub:∀ p∈@ztC.gs globs,p∈@ztC.gs G':=λp hp=>by rw [hG'];exact yW _ hp
  refine Tri.ge (t:=⟨[(7,.loc 0 0)],HT out⟩) ⟨X,rfl,rfl,rfl,rfl,trivial⟩ ?_ rfl
  refine .sr <| .p I (.ztT I I I dY51 I) <| .sort1 (enc:=LI) (l:=out) Tryz.sortLL I I I I dK167 dK168 I I I I (λ_=>I) (λ_=>I) hsort (λa b v hv=>@Pure.widen _ _ DT hsub _ _ _ _ (@zhx DT _ _ _ _ hv)) <| .nil <| .sr <| .p I (.ztT I I I dY51 I) <| .z I <| .nil <| .ret ⟨rfl,zfO I (.vec I ?_)⟩
  simp [znb hsort]
theorem kidsR {A own0 w gh gn Q F l x e b h0 h1 h2 h3 h4 h5 h6 h7 h9 h11} {a0 a1 a2 a3:D} {fn c b0 b1} (hf:Tryz.prog.funcs[128]? = some fn) (hb:fn.body=some (.seq b0 (.seq c b1))) (hg:gn=12)
  (q1:app 72 l [(⟨0,[],0,0,[]⟩:Tree)]=some x) (q2:idx x (l.length:Int)=some e) (q3:sto x (l.length:Int) F.tree=some b)
  (hQ:Q .normal ⟨[(2,.d (.ref (Found.enc F)))],[h0,h1,h2,h3,h4,h5,h6,h7,.box 40 [.d a0,.d a1,.d a2,.d a3,.vec 10 (List.length b)],h9,.vec 40 5 (List.map Tree.enc b),h11]⟩) :
  Tri Tryz.prog ⟨A,own0,w,16,λ_ _=>False,gh,gn,[]⟩ c Q ⟨[(1,.loc 8 0),(2,.d (.ref (Found.enc F)))],[h0,h1,h2,h3,h4,h5,h6,h7,.box 40 [.d a0,.d a1,.d a2,.d a3,.vec 10 (List.length l)],h9,.vec 40 5 (List.map Tree.enc l),h11]⟩:=by
 subst hg
 rw [Tryz.func128] at hf
 cases hf
 cases hb
 let t0:Tree:=⟨0,[],0,0,[]⟩
 let H (n b:List Tree):List Blk:=[h0,h1,h2,h3,h4,h5,h6,h7,.box 40 [.d a0,.d a1,.d a2,.d a3,.vec 10 (List.length n)],h9,.vec 40 5 (List.map Tree.enc b),h11]
 refine .drawB 11 Hm I ?_
 refine .via 0 (bN 11 2047) ⟨[(2,.d (.ref (Found.enc F)))],H b b⟩ (.lin 11 (by decide +kernel) I (.nil hQ)) λsA0=>?_
 refine .via 1 (bN 11 1023) ⟨[(2,.d (.ref (Found.enc F))),(10,.vec 10 (List.length b)),(12,.loc 8 4)],H l b⟩ (.step 10 [] (by decide +kernel) (.cons (i:=10) I (.store I I I I I I (.cons (.vec I (by simp)) .nil) C38 I (yq I) (.nil ⟨I,I⟩)) (.kt sA0 I) .nil)) λsA1=>?_
 refine .via 1 (bN 11 1791) ⟨[(2,.d (.ref (Found.enc F))),(7,.d (Tree.enc F.tree)),(11,.el 10 (List.length x) (l.length:Int).toNat 0)],H x x⟩ (.step 8 [] (by decide +kernel) (.cons (i:=8) I (.zux (enc:=Tree.enc) I I I I I I I I I C40 q3 (.zvo 8 4 I I (za7 q3) (.nil ⟨I,I⟩))) (.kt sA0 I) .nil)) λsA2=>?_
 refine .via 2 (bN 11 511) ⟨[(1,.loc 8 0),(2,.d (.ref (Found.enc F))),(10,.vec 10 (List.length b))],H l b⟩ (.step 9 [] (by decide +kernel) (.cons (i:=9) I (.p I (.ztN I I I zww) (.nil ⟨I,I⟩)) (.kt sA1 I) .nil)) λsA3=>?_
 refine .via 2 (bN 11 767) ⟨[(2,.d (.ref (Found.enc F))),(7,.d (Tree.enc F.tree)),(10,.vec 10 (List.length x)),(11,.el 10 (List.length x) (l.length:Int).toNat 0),(12,.loc 8 4)],H l x⟩ (.step 8 [10] (by decide +kernel) (.cons (i:=8) I (.zux (enc:=Tree.enc) I I I I I I I I I C40 q3 (.zuv 10 I (za7 q3) (.nil ⟨I,I⟩))) (.kt sA1 I) (.cons (i:=10) I (.store I I I I I I (.cons (.vec I (by simp)) .nil) C38 I (yq I) (.nil ⟨I,I⟩)) (.kt sA2 I) .nil))) λsA4=>?_
 refine .via 2 (bN 11 1663) ⟨[(2,.d (.ref (Found.enc F))),(7,.d (Tree.enc F.tree)),(8,.d (.int (l.length:Int))),(10,.vec 10 (List.length x))],H x x⟩ (.step 7 [] (by decide +kernel) (.cons (i:=7) I (.p I (.idxV I I I I I U38 S40 q2) (.nil ⟨I,I⟩)) (.kt sA2 I) .nil)) λsA5=>?_
 refine .via 3 (bN 11 255) ⟨[(1,.loc 8 0),(2,.d (.ref (Found.enc F))),(7,.d (Tree.enc F.tree)),(10,.vec 10 (List.length x)),(11,.el 10 (List.length x) (l.length:Int).toNat 0)],H l x⟩ (.step 8 [9] (by decide +kernel) (.cons (i:=8) I (.zux (enc:=Tree.enc) I I I I I I I I I C40 q3 (.zuv 10 I (za7 q3) (.nil ⟨I,I⟩))) (.kt sA3 I) (.cons (i:=9) I (.p I (.ztN I I I zww) (.nil ⟨I,I⟩)) (.kt sA4 I) .nil))) λsA6=>?_
 refine .via 3 (bN 11 639) ⟨[(2,.d (.ref (Found.enc F))),(7,.d (Tree.enc F.tree)),(8,.d (.int (l.length:Int))),(10,.vec 10 (List.length x)),(12,.loc 8 4)],H l x⟩ (.step 7 [10] (by decide +kernel) (.cons (i:=7) I (.p I (.idxV I I I I I U38 S40 q2) (.nil ⟨I,I⟩)) (.kt sA4 I) (.cons (i:=10) I (.store I I I I I I (.cons (.vec I (by simp)) .nil) C38 I (yq I) (.nil ⟨I,I⟩)) (.kt sA5 I) .nil))) λsA7=>?_
 refine .via 4 (bN 11 127) ⟨[(1,.loc 8 0),(2,.d (.ref (Found.enc F))),(7,.d (Tree.enc F.tree)),(8,.d (.int (l.length:Int))),(10,.vec 10 (List.length x))],H l x⟩ (.step 7 [9] (by decide +kernel) (.cons (i:=7) I (.p I (.idxV I I I I I U38 S40 q2) (.nil ⟨I,I⟩)) (.kt sA6 I) (.cons (i:=9) I (.p I (.ztN I I I zww) (.nil ⟨I,I⟩)) (.kt sA7 I) .nil))) λsA8=>?_
 refine .via 5 (bN 11 63) ⟨[(1,.loc 8 0),(2,.d (.ref (Found.enc F))),(5,.vec 10 (List.length l)),(7,.d (Tree.enc F.tree)),(8,.d (.int (l.length:Int))),(9,.d (.sl 5 (List.map Tree.enc [t0])))],H l l⟩ (.step 6 [] (by decide +kernel) (.cons (i:=6) I (.app I I I I I I I I E38 I (λ_=>I) q1 (.nil ⟨I,I⟩)) (.kt sA8 I) .nil)) λsA9=>?_
 refine .via 6 (bN 11 31) ⟨[(1,.loc 8 0),(2,.d (.ref (Found.enc F))),(5,.vec 10 (List.length l)),(7,.d (Tree.enc F.tree)),(8,.d (.int (l.length:Int)))],H l l⟩ (.step 5 [] (by decide +kernel) (.cons (i:=5) I (.p I (.zuf [t0] I I E38 I (.cons ZL40 .nil) (λ_=>I) I (enc:=Tree.enc)) (.nil ⟨I,I⟩)) (.kt sA9 I) .nil)) λsA10=>?_
 refine .via 6 (bN 11 47) ⟨[(1,.loc 8 0),(2,.d (.ref (Found.enc F))),(5,.vec 10 (List.length l)),(7,.d (Tree.enc F.tree)),(9,.d (.sl 5 (List.map Tree.enc [t0])))],H l l⟩ (.step 4 [] (by decide +kernel) (.cons (i:=4) I (.p I (.lenV I U38 I I I) (.nil ⟨I,I⟩)) (.kt sA9 I) .nil)) λsA11=>?_
 refine .via 6 (bN 11 55) ⟨[(1,.loc 8 0),(2,.d (.ref (Found.enc F))),(5,.vec 10 (List.length l)),(6,.d (.ref (Tree.enc F.tree))),(8,.d (.int (l.length:Int))),(9,.d (.sl 5 (List.map Tree.enc [t0])))],H l l⟩ (.step 3 [] (by decide +kernel) (.cons (i:=3) I (.p I (.ld Y40 I) (.nil ⟨I,I⟩)) (.kt sA9 I) .nil)) λsA12=>?_
 refine .via 7 (bN 11 15) ⟨[(1,.loc 8 0),(2,.d (.ref (Found.enc F))),(5,.vec 10 (List.length l)),(7,.d (Tree.enc F.tree))],H l l⟩ (.step 4 [5] (by decide +kernel) (.cons (i:=4) I (.p I (.lenV I U38 I I I) (.nil ⟨I,I⟩)) (.kt sA10 I) (.cons (i:=5) I (.p I (.zuf [t0] I I E38 I (.cons ZL40 .nil) (λ_=>I) I (enc:=Tree.enc)) (.nil ⟨I,I⟩)) (.kt sA11 I) .nil))) λsA13=>?_
 refine .via 7 (bN 11 23) ⟨[(1,.loc 8 0),(2,.d (.ref (Found.enc F))),(5,.vec 10 (List.length l)),(6,.d (.ref (Tree.enc F.tree))),(8,.d (.int (l.length:Int)))],H l l⟩ (.step 3 [5] (by decide +kernel) (.cons (i:=3) I (.p I (.ld Y40 I) (.nil ⟨I,I⟩)) (.kt sA10 I) (.cons (i:=5) I (.p I (.zuf [t0] I I E38 I (.cons ZL40 .nil) (λ_=>I) I (enc:=Tree.enc)) (.nil ⟨I,I⟩)) (.kt sA12 I) .nil))) λsA14=>?_
 refine .via 7 (bN 11 39) ⟨[(1,.loc 8 0),(2,.d (.ref (Found.enc F))),(5,.vec 10 (List.length l)),(6,.d (.ref (Tree.enc F.tree))),(9,.d (.sl 5 (List.map Tree.enc [t0])))],H l l⟩ (.step 3 [4] (by decide +kernel) (.cons (i:=3) I (.p I (.ld Y40 I) (.nil ⟨I,I⟩)) (.kt sA11 I) (.cons (i:=4) I (.p I (.lenV I U38 I I I) (.nil ⟨I,I⟩)) (.kt sA12 I) .nil))) λsA15=>?_
 refine .via 7 (bN 11 51) ⟨[(1,.loc 8 0),(2,.d (.ref (Found.enc F))),(5,.vec 10 (List.length l)),(8,.d (.int (l.length:Int))),(9,.d (.sl 5 (List.map Tree.enc [t0])))],H l l⟩ (.step 2 [] (by decide +kernel) (.cons (i:=2) I (.p I (.fa I (ziM _)) (.nil ⟨I,I⟩)) (.kt sA12 I) .nil)) λsA16=>?_
 refine .via 7 (bN 11 45) ⟨[(1,.loc 8 0),(2,.d (.ref (Found.enc F))),(4,.loc 8 4),(7,.d (Tree.enc F.tree)),(9,.d (.sl 5 (List.map Tree.enc [t0])))],H l l⟩ (.step 1 [] (by decide +kernel) (.cons (i:=1) I (.p I (.ztT I I I Y38 I) (.nil ⟨I,I⟩)) (.kt sA11 I) .nil)) λsA17=>?_
 refine .via 8 (bN 11 7) ⟨[(1,.loc 8 0),(2,.d (.ref (Found.enc F))),(5,.vec 10 (List.length l)),(6,.d (.ref (Tree.enc F.tree)))],H l l⟩ (.step 3 [4,5] (by decide +kernel) (.cons (i:=3) I (.p I (.ld Y40 I) (.nil ⟨I,I⟩)) (.kt sA13 I) (.cons (i:=4) I (.p I (.lenV I U38 I I I) (.nil ⟨I,I⟩)) (.kt sA14 I) (.cons (i:=5) I (.p I (.zuf [t0] I I E38 I (.cons ZL40 .nil) (λ_=>I) I (enc:=Tree.enc)) (.nil ⟨I,I⟩)) (.kt sA15 I) .nil)))) λsA18=>?_
 refine .via 8 (bN 11 19) ⟨[(1,.loc 8 0),(2,.d (.ref (Found.enc F))),(5,.vec 10 (List.length l)),(8,.d (.int (l.length:Int)))],H l l⟩ (.step 2 [5] (by decide +kernel) (.cons (i:=2) I (.p I (.fa I (ziM _)) (.nil ⟨I,I⟩)) (.kt sA14 I) (.cons (i:=5) I (.p I (.zuf [t0] I I E38 I (.cons ZL40 .nil) (λ_=>I) I (enc:=Tree.enc)) (.nil ⟨I,I⟩)) (.kt sA16 I) .nil))) λsA19=>?_
 refine .via 8 (bN 11 35) ⟨[(1,.loc 8 0),(2,.d (.ref (Found.enc F))),(5,.vec 10 (List.length l)),(9,.d (.sl 5 (List.map Tree.enc [t0])))],H l l⟩ (.step 2 [4] (by decide +kernel) (.cons (i:=2) I (.p I (.fa I (ziM _)) (.nil ⟨I,I⟩)) (.kt sA15 I) (.cons (i:=4) I (.p I (.lenV I U38 I I I) (.nil ⟨I,I⟩)) (.kt sA16 I) .nil))) λsA20=>?_
 refine .via 8 (bN 11 13) ⟨[(1,.loc 8 0),(2,.d (.ref (Found.enc F))),(4,.loc 8 4),(7,.d (Tree.enc F.tree))],H l l⟩ (.step 1 [5] (by decide +kernel) (.cons (i:=1) I (.p I (.ztT I I I Y38 I) (.nil ⟨I,I⟩)) (.kt sA13 I) (.cons (i:=5) I (.p I (.zuf [t0] I I E38 I (.cons ZL40 .nil) (λ_=>I) I (enc:=Tree.enc)) (.nil ⟨I,I⟩)) (.kt sA17 I) .nil))) λsA21=>?_
 refine .via 8 (bN 11 37) ⟨[(1,.loc 8 0),(2,.d (.ref (Found.enc F))),(4,.loc 8 4),(6,.d (.ref (Tree.enc F.tree))),(9,.d (.sl 5 (List.map Tree.enc [t0])))],H l l⟩ (.step 1 [3] (by decide +kernel) (.cons (i:=1) I (.p I (.ztT I I I Y38 I) (.nil ⟨I,I⟩)) (.kt sA15 I) (.cons (i:=3) I (.p I (.ld Y40 I) (.nil ⟨I,I⟩)) (.kt sA17 I) .nil))) λsA22=>?_
 refine .via 8 (bN 11 44) ⟨[(1,.loc 8 0),(2,.d (.ref (Found.enc F))),(7,.d (Tree.enc F.tree)),(9,.d (.sl 5 (List.map Tree.enc [t0])))],H l l⟩ (.step 0 [] (by decide +kernel) (.cons (i:=0) I (.p I (.ztN I I I zww) (.nil ⟨I,I⟩)) (.kt sA17 I) .nil)) λsA23=>?_
 refine .via 9 (bN 11 3) ⟨[(1,.loc 8 0),(2,.d (.ref (Found.enc F))),(5,.vec 10 (List.length l))],H l l⟩ (.step 2 [4,5] (by decide +kernel) (.cons (i:=2) I (.p I (.fa I (ziM _)) (.nil ⟨I,I⟩)) (.kt sA18 I) (.cons (i:=4) I (.p I (.lenV I U38 I I I) (.nil ⟨I,I⟩)) (.kt sA19 I) (.cons (i:=5) I (.p I (.zuf [t0] I I E38 I (.cons ZL40 .nil) (λ_=>I) I (enc:=Tree.enc)) (.nil ⟨I,I⟩)) (.kt sA20 I) .nil)))) λsA24=>?_
 refine .via 9 (bN 11 5) ⟨[(1,.loc 8 0),(2,.d (.ref (Found.enc F))),(4,.loc 8 4),(6,.d (.ref (Tree.enc F.tree)))],H l l⟩ (.step 1 [3,5] (by decide +kernel) (.cons (i:=1) I (.p I (.ztT I I I Y38 I) (.nil ⟨I,I⟩)) (.kt sA18 I) (.cons (i:=3) I (.p I (.ld Y40 I) (.nil ⟨I,I⟩)) (.kt sA21 I) (.cons (i:=5) I (.p I (.zuf [t0] I I E38 I (.cons ZL40 .nil) (λ_=>I) I (enc:=Tree.enc)) (.nil ⟨I,I⟩)) (.kt sA22 I) .nil)))) λsA25=>?_
 refine .via 9 (bN 11 33) ⟨[(1,.loc 8 0),(2,.d (.ref (Found.enc F))),(4,.loc 8 4),(9,.d (.sl 5 (List.map Tree.enc [t0])))],H l l⟩ (.step 1 [2] (by decide +kernel) (.cons (i:=1) I (.p I (.ztT I I I Y38 I) (.nil ⟨I,I⟩)) (.kt sA20 I) (.cons (i:=2) I (.p I (.fa I (ziM _)) (.nil ⟨I,I⟩)) (.kt sA22 I) .nil))) λsA26=>?_
 refine .via 9 (bN 11 12) ⟨[(1,.loc 8 0),(2,.d (.ref (Found.enc F))),(7,.d (Tree.enc F.tree))],H l l⟩ (.step 0 [5] (by decide +kernel) (.cons (i:=0) I (.p I (.ztN I I I zww) (.nil ⟨I,I⟩)) (.kt sA21 I) (.cons (i:=5) I (.p I (.zuf [t0] I I E38 I (.cons ZL40 .nil) (λ_=>I) I (enc:=Tree.enc)) (.nil ⟨I,I⟩)) (.kt sA23 I) .nil))) λsA27=>?_
 refine .via 9 (bN 11 36) ⟨[(1,.loc 8 0),(2,.d (.ref (Found.enc F))),(6,.d (.ref (Tree.enc F.tree))),(9,.d (.sl 5 (List.map Tree.enc [t0])))],H l l⟩ (.step 0 [3] (by decide +kernel) (.cons (i:=0) I (.p I (.ztN I I I zww) (.nil ⟨I,I⟩)) (.kt sA22 I) (.cons (i:=3) I (.p I (.ld Y40 I) (.nil ⟨I,I⟩)) (.kt sA23 I) .nil))) λsA28=>?_
 refine .via 10 (bN 11 1) ⟨[(1,.loc 8 0),(2,.d (.ref (Found.enc F))),(4,.loc 8 4)],H l l⟩ (.step 1 [2,5] (by decide +kernel) (.cons (i:=1) I (.p I (.ztT I I I Y38 I) (.nil ⟨I,I⟩)) (.kt sA24 I) (.cons (i:=2) I (.p I (.fa I (ziM _)) (.nil ⟨I,I⟩)) (.kt sA25 I) (.cons (i:=5) I (.p I (.zuf [t0] I I E38 I (.cons ZL40 .nil) (λ_=>I) I (enc:=Tree.enc)) (.nil ⟨I,I⟩)) (.kt sA26 I) .nil)))) λsA29=>?_
 refine .via 10 (bN 11 4) ⟨[(1,.loc 8 0),(2,.d (.ref (Found.enc F))),(6,.d (.ref (Tree.enc F.tree)))],H l l⟩ (.step 0 [3,5] (by decide +kernel) (.cons (i:=0) I (.p I (.ztN I I I zww) (.nil ⟨I,I⟩)) (.kt sA25 I) (.cons (i:=3) I (.p I (.ld Y40 I) (.nil ⟨I,I⟩)) (.kt sA27 I) (.cons (i:=5) I (.p I (.zuf [t0] I I E38 I (.cons ZL40 .nil) (λ_=>I) I (enc:=Tree.enc)) (.nil ⟨I,I⟩)) (.kt sA28 I) .nil)))) λsA30=>?_
 refine .via 10 (bN 11 32) ⟨[(1,.loc 8 0),(2,.d (.ref (Found.enc F))),(9,.d (.sl 5 (List.map Tree.enc [t0])))],H l l⟩ (.step 0 [2] (by decide +kernel) (.cons (i:=0) I (.p I (.ztN I I I zww) (.nil ⟨I,I⟩)) (.kt sA26 I) (.cons (i:=2) I (.p I (.fa I (ziM _)) (.nil ⟨I,I⟩)) (.kt sA28 I) .nil))) λsA31=>?_
 exact .step 0 [2,5] (by decide +kernel) (.cons (i:=0) I (.p I (.ztN I I I zww) (.nil ⟨I,I⟩)) (.kt sA29 I) (.cons (i:=2) I (.p I (.fa I (ziM _)) (.nil ⟨I,I⟩)) (.kt sA30 I) (.cons (i:=5) I (.p I (.zuf [t0] I I E38 I (.cons ZL40 .nil) (λ_=>I) I (enc:=Tree.enc)) (.nil ⟨I,I⟩)) (.kt sA31 I) .nil)))
end Go.Proofs.YtipkniadbkndfaaGreatDoor
