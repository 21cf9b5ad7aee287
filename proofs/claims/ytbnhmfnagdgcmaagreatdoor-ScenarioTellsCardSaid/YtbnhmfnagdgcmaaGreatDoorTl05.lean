/- Part of the proof of one law of the seat. -/
import Derived.Test.YtbnhmfnagdgcmaaGreatDoorTl04
set_option linter.unusedVariables false
set_option linter.unusedSectionVars false
set_option linter.unusedSimpArgs false
set_option maxHeartbeats 4000000
namespace Go.Proofs.YtbnhmfnagdgcmaaGreatDoor
open Go Go.RowKit
abbrev yj:=@_root_.Option.isSome_some
abbrev yr:=@_root_.List.take_succ_eq_append_getElem
abbrev yy:=@_root_.Bool.or_true
abbrev yH:=@_root_.Bool.not_eq_true
abbrev uc:=@_root_.Bool.false_and
abbrev ud:=@_root_.Bool.or_eq_false_iff
abbrev uk:=@_root_.List.length_replicate
abbrev ux:=@_root_.Bool.not_false
abbrev uO:=@_root_.Bool.true_or
abbrev uP:=@_root_.bne_self_eq_false
abbrev uQ:=@_root_.Bool.and_self
section
variable [Env]
theorem ref13_less_ok (n t0 t1 r) (h:zbH n t0 t1=some r):Pure pg 123 [eA t0,eA t1] (.bool r):=by
 refine Pure.ot Tryz.func123 I Tryz.ntmps123 I λA w=>.sA 1 I<|.seq<|.sA 1 I<|.block<|.L [0,1] h (λv=>[(5,.d (.int v))]) (λv=>[]) I λ_ x13 h=>.seq<|.seq<|.plain 10 I<|.A 2 I<|.p I (.len I U22 I)<|.A 2 I<|.jA 4 (decide (x13<(t1.length:Int))) I (λb15=>?_) ?_
 ·refine .A 2 I<|.q I (.len I U22 I)<|.A 1 I<|.nil I
 refine .nil<|.nil<|.K [0,1,5,15] I<|.condS I h (λh=>?_) λh=>?_
 ·refine .skip<|.seq<|.block<|.seq<|.draw 9 Hm (by kernel_rfl) (by kernel_rfl)<|.A 2 I<|.X h I λx16 h=>.A 3 I<|.X h I λx17 h=>.A 2 I<|.nil<|.nil<|.condS I h (λh=>?_) λh=>?_
  ·refine .seq<|.draw 10 Hm (by kernel_rfl) (by kernel_rfl)<|.A 2 I<|.X h I λx18 h=>.A 3 I<|.X h I λx19 h=>.A 3 I<|.nil<|.nil<|.K [4] I<|.ret (rO h I)
  ·refine .skip<|.rA 3 I (ndE h I)
 ·refine .exit<|.S 1 I<|.p I (.len I U22 I)<|.A 1 I<|.p I (.len I U22 I)<|.A 2 I<|.nil<|.ret (rO h I)
theorem ref09_nth_ok (n t0 t1 t2 r) (h:zde n t0 t1 t2=some r):Pure pg 199 [eA t0,eA t1,.int t2] (eA r):=by
 refine Pure.ot Tryz.func199 I Tryz.ntmps199 I λA w=>.sr<|.p I (.nilS 1 (α:=Int) D.int I)<|.nil<|.S 1 I<|.p I (.len I U22 I)<|bK h λx1 q1 h=>.makeVec (enc:=D.int) (z:=(0:Int)) I I I I E22 I I I (.val Zv3) q1<|.A 1 I<|.nil<|.seq<|.S 1 I<|.p I (.len I U22 I)<|.A 2 I<|.nil<|.block<|.L [0,1] h (λv=>[(2,.d (.int v.2.1)),(7,.vec 0 (List.length v.1)),(8,.d (.int v.2.2))]) (λv=>[(0,.vec 3 1 (List.map D.int v.1))]) I λ_ ⟨b0_24,x25,x26⟩ h=>.seq<|.sA 2 I<|.K [0,1,2,7,8,16] I<|.condS I h (λh=>?_) λh=>?_
 ·refine .skip<|.seq<|.block<|.S 6 I<|.X h I λx28 h=>.A 1 I<|.X h I λx29 h=>.A 1 I<|bK h λx30 q30 h=>.p I (.rem6 I I I q30)<|bK h λx31 q31 h=>.p I (.idxV I I I I I U22 S3 q31)<|bK h λb0_32 hb0_32 h=>.storeEl (enc:=D.int) I I I I I I I I I C3 hb0_32<|.relen 7 I (zdo hb0_32)<|.relen 19 I (zdo hb0_32)<|.nil<|.region<|.A 4 I<|.X h I λx33 h=>.A 1 I<|.X h I λx34 h=>.A 1 I<|bK h λx35 q35 h=>.p I (.quo6 I I I q35)<|.A 1 I<|.nil<|.K [0,1,2,7,8] I<|.rA 3 I (ndE h I)
 ·refine .exit<|.sA 2 I<|.ret ?_
  cases h
  exact zaH I (.vec I (by simp))
theorem ref09_Tuple_ok (n t0 t1 t2 t3 r) (h:zb8 n t0 t1 t2 t3=some r):Pure pg 157 [eA t0,eB t1,.bool t2,.int t3] (.tup [.int r.1,eA r.2.1,.bool r.2.2]):=by
 refine Pure.ot Tryz.func157 I Tryz.ntmps157 I λA w=>.S 1 I<|.p I (.nilS 1 (α:=Int) D.int I)<|.A 1 I<|.nil<|.seq<|.S 2 I<|.Z h I (ze4 _ _ _) λx1 h=>.A 1 I<|.nil<|.condS I h (λh=>?_) λh=>?_
 ·refine .S 1 I<|.p I (.nilS 1 (α:=Int) D.int I)<|.A 1 I<|.nil<|.ret ?_
  cases h
  exact zgV I I I (.d _) (.d _) (.d _)
 ·refine .skip<|.seq<|.sA 1 I<|.block<|.L [0,1,2,3] h (λv=>[(11,.d (.int v))]) (λv=>[]) I λ_ x24 h=>.seq<|.S 2 I<|.p I (.len I U23 I)<|.A 1 I<|.nil<|.K [0,1,2,3,11,20] I<|.condS I h (λh=>?_) λh=>?_
  ·refine .skip<|.seq<|.block<|.S 3 I<|.X h I λx26 h=>.p I (.fa I (zfN _))<|.A 3 I<|.nil<|.seq<|.plain 27 I<|.A 2 I<|.X h I λx27 h=>.p I (.fa I (zcm _))<|.A 1 I<|.Z h I (zex _ _) λx28 h=>.A 1 I<|.p I (.beq I U4 I I)<|.A 1 I<|.jA 2 (decide (0≤t3)) I (λb29=>?_) ?_
   ·refine .A 2 I<|.nil I
   refine .A 1 I<|.jA 2 (decide (0≤sub64 t3 x26.first)) I (λb30=>?_) ?_
   ·refine .A 2 I<|.nil I
   refine .A 1 I<|gK h λc32 h=>gK h λc33 h=>.jA 9 (decide (sub64 t3 x26.first<((z9 n t0 (((idx t1 x24).getD default).columns)).getD default))) I (λb31=>?_) ?_
   ·refine .A 4 I<|.q I (.ix I U23 S119 (someD (impT c32 b31)))<|.q I (.fa I (zbl _))<|.A 1 I<|.q I (.call I (kC I) I (zew _ _ _ _ (someD (impT c33 b31))))<|.A 1 I<|.nil I
   refine .nil<|.nil<|.K [0,1,2,3,11,12,56] I<|.condS I h (λh=>?_) λh=>?_
   ·refine .S 4 I<|.X h I λx34 h=>.p I (.fa I (zbl _))<|.A 2 I<|.Z h I (ref09_nth_ok _ _ _ _) λx35 h=>.A 3 I<|.nil<|.ret ?_
    cases h
    exact zgV I I I (.d _) (.d _) (.d _)
   ·refine .skip<|.rA 3 I (ndE h I)
  ·refine .exit<|.S 1 I<|.p I (.nilS 1 (α:=Int) D.int I)<|.A 1 I<|.nil<|.ret ?_
   cases h
   exact zgV I I I (.d _) (.d _) (.d _)
theorem ref13_set_ok (n t0 r) (h:zh7 n t0=some r):Pure pg 158 [.int t0] (.bool r):=by
 refine Pure.ot Tryz.func158 I Tryz.ntmps158 I λA w=>.sA 1 I<|.seq<|.plain 6 I<|.A 3 I<|.jO 2 (t0==3) I (λb1=>?_) ?_
 ·refine .A 2 I<|.nil I
 refine .nil<|.A 1 I<|.nil<|.ret (rO h I)
theorem ref13_effect_ok (n t0 t1 r) (h:zR n t0 t1=some r):Pure pg 124 [Model.enc t0,Effect.enc t1] (.bool r):=by
 refine Pure.ot Tryz.func124 I Tryz.ntmps124 I λA w=>.sA 3 I<|.S 1 I<|.Z h I (zey _ _) λx1 h=>.p I (.len I U82 I)<|.A 1 I<|.nil<|.seq<|.sA 1 I<|.block<|.L [2,3,5] h (λv=>[(6,.d (.int v))]) (λv=>[]) I λ_ x20 h=>.seq<|.S 1 I<|.p I (.fa I (G60_0 _))<|.A 1 I<|.p I (.len I U56 I)<|.A 1 I<|.nil<|.K [2,3,5,6,22] I<|.condS I h (λh=>?_) λh=>?_
 ·refine .skip<|.seq<|.block<|.sr<|.p I (.fa I (G60_0 _))<|.A 2 I<|.X h I λx22 h=>.A 1 I<|.allocStore I I I I I I I I (by simp) I I Z125<|.nil<|.seq<|.draw 36 Hm (by kernel_rfl) (by kernel_rfl)<|.p I (.fa I (zhJ _))<|.A 3 I<|.jO 4 (decide ((x1.length:Int)≤x22.cell)) I (λb23=>?_) ?_
  ·refine .q I (.fa I (zhJ _))<|.A 3 I<|.nil I
  refine .A 1 I<|gK h λc26 h=>.jO 14 ((decide (0<x20))&&(decide (x22.cell≤((idx t1.delta (sub64 x20 1)).getD default).cell))) I (λb24=>?_) ?_
  ·refine .A 3 I<|.jAnd 10 (b2:=decide (x22.cell≤((idx t1.delta (sub64 x20 1)).getD default).cell)) I I I I (.inr ⟨_,_,_,I,I,I⟩) (λ_ _ _ h1 h2=>by cases h1;cases h2;decide) I I (λb25=>?_) ?_
   ·refine .q I (.fa I (G60_0 _))<|.A 3 I<|.q I (.ix I U56 S125 (someD (impT (impF c26 b24) b25)))<|.q I (.fa I (zhJ _))<|.A 1 I<|.q I (.fa I (zhJ _))<|.A 2 I<|.nil I
   exact .nil I
  refine .A 1 I<|.jO 3 (x22.add==0) I (λb27=>?_) ?_
  ·refine .q I (.fa I (G125_1 _))<|.A 2 I<|.nil I
  refine .A 1 I<|gK h λc29 h=>.jO 4 (!((zac n x22.add 1000000000).getD default)) I (λb28=>?_) ?_
  ·refine .q I (.fa I (G125_1 _))<|.A 1 I<|.q I (.call I (kC I) I (zcT _ _ _ _ (someD (impF c29 b28))))<|.A 1 I<|.nil I
  refine .nil<|.nil<|.K [2,3,5,6,65] I<|.condS I h (λh=>?_) λh=>?_
  ·refine .sA 1 I<|.ret (rO h I)
  ·refine .skip<|.rA 3 I (ndE h I)
 ·refine .exit<|.seq<|.sA 1 I<|.block<|.L [2,3,5] h (λv=>[(8,.d (.int v))]) (λv=>[]) I λ_ x36 h=>.seq<|.S 1 I<|.p I (.fa I (G60_1 _))<|.A 1 I<|.p I (.len I U57 I)<|.A 1 I<|.nil<|.K [2,3,5,8,70] I<|.condS I h (λh=>?_) λh=>?_
  ·refine .skip<|.seq<|.block<|.sr<|.p I (.fa I (G60_1 _))<|.A 2 I<|.X h I λx38 h=>.A 2 I<|.Z h I (ref13_row_ok _ _ _) λx39 h=>.A 1 I<|.nil<|.condS I h (λh=>?_) λh=>?_
   ·refine .sA 1 I<|.ret (rO h I)
   ·refine .skip<|.rA 3 I (ndE h I)
  ·refine .exit<|.seq<|.sA 1 I<|.block<|.L [2,3] h (λv=>[(9,.d (.int v))]) (λv=>[]) I λ_ x70 h=>.seq<|.S 1 I<|.p I (.fa I (G60_2 _))<|.A 1 I<|.p I (.len I U58 I)<|.A 1 I<|.nil<|.K [2,3,9,85] I<|.condS I h (λh=>?_) λh=>?_
   ·refine .skip<|.seq<|.block<|.sr<|.p I (.fa I (G60_2 _))<|.A 2 I<|.X h I λx72 h=>.A 1 I<|.allocStore I I I I I I I I (by simp) I I Z184<|.nil<|.S 4 I<|.p I (.fa I (G184_1 _))<|.A 1 I<|.Z h I (ref09_Tuple_ok _ _ _ _ _) λx73 h=>.A 1 I<|.p I (.extract I I I)<|.p I (.extract I I I)<|.p I (.extract I I I)<|.A 3 I<|.nil<|.K [2,3,9,10,11,13] I<|.seq<|.seq<|.draw 18 Hm (by kernel_rfl) (by kernel_rfl)<|.A 3 I<|gK h λc76 h=>.jO 14 ((decide (0<x70))&&(decide (x72.cell≤((idx t1.updates (sub64 x70 1)).getD default).cell))) I (λb74=>?_) ?_
    ·refine .A 3 I<|.jAnd 10 (b2:=decide (x72.cell≤((idx t1.updates (sub64 x70 1)).getD default).cell)) I I I I (.inr ⟨_,_,_,I,I,I⟩) (λ_ _ _ h1 h2=>by cases h1;cases h2;decide) I I (λb75=>?_) ?_
     ·refine .q I (.fa I (G60_2 _))<|.A 3 I<|.q I (.ix I U58 S184 (someD (impT (impF c76 b74) b75)))<|.q I (.fa I (G184_1 _))<|.A 1 I<|.q I (.fa I (G184_1 _))<|.A 2 I<|.nil I
     exact .nil I
    refine .nil<|.nil<|.K [2,3,9,10,11,121] I<|.condS I h (λh=>?_) λh=>?_
    ·refine .sA 1 I<|.ret (rO h I)
    ·refine .skip<|.S 3 I<|.X h I λx77 h=>.A 1 I<|.allocStore I I I I I I I I (by simp) I I Z119<|.nil<|.seq<|.seq<|.plain 18 I<|.p I (.fa I (zcm _))<|.A 1 I<|.Z h I (ref13_set_ok _ _) λx78 h=>.A 1 I<|.jA 13 (((x72.kind != 0)&&(x72.kind != 1))||(x72.value != 0)) I (λb79=>?_) ?_
     ·refine .q I (.fa I (G184_0 _))<|.A 3 I<|.jAnd 3 (b2:=x72.kind != 1) I I I I (.inr ⟨_,_,_,I,I,I⟩) (λ_ _ _ h1 h2=>by cases h1;cases h2;decide) I I (λb80=>?_) ?_
      ·refine .q I (.fa I (G184_0 _))<|.A 2 I<|.nil I
      refine .A 1 I<|.jOr 3 (b2:=x72.value != 0) I I I I (.inr ⟨_,_,_,I,I,I⟩) (λ_ _ _ h1 h2=>by cases h1;cases h2;decide) I I (λb81=>?_) ?_
      ·refine .q I (.fa I (G184_2 _))<|.A 2 I<|.nil I
      exact .nil I
     refine .nil<|.nil<|.K [2,3,9,10,14,144] I<|.condS I h (λh=>?_) λh=>?_
     ·refine .sA 1 I<|.ret (rO h I)
     ·refine .skip<|.seq<|.plain 25 I<|.p I (.fa I (zcm _))<|.A 1 I<|.Z h I (ref13_set_ok _ _) λx82 h=>.A 2 I<|.jA 19 (((x72.kind != 2)||(decide (x72.value<x77.range.lo)))||(decide (x77.range.hi<x72.value))) I (λb83=>?_) ?_
      ·refine .q I (.fa I (G184_0 _))<|.A 3 I<|.jOr 6 (b2:=decide (x72.value<x77.range.lo)) I I I I (.inr ⟨_,_,_,I,I,I⟩) (λ_ _ _ h1 h2=>by cases h1;cases h2;decide) I I (λb84=>?_) ?_
       ·refine .q I (.fa I (G184_2 _))<|.A 1 I<|.q I (.fa I (zdP _))<|.q I (.fa I (G85_0 _))<|.A 2 I<|.nil I
       refine .A 1 I<|.jOr 6 (b2:=decide (x77.range.hi<x72.value)) I I I I (.inr ⟨_,_,_,I,I,I⟩) (λ_ _ _ h1 h2=>by cases h1;cases h2;decide) I I (λb85=>?_) ?_
       ·refine .q I (.fa I (G184_2 _))<|.A 1 I<|.q I (.fa I (zdP _))<|.q I (.fa I (G85_1 _))<|.A 2 I<|.nil I
       exact .nil I
      refine .nil<|.nil<|.K [2,3,9,169] I<|.condS I h (λh=>?_) λh=>?_
      ·refine .sA 1 I<|.ret (rO h I)
      ·refine .skip<|.rA 3 I (ndE h I)
   ·refine .exit<|.seq<|.plain 10 I<|.p I (.fa I (G60_1 _))<|.A 1 I<|.p I (.len I U57 I)<|.A 2 I<|.jA 4 (decide ((t1.updates.length:Int)≤32)) I (λb86=>?_) ?_
    ·refine .q I (.fa I (G60_2 _))<|.A 1 I<|.q I (.len I U58 I)<|.A 1 I<|.nil I
    refine .nil<|.A 1 I<|.nil<|.ret (rO h I)
theorem ref13_actions_ok (n t0 r) (h:zu n t0=some r):Pure pg 84 [Model.enc t0] (.bool r):=by
 refine Pure.ot Tryz.func84 I Tryz.ntmps84 I λA w=>.sA 2 I<|.sr<|.buildVec [] I I I I I E24 I (λ_=>I) I (enc:=D.str)<|.A 1 I<|.nil<|.seq<|.sA 1 I<|.block<|.L [1] h (λv=>[(3,.vec 0 (List.length v.1)),(4,.d (.int v.2))]) (λv=>[(0,.vec 9 1 (List.map D.str v.1))]) I λ_ ⟨b0_35,x36⟩ h=>.seq<|.S 3 I<|.p I (.len I U26 I)<|.A 1 I<|.nil<|.K [1,3,4,17] I<|.condS I h (λh=>?_) λh=>?_
 ·refine .skip<|.seq<|.block<|.S 3 I<|.X h I λx38 h=>.A 1 I<|.allocStore I I I I I I I I (by simp) I I Z123<|.nil<|.S 1 I<|.p I (.fa I (G123_0 _))<|.A 1 I<|.p I (.buildSl [_] I I E24 I (λ_=>I) I (enc:=D.str))<|bK h λx39 q39 h=>.app I I I I I I I I E24 I (λ_=>I) q39<|.A 1 I<|.nil<|.seq<|.sA 1 I<|.block<|.L [1,3,4,5] h (λv=>[(6,.d (.int v))]) (λv=>[]) I λ_ x48 h=>.seq<|.S 1 I<|.p I (.fa I (zf1 _))<|.A 1 I<|.p I (.len I U22 I)<|.A 1 I<|.nil<|.K [1,3,4,5,6,34] I<|.condS I h (λh=>?_) λh=>?_
  ·refine .skip<|.seq<|.block<|.seq<|.draw 17 Hm (by kernel_rfl) (by kernel_rfl)<|.p I (.fa I (zf1 _))<|.A 2 I<|.X h I λx50 h=>.A 3 I<|gK h λc52 h=>.jO 9 (decide ((t0.sorts.length:Int)≤((idx x38.sorts x48).getD default))) I (λb51=>?_) ?_
   ·refine .q I (.fa I (zf1 _))<|.A 2 I<|.q I (.ix I U22 S3 (someD (impF c52 b51)))<|.A 3 I<|.q I (.len I U22 I)<|.A 1 I<|.nil I
   refine .nil<|.nil<|.K [1,3,4,5,6,53] I<|.condS I h (λh=>?_) λh=>?_
   ·refine .sA 1 I<|.ret (rO h I)
   ·refine .skip<|.rA 3 I (ndE h I)
  ·refine .exit<|.sr<|.p I (.fa I (zf1 _))<|.A 1 I<|.p I (.len I U22 I)<|.A 1 I<|.nil<|.condS I h (λh=>?_) λh=>?_
   ·refine .sA 1 I<|.ret (rO h I)
   ·refine .skip<|.rA 3 I (ndE h I)
 ·refine .exit<|.seq<|.seq<|.plain 15 I<|.A 2 I<|.p I (.len I U26 I)<|.A 2 I<|gK h λc54 h=>.jO 3 (!((zal n b0_35).getD default)) I (λb53=>?_) ?_
  ·refine .A 1 I<|.q I (.callB I (kC I) (.cons I (.vec I (by simp)) .nil) I (zfj _ _ _ (someD (impF c54 b53))))<|.A 1 I<|.nil I
  refine .A 1 I<|.jO 4 (decide (256<(t0.actions.length:Int))) I (λb55=>?_) ?_
  ·refine .A 2 I<|.q I (.len I U27 I)<|.A 1 I<|.nil I
  refine .nil<|.nil<|.condS I h (λh=>?_) λh=>?_
  ·refine .sA 1 I<|.K [2] I<|.ret (rO h I)
  ·refine .skip<|.seq<|.sA 1 I<|.K [1,7] I<|.block<|.L [1] h (λv=>[(7,.d (.int v))]) (λv=>[]) I λ_ x152 h=>.seq<|.S 3 I<|.p I (.len I U27 I)<|.A 1 I<|.nil<|.K [1,7,77] I<|.condS I h (λh=>?_) λh=>?_
   ·refine .skip<|.seq<|.block<|.S 3 I<|.X h I λx154 h=>.A 1 I<|.allocStore I I I I I I I I (by simp) I I Z62<|.nil<|.seq<|.seq<|.draw 25 Hm (by kernel_rfl) (by kernel_rfl)<|.p I (.fa I (G62_0 _))<|.A 3 I<|.jO 6 (decide ((t0.operations.length:Int)≤x154.operation)) I (λb155=>?_) ?_
    ·refine .q I (.fa I (G62_0 _))<|.A 3 I<|.q I (.len I U26 I)<|.A 1 I<|.nil I
    refine .A 1 I<|gK h λc157 h=>.jO 12 ((x154.arguments.length:Int) != ((((idx t0.operations x154.operation).getD default).sorts).length:Int)) I (λb156=>?_) ?_
    ·refine .q I (.fa I (G62_1 _))<|.A 1 I<|.q I (.len I U22 I)<|.A 2 I<|.q I (.fa I (G62_0 _))<|.A 1 I<|.q I (.ix I U26 S123 (someD (impF c157 b156)))<|.q I (.fa I (zf1 _))<|.A 1 I<|.q I (.len I U22 I)<|.A 1 I<|.nil I
    refine .nil<|.nil<|.K [1,7,8,109] I<|.condS I h (λh=>?_) λh=>?_
    ·refine .sA 1 I<|.ret (rO h I)
    ·refine .skip<|.seq<|.sA 1 I<|.block<|.L [1,7,8] h (λv=>[(9,.d (.int v))]) (λv=>[]) I λ_ x182 h=>.seq<|.S 1 I<|.p I (.fa I (G62_1 _))<|.A 1 I<|.p I (.len I U22 I)<|.A 1 I<|.nil<|.K [1,7,8,9,114] I<|.condS I h (λh=>?_) λh=>?_
     ·refine .skip<|.seq<|.block<|.S 2 I<|.p I (.fa I (G62_0 _))<|.A 1 I<|.X h I λx184 h=>.p I (.fa I (zf1 _))<|.A 2 I<|.X h I λx185 h=>.A 2 I<|.nil<|.seq<|.draw 36 Hm (by kernel_rfl) (by kernel_rfl)<|.A 3 I<|gK h λc187 h=>gK h λc188 h=>.jA 7 (!((zac n ((idx x154.arguments x182).getD default) 9999).getD default)) I (λb186=>?_) ?_
      ·refine .q I (.fa I (G62_1 _))<|.A 2 I<|.q I (.ix I U22 S3 (someD (impT c187 b186)))<|.A 1 I<|.q I (.call I (kC I) I (zcT _ _ _ _ (someD (impT c188 b186))))<|.A 1 I<|.nil I
      refine .A 1 I<|gK h λc191 h=>gK h λc193 h=>gK h λc194 h=>.jO 23 ((decide (0≤x185))&&((decide (((idx x154.arguments x182).getD default)<0))||(decide (((idx t0.sorts x185).getD default)≤((idx x154.arguments x182).getD default))))) I (λb189=>?_) ?_
      ·refine .A 3 I<|.jAnd 19 (b2:=(decide (((idx x154.arguments x182).getD default)<0))||(decide (((idx t0.sorts x185).getD default)≤((idx x154.arguments x182).getD default)))) I I I I (.inr ⟨_,_,_,I,I,I⟩) (λ_ _ _ h1 h2=>by cases h1;cases h2;decide) I I (λb190=>?_) ?_
       ·refine .q I (.fa I (G62_1 _))<|.A 2 I<|.q I (.ix I U22 S3 (someD (impT (impF c191 b189) b190)))<|.A 3 I<|.jOr 11 (b2:=decide (((idx t0.sorts x185).getD default)≤((idx x154.arguments x182).getD default))) I I I I (.inr ⟨_,_,_,I,I,I⟩) (λ_ _ _ h1 h2=>by cases h1;cases h2;decide) I I (λb192=>?_) ?_
        ·refine .q I (.fa I (G62_1 _))<|.A 2 I<|.q I (.ix I U22 S3 (someD (impF (impT (impF c193 b189) b190) b192)))<|.A 4 I<|.q I (.ix I U22 S3 (someD (impF (impT (impF c194 b189) b190) b192)))<|.A 2 I<|.nil I
        exact .nil I
       exact .nil I
      refine .nil<|.nil<|.K [1,7,8,9,162] I<|.condS I h (λh=>?_) λh=>?_
      ·refine .sA 1 I<|.ret (rO h I)
      ·refine .skip<|.rA 3 I (ndE h I)
     ·refine .exit<|.J [1,7,8] h (λv=>[]) (λv=>[]) I (λk_195 h=>?_) (λv h=>?_)
      ·refine .sA 2 I<|.condS I h (λh=>?_) λh=>?_
       ·refine .S 4 I<|.X h I λx196 h=>.A 1 I<|.allocStore I I I I I I I I (by simp) I I Z62<|.nil<|.seq<|.plain 20 I<|.p I (.fa I (G62_0 _))<|.A 1 I<|.p I (.fa I (G62_0 _))<|.A 3 I<|gK h λc199 h=>.jO 13 ((x196.operation==x154.operation)&&(!((zbH n x196.arguments x154.arguments).getD default))) I (λb197=>?_) ?_
        ·refine .q I (.fa I (G62_0 _))<|.A 1 I<|.q I (.fa I (G62_0 _))<|.A 3 I<|.jAnd 6 (b2:=!((zbH n x196.arguments x154.arguments).getD default)) I I I I (.inr ⟨_,_,_,I,I,I⟩) (λ_ _ _ h1 h2=>by cases h1;cases h2;decide) I I (λb198=>?_) ?_
         ·refine .q I (.fa I (G62_1 _))<|.A 1 I<|.q I (.fa I (G62_1 _))<|.A 1 I<|.q I (.call I (kC I) I (ref13_less_ok _ _ _ _ (someD (impT (impF c199 b197) b198))))<|.A 1 I<|.nil I
         exact .nil I
        refine .nil<|.nil<|.K [1,7,8,190] I<|.condS I h (λh=>?_) λh=>?_
        ·refine .sA 1 I<|.ret (rO h I)
        ·refine .skip (ndE h I)
       ·refine .skip (ndE h I)
      ·refine .S 1 I<|.p I (.fa I (G62_2 _))<|.A 1 I<|.Z h I (ref13_effect_ok _ _ _) λx200 h=>.A 1 I<|.nil<|.K [1,7,195] I<|.condS I h (λh=>?_) λh=>?_
       ·refine .sA 1 I<|.ret (rO h I)
       ·refine .skip<|.rA 3 I (ndE h I)
   ·refine .exit<|.sA 1 I<|.ret (rO h I)
theorem ref13_leads_body (n:Nat) (self:Model→Int→Int→Int→Option Bool) (hself:∀ (t0:Model) (t1:Int) (t2:Int) (t3:Int) (r:Bool),self t0 t1 t2 t3=some r→Pure pg 125 [Model.enc t0,.int t1,.int t2,.int t3] (.bool r)) (t0:Model) (t1:Int) (t2:Int) (t3:Int) (r:Bool) (h:zao.body n self t0 t1 t2 t3=some r):Pure pg 125 [Model.enc t0,.int t1,.int t2,.int t3] (.bool r):=by
 refine Pure.ot Tryz.func125 I Tryz.ntmps125 I λA w=>.sA 2 I<|.seq<|.sA 3 I<|.condS I h (λh=>?_) λh=>?_
 ·refine .sA 1 I<|.ret (rO h I)
 ·refine .skip<|.seq<|.sA 1 I<|.block<|.L [1,2,3,4] h (λv=>[(9,.d (.int v))]) (λv=>[]) I λ_ x13 h=>.seq<|.seq<|.plain 9 I<|.A 3 I<|.p I (.len I U28 I)<|.A 2 I<|.jA 2 (decide (0<t3)) I (λb15=>?_) ?_
  ·refine .A 2 I<|.nil I
  refine .nil<|.nil<|.K [1,2,3,4,9,21] I<|.condS I h (λh=>?_) λh=>?_
  ·refine .skip<|.seq<|.block<|.seq<|.draw 21 Hm (by kernel_rfl) (by kernel_rfl)<|.A 3 I<|.X h I λx16 h=>.p I (.fa I (zf2 _))<|.A 4 I<|gK h λc18 h=>gK h λc19 h=>.jA 11 (((self t0 (((idx t0.hides x13).getD default).to) t2 (sub64 t3 1)).getD default)) I (λb17=>?_) ?_
   ·refine .A 4 I<|.q I (.ix I U28 S153 (someD (impT c18 b17)))<|.q I (.fa I (zg4 _))<|.A 4 I<|.q I (.call I (kC I) I (hself _ _ _ _ _ (someD (impT c19 b17))))<|.nil I
   refine .nil<|.nil<|.K [1,2,3,4,9,44] I<|.condS I h (λh=>?_) λh=>?_
   ·refine .sA 1 I<|.ret (rO h I)
   ·refine .skip<|.rA 3 I (ndE h I)
  ·refine .exit<|.sA 1 I<|.ret (rO h I)
theorem zhh  : ∀ (n:Nat) (t0:Model) (t1:Int) (t2:Int) (t3:Int) (r:Bool) (h:zao n t0 t1 t2 t3=some r),Pure pg 125 [Model.enc t0,.int t1,.int t2,.int t3] (.bool r)
 | 0,t0,t1,t2,t3,r,h=>by cases h
 | n+1,t0,t1,t2,t3,r,h=>ref13_leads_body n (zao n) (zhh n) t0 t1 t2 t3 r h
theorem ref13_hidden_ok (n t0 r) (h:zam n t0=some r):Pure pg 85 [Model.enc t0] (.bool r):=by
 refine Pure.ot Tryz.func85 I Tryz.ntmps85 I λA w=>.sA 2 I<|.seq<|.S 2 I<|.p I (.len I U28 I)<|.A 1 I<|.nil<|.condS I h (λh=>?_) λh=>?_
 ·refine .sA 1 I<|.ret (rO h I)
 ·refine .skip<|.seq<|.sA 1 I<|.block<|.L [1] h (λv=>[(3,.d (.int v))]) (λv=>[]) I λ_ x31 h=>.seq<|.S 3 I<|.p I (.len I U28 I)<|.A 1 I<|.nil<|.K [1,3,16] I<|.condS I h (λh=>?_) λh=>?_
  ·refine .skip<|.seq<|.block<|.S 3 I<|.X h I λx33 h=>.A 1 I<|.allocStore I I I I I I I I (by simp) I I Z153<|.nil<|.seq<|.seq<|.plain 31 I<|.p I (.fa I (zf2 _))<|.A 3 I<|.jO 6 (decide ((t0.tables.length:Int)≤x33.table)) I (λb34=>?_) ?_
   ·refine .q I (.fa I (zf2 _))<|.A 3 I<|.q I (.len I U23 I)<|.A 1 I<|.nil I
   refine .A 1 I<|.jO 3 (decide (x33.to<0)) I (λb35=>?_) ?_
   ·refine .q I (.fa I (zg4 _))<|.A 2 I<|.nil I
   refine .A 1 I<|.jO 6 (decide ((t0.tables.length:Int)≤x33.to)) I (λb36=>?_) ?_
   ·refine .q I (.fa I (zg4 _))<|.A 3 I<|.q I (.len I U23 I)<|.A 1 I<|.nil I
   refine .A 1 I<|.jO 5 (x33.table==x33.to) I (λb37=>?_) ?_
   ·refine .q I (.fa I (zf2 _))<|.A 1 I<|.q I (.fa I (zg4 _))<|.A 2 I<|.nil I
   refine .nil<|.nil<|.K [1,3,4,54] I<|.condS I h (λh=>?_) λh=>?_
   ·refine .sA 1 I<|.ret (rO h I)
   ·refine .skip<|.seq<|.draw 16 Hm (by kernel_rfl) (by kernel_rfl)<|.A 2 I<|.p I (.fa I (zf2 _))<|.A 1 I<|.X h I λx38 h=>.A 3 I<|.p I (.fa I (zg4 _))<|.A 1 I<|.X h I λx39 h=>.A 1 I<|.alloc I I I I ZZ119<|.alloc I I I I ZZ119<|.store I I I I I I Z119<|.store I I I I I I Z119<|.nil<|.freezes [0,1] (.cons (t:=5) (d:=.ref (Table.enc x38)) I (.loc (inIds I) I (.v (.v (.v (.v (.v .v1)))))) (.cons (t:=6) (d:=.ref (Table.enc x39)) I (.loc (inIds I) I (.v (.v (.v (.v (.v .v1)))))) .nil))<|.nil<|.K [1,3,4,5,6] I<|.seq<|.draw 40 Hm (by kernel_rfl) (by kernel_rfl)<|.p I (.fa I (zcm _))<|.A 3 I<|.jO 3 (x39.kind != 0) I (λb40=>?_) ?_
    ·refine .q I (.fa I (zcm _))<|.A 2 I<|.nil I
    refine .A 1 I<|.jO 3 (decide (x33.column<0)) I (λb41=>?_) ?_
    ·refine .q I (.fa I (G153_1 _))<|.A 2 I<|.nil I
    refine .A 1 I<|.jO 6 (decide ((x38.columns.length:Int)≤x33.column)) I (λb42=>?_) ?_
    ·refine .q I (.fa I (G153_1 _))<|.A 1 I<|.q I (.fa I (zbl _))<|.A 1 I<|.q I (.len I U22 I)<|.A 1 I<|.nil I
    refine .A 1 I<|.jO 4 ((x39.columns.length:Int) != 1) I (λb43=>?_) ?_
    ·refine .q I (.fa I (zbl _))<|.A 1 I<|.q I (.len I U22 I)<|.A 1 I<|.nil I
    refine .A 1 I<|gK h λc45 h=>gK h λc46 h=>.jO 11 (((idx x39.columns 0).getD default) != ((idx x38.columns x33.column).getD default)) I (λb44=>?_) ?_
    ·refine .q I (.fa I (zbl _))<|.A 1 I<|.q I (.ix I U22 S3 (someD (impF c45 b44)))<|.A 1 I<|.q I (.fa I (zbl _))<|.A 1 I<|.q I (.fa I (G153_1 _))<|.A 1 I<|.q I (.ix I U22 S3 (someD (impF c46 b44)))<|.A 2 I<|.nil I
    refine .nil<|.nil<|.K [1,3,106] I<|.condS I h (λh=>?_) λh=>?_
    ·refine .sA 1 I<|.ret (rO h I)
    ·refine .skip<|.rA 3 I (ndE h I)
  ·refine .exit<|.seq<|.sA 1 I<|.block<|.L [1] h (λv=>[(7,.d (.int v))]) (λv=>[]) I λ_ x55 h=>.seq<|.S 3 I<|.p I (.len I U28 I)<|.A 1 I<|.nil<|.K [1,7,111] I<|.condS I h (λh=>?_) λh=>?_
   ·refine .skip<|.seq<|.block<|.seq<|.draw 17 Hm (by kernel_rfl) (by kernel_rfl)<|.A 4 I<|.X h I λx57 h=>.p I (.fa I (zg4 _))<|.A 4 I<|.X h I λx58 h=>.p I (.fa I (zf2 _))<|.A 3 I<|.p I (.len I U23 I)<|.Z h I (zhh _ _ _ _ _) λx59 h=>.nil<|.nil<|.K [1,7,130] I<|.condS I h (λh=>?_) λh=>?_
    ·refine .sA 1 I<|.ret (rO h I)
    ·refine .skip<|.rA 3 I (ndE h I)
   ·refine .exit<|.sA 1 I<|.ret (rO h I)
theorem zdK (n t0 r) (h:zcX n t0=some r):Pure pg 33 [Model.enc t0] (.bool r):=by
 refine Pure.ot Tryz.func33 I Tryz.ntmps33 I λA w=>.sA 2 I<|.seq<|.seq<|.plain 18 I<|.A 4 I<|.Z h I (ze4 _ _ _) λx1 h=>.A 2 I<|.jO 4 (decide (24<(t0.families.length:Int))) I (λb2=>?_) ?_
 ·refine .A 2 I<|.q I (.len I U24 I)<|.A 1 I<|.nil I
 refine .A 1 I<|gK h λc4 h=>.jO 4 (!((zal n t0.families).getD default)) I (λb3=>?_) ?_
 ·refine .A 2 I<|.q I (.call I (kC I) I (zfj _ _ _ (someD (impF c4 b3))))<|.A 1 I<|.nil I
 refine .nil<|.nil<|.K [1,20] I<|.condS I h (λh=>?_) λh=>?_
 ·refine .sA 1 I<|.ret (rO h I)
 ·refine .skip<|.seq<|.plain 10 I<|.A 1 I<|.Z h I (zg0 _ _) λx5 h=>.A 1 I<|gK h λc7 h=>.jA 2 (((zu n t0).getD default)) I (λb6=>?_) ?_
  ·refine .A 1 I<|.q I (.call I (kC I) I (ref13_actions_ok _ _ _ (someD (impT c7 b6))))<|.nil I
  refine .A 1 I<|gK h λc9 h=>.jA 2 (((zam n t0).getD default)) I (λb8=>?_) ?_
  ·refine .A 1 I<|.q I (.call I (kC I) I (ref13_hidden_ok _ _ _ (someD (impT c9 b8))))<|.nil I
  refine .nil<|.A 1 I<|.nil<|.ret (rO h I)
theorem zhl (n t0 t1 r) (h:zez n t0 t1=some r):Pure pg 27 [Model.enc t0,Question.enc t1] (.bool r):=by
 refine Pure.ot Tryz.func27 I Tryz.ntmps27 I λA w=>.sA 3 I<|.seq<|.seq<|.plain 35 I<|.A 1 I<|.Z h I (zdK _ _) λx1 h=>.A 2 I<|.jO 3 (decide (t1.e<0)) I (λb2=>?_) ?_
 ·refine .q I (.fa I (G34_0 _))<|.A 2 I<|.nil I
 refine .A 1 I<|.jO 3 (decide (t1.f<0)) I (λb3=>?_) ?_
 ·refine .q I (.fa I (G34_1 _))<|.A 2 I<|.nil I
 refine .A 1 I<|.jO 6 (decide ((t0.actions.length:Int)≤t1.e)) I (λb4=>?_) ?_
 ·refine .q I (.fa I (G34_0 _))<|.A 3 I<|.q I (.len I U27 I)<|.A 1 I<|.nil I
 refine .A 1 I<|.jO 6 (decide ((t0.actions.length:Int)≤t1.f)) I (λb5=>?_) ?_
 ·refine .q I (.fa I (G34_1 _))<|.A 3 I<|.q I (.len I U27 I)<|.A 1 I<|.nil I
 refine .A 1 I<|.jO 4 (decide (t1.target.index<0)) I (λb6=>?_) ?_
 ·refine .q I (.fa I (G34_2 _))<|.q I (.fa I (G32_1 _))<|.A 2 I<|.nil I
 refine .nil<|.nil<|.K [2,3,39] I<|.condS I h (λh=>?_) λh=>?_
 ·refine .sA 1 I<|.ret (rO h I)
 ·refine .skip<|.seq<|.sr<|.p I (.fa I (G34_2 _))<|.p I (.fa I (G32_0 _))<|.A 1 I<|.nil<|.condS I h (λh=>?_) λh=>?_
  ·refine .seq<|.draw 14 Hm (by kernel_rfl) (by kernel_rfl)<|.p I (.fa I (G34_2 _))<|.p I (.fa I (G32_1 _))<|.A 3 I<|.p I (.fa I (G34_0 _))<|.A 1 I<|.X h I λx7 h=>.p I (.fa I (G62_2 _))<|.p I (.fa I (G60_1 _))<|.A 1 I<|.p I (.len I U57 I)<|.A 2 I<|.nil<|.nil<|.K [4] I<|.ret (rO h I)
  ·refine .skip<|.seq<|.plain 14 I<|.p I (.fa I (G34_0 _))<|.A 1 I<|.p I (.fa I (G34_1 _))<|.A 3 I<|.jA 7 (decide (t1.target.index<(t0.constraints.length:Int))) I (λb8=>?_) ?_
   ·refine .q I (.fa I (G34_2 _))<|.q I (.fa I (G32_1 _))<|.A 3 I<|.q I (.len I U25 I)<|.A 1 I<|.nil I
   refine .nil<|.A 1 I<|.nil<|.K [4] I<|.ret (rO h I)
theorem zgx (n t0 r) (h:zdT n t0=some r):Pure pg 86 [.int t0] (.bool r):=by
 refine Pure.ot Tryz.func86 I Tryz.ntmps86 I λA w=>.sA 1 I<|.seq<|.plain 6 I<|.A 3 I<|.jO 2 (t0==1) I (λb1=>?_) ?_
 ·refine .A 2 I<|.nil I
 refine .nil<|.A 1 I<|.nil<|.ret (rO h I)
theorem zhj (n t0 t1 r) (h:zbp n t0 t1=some r):Pure pg 87 [Model.enc t0,Table.enc t1] (.int r):=by
 refine Pure.ot Tryz.func87 I Tryz.ntmps87 I λA w=>.sA 3 I<|.sA 1 I<|.seq<|.sA 1 I<|.block<|.L [2,3] h (λv=>[(5,.d (.int v.1)),(6,.d (.int v.2))]) (λv=>[]) I λ_ ⟨x9,x10⟩ h=>.seq<|.S 1 I<|.p I (.fa I (zbl _))<|.A 1 I<|.p I (.len I U22 I)<|.A 1 I<|.nil<|.K [2,3,5,6,11] I<|.condS I h (λh=>?_) λh=>?_
 ·refine .skip<|.seq<|.block<|.draw 12 Hm (by kernel_rfl) (by kernel_rfl)<|.A 3 I<|.p I (.fa I (zbl _))<|.A 2 I<|.X h I λx12 h=>.A 1 I<|.X h I λx13 h=>.A 3 I<|.nil<|.nil<|.rA 3 I (ndE h I)
 ·refine .exit<|.sA 2 I<|.ret (rO h I)
theorem ze5 (n t0 r) (h:zaJ n t0=some r):Pure pg 34 [Model.enc t0] (.int r):=by
 refine Pure.ot Tryz.func34 I Tryz.ntmps34 I λA w=>.sA 2 I<|.sA 1 I<|.seq<|.sA 1 I<|.block<|.L [1] h (λv=>[(3,.d (.int v.1)),(4,.d (.int v.2))]) (λv=>[]) I λ_ ⟨x17,x18⟩ h=>.seq<|.S 3 I<|.p I (.len I U23 I)<|.A 1 I<|.nil<|.K [1,3,4,9] I<|.condS I h (λh=>?_) λh=>?_
 ·refine .skip<|.J [1,4] h (λv=>[(3,.d (.int v))]) (λv=>[]) I (λk_21 h=>?_) (λx20 h=>?_)
  ·refine .block<|.S 3 I<|.X h I λx22 h=>.p I (.fa I (zcm _))<|.A 1 I<|.Z h I (zgx _ _) λx23 h=>.nil<|.condS I h (λh=>?_) λh=>?_
   ·refine .draw 10 Hm (by kernel_rfl) (by kernel_rfl)<|.A 5 I<|.X h I λx24 h=>.A 1 I<|.Z h I (zhj _ _ _) λx25 h=>.A 2 I<|.nil<|.nil (ndE h I)
   ·refine .skip (ndE h I)
  ·refine .rA 3 I (ndE h I)
 ·refine .exit<|.sA 2 I<|.ret (rO h I)
theorem ref22_Add_ok (n t0 t1 r) (h:zdg n t0 t1=some r):Pure pg 79 [Effect.enc t0,.int t1] (.int r):=by
 refine Pure.ot Tryz.func79 I Tryz.ntmps79 I λA w=>.sA 2 I<|.sA 1 I<|.seq<|.sA 1 I<|.block<|.L [1,2] h (λv=>[(5,.d (.int v.1)),(6,.d (.int v.2))]) (λv=>[]) I λ_ ⟨x13,x14⟩ h=>.seq<|.S 1 I<|.p I (.fa I (G60_0 _))<|.A 1 I<|.p I (.len I U56 I)<|.A 1 I<|.nil<|.K [1,2,5,6,11] I<|.condS I h (λh=>?_) λh=>?_
 ·refine .skip<|.J [1,2,6] h (λv=>[(5,.d (.int v))]) (λv=>[]) I (λk_17 h=>?_) (λx16 h=>?_)
  ·refine .block<|.sr<|.p I (.fa I (G60_0 _))<|.A 2 I<|.X h I λx18 h=>.p I (.fa I (zhJ _))<|.A 3 I<|.nil<|.condS I h (λh=>?_) λh=>?_
   ·refine .region<|.A 1 I<|.p I (.fa I (G60_0 _))<|.A 2 I<|.X h I λx19 h=>.p I (.fa I (G125_1 _))<|.A 3 I<|.nil (ndE h I)
   ·refine .skip (ndE h I)
  ·refine .rA 3 I (ndE h I)
 ·refine .exit<|.sA 2 I<|.ret (rO h I)
theorem zcc (n t0 t1 r) (h:zaU n t0 t1=some r):Pure pg 30 [eA t0,Effect.enc t1] (eA r):=by
 refine Pure.ot Tryz.func30 I Tryz.ntmps30 I λA w=>.S 1 I<|.p I (.nilS 1 (α:=Int) D.int I)<|.nil<|.sr<|.buildVec [] I I I I I E22 I (λ_=>I) I (enc:=D.int)<|.A 1 I<|.nil<|.seq<|.sA 1 I<|.block<|.L [0,3] h (λv=>[(5,.vec 0 (List.length v.1)),(6,.d (.int v.2))]) (λv=>[(0,.vec 3 1 (List.map D.int v.1))]) I λ_ ⟨b0_11,x12⟩ h=>.seq<|.S 2 I<|.p I (.len I U22 I)<|.A 1 I<|.nil<|.K [0,3,5,6,11] I<|.condS I h (λh=>?_) λh=>?_
 ·refine .skip<|.seq<|.block<|.draw 10 Hm (by kernel_rfl) (by kernel_rfl)<|.A 3 I<|.X h I λx14 h=>.A 3 I<|.Z h I (ref22_Add_ok _ _ _) λx15 h=>.A 1 I<|.p I (.buildSl [_] I I E22 I (λ_=>I) I (enc:=D.int))<|.nil<|bK h λx16 q16 h=>.app I I I I I I I I E22 I (λ_=>I) q16<|.A 1 I<|.nil<|.rA 3 I (ndE h I)
 ·refine .exit<|.sA 2 I<|.ret ?_
  cases h
  exact zaH I (.vec I (by simp))
theorem zgw (n t0 t1 r) (h:zau n t0 t1=some r):Pure pg 138 [Constraint.enc t0,.int t1] (.bool r):=by
 refine Pure.ot Tryz.func138 I Tryz.ntmps138 I λA w=>.sA 2 I<|.seq<|.sr<|.p I (.fa I (G74_0 _))<|.A 2 I<|.nil<|.condS I h (λh=>?_) λh=>?_
 ·refine .seq<|.plain 25 I<|.p I (.fa I (G74_4 _))<|.A 3 I<|.jA 3 (decide (t0.size≤6)) I (λb1=>?_) ?_
  ·refine .q I (.fa I (G74_4 _))<|.A 2 I<|.nil I
  refine .A 1 I<|.jA 3 (decide (0≤t0.first)) I (λb2=>?_) ?_
  ·refine .q I (.fa I (G74_3 _))<|.A 2 I<|.nil I
  refine .A 1 I<|.jA 10 (decide (t0.first≤sub64 t1 (mul64 t0.size t0.size))) I (λb3=>?_) ?_
  ·refine .q I (.fa I (G74_3 _))<|.A 2 I<|.q I (.fa I (G74_4 _))<|.A 1 I<|.q I (.fa I (G74_4 _))<|.A 4 I<|.nil I
  refine .nil<|.A 1 I<|.nil<|.K [4] I<|.ret (rO h I)
 ·refine .skip<|.seq<|.sA 1 I<|.block<|.L [1,2] h (λv=>[(5,.d (.int v))]) (λv=>[]) I λ_ x12 h=>.seq<|.S 1 I<|.p I (.fa I (G74_2 _))<|.p I (.fa I (G69_0 _))<|.A 1 I<|.p I (.len I U67 I)<|.A 1 I<|.nil<|.K [1,2,5,39] I<|.condS I h (λh=>?_) λh=>?_
  ·refine .skip<|.seq<|.block<|.seq<|.plain 19 I<|.p I (.fa I (G74_2 _))<|.p I (.fa I (G69_0 _))<|.A 2 I<|.X h I λx14 h=>.p I (.fa I (G77_0 _))<|.A 3 I<|gK h λc16 h=>.jO 9 (decide (t1≤((idx t0.row.terms x12).getD default).cell)) I (λb15=>?_) ?_
   ·refine .q I (.fa I (G74_2 _))<|.q I (.fa I (G69_0 _))<|.A 2 I<|.q I (.ix I U67 S77 (someD (impF c16 b15)))<|.q I (.fa I (G77_0 _))<|.A 3 I<|.nil I
   refine .nil<|.nil<|.K [1,2,5,60] I<|.condS I h (λh=>?_) λh=>?_
   ·refine .sA 1 I<|.ret (rO h I)
   ·refine .skip<|.rA 3 I (ndE h I)
  ·refine .exit<|.sr<|.p I (.fa I (G74_0 _))<|.A 3 I<|.nil<|.ret (rO h I)
theorem zh6 (n t0 t1 t2 t3 r) (h:zdy n t0 t1 t2 t3=some r):Pure pg 215 [Constraint.enc t0,eA t1,.int t2,.int t3] (.bool r):=by
 refine Pure.ot Tryz.func215 I Tryz.ntmps215 I λA w=>.sA 2 I<|.S 1 I<|.p I (.fa I (G74_3 _))<|.A 2 I<|.p I (.fa I (G74_4 _))<|.A 5 I<|.X h I λx1 h=>.A 3 I<|.nil<|.K [8] I<|.ret (rO h I)
theorem ref12_has_ok (n t0 t1 r) (h:zdf n t0 t1=some r):Pure pg 216 [eA t0,.int t1] (.bool r):=by
 refine Pure.ot Tryz.func216 I Tryz.ntmps216 I λA w=>.sA 1 I<|.seq<|.sA 1 I<|.block<|.L [0,1] h (λv=>[(5,.d (.int v))]) (λv=>[]) I λ_ x5 h=>.seq<|.S 2 I<|.p I (.len I U22 I)<|.A 1 I<|.nil<|.K [0,1,5,9] I<|.condS I h (λh=>?_) λh=>?_
 ·refine .skip<|.seq<|.block<|.S 2 I<|.X h I λx7 h=>.A 3 I<|.nil<|.condS I h (λh=>?_) λh=>?_
  ·refine .sA 1 I<|.ret (rO h I)
  ·refine .skip<|.rA 3 I (ndE h I)
 ·refine .exit<|.sA 1 I<|.ret (rO h I)
theorem ref12_paths_body (n:Nat) (self:Constraint→(List Int)→(List Int)→Int→Option (List (List Int))) (hself:∀ (t0:Constraint) (t1:List Int) (t2:List Int) (t3:Int) (r:List (List Int)),self t0 t1 t2 t3=some r→Pure pg 182 [Constraint.enc t0,eA t1,eA t2,.int t3] (eN r)) (t0:Constraint) (t1:List Int) (t2:List Int) (t3:Int) (r:List (List Int)) (h:zaC.body n self t0 t1 t2 t3=some r):Pure pg 182 [Constraint.enc t0,eA t1,eA t2,.int t3] (eN r):=by
 refine Pure.ot Tryz.func182 I Tryz.ntmps182 I λA w=>.S 1 I<|.p I (.nilS 1 (α:=List Int) eA I)<|.nil<|.S 2 I<|.p I (.len I U22 I)<|.A 1 I<|.X h I λx1 h=>.A 2 I<|.nil<|.seq<|.S 1 I<|.p I (.len I U22 I)<|.A 2 I<|.nil<|.condS I h (λh=>?_) λh=>?_
 ·refine .seq<|.seq<|.draw 7 Hm (by kernel_rfl) (by kernel_rfl)<|.A 4 I<|.X h I λx2 h=>.A 1 I<|.Z h I (zh6 _ _ _ _ _) λx3 h=>.nil<|.nil<|.K [2,28] I<|.condS I h (λh=>?_) λh=>?_
  ·refine .S 1 I<|.p I (.buildSl [_] I I E142 I (λ_=>I) I (enc:=eA))<|.A 1 I<|.nil<|.ret ?_
   cases h
   exact zaH I (.d _)
  ·refine .skip<|.sr<|.p I (.nilS 1 (α:=List Int) eA I)<|.nil<|.ret ?_
   cases h
   exact zaH I (.d _)
 ·refine .skip<|.sr<|.buildVec [] I I I I I E142 I (λ_=>I) I (enc:=eA)<|.A 1 I<|.nil<|.seq<|.S 1 I<|.X h I λx4 h=>.A 3 I<|.nil<|.K [1,2,3,4,9,10,11] I<|.block<|.L [1,2,3,4,9] h (λv=>[(10,.vec 0 (List.length v.1)),(11,.d (.int v.2))]) (λv=>[(0,.vec 22 1 (List.map eA v.1))]) I λ_ ⟨b0_27,x28⟩ h=>.seq<|.S 1 I<|.p I (.fa I (G74_4 _))<|.A 2 I<|.nil<|.K [1,2,3,4,9,10,11,39] I<|.condS I h (λh=>?_) λh=>?_
  ·refine .skip<|.J [1,2,3,4,9,11] h (λv=>[(10,.vec 0 (List.length v))]) (λv=>[(0,.vec 22 1 (List.map eA v))]) I (λk_31 h=>?_) (λb0_30 h=>?_)
   ·refine .block<|.seq<|.seq<|.plain 11 I<|.A 2 I<|.Z h I (ref12_has_ok _ _ _) λx32 h=>.A 1 I<|gK h λc34 h=>.jO 6 (!((zdy n t0 t1 x1 x28).getD default)) I (λb33=>?_) ?_
    ·refine .A 4 I<|.q I (.call I (kC I) I (zh6 _ _ _ _ _ _ (someD (impF c34 b33))))<|.A 1 I<|.nil I
    refine .nil<|.nil<|.condS I h (λh=>?_) λh=>?_
    ·refine .exit (ndE h I)
    ·refine .skip<|bK h λx35 q35 h=>bK h λx36 q36 h=>bK h λx37 q37 h=>bK h λx38 q38 h=>.drawA 13 Hm I<|.first 0 I (by decide +kernel) (by decide +kernel) (by decide +kernel) I (.m I (.nil ⟨I,I⟩))<|.first 2 I (by decide +kernel) (by decide +kernel) (by decide +kernel) I (.m I (.nil ⟨I,I⟩))<|.first 4 I (by decide +kernel) (by decide +kernel) (by decide +kernel) I (.m I (.nil ⟨I,I⟩))<|.first 6 I (by decide +kernel) (by decide +kernel) (by decide +kernel) I (.m I (.nil ⟨I,I⟩))<|.first 9 I (by decide +kernel) (by decide +kernel) (by decide +kernel) I (.m I (.nil ⟨I,I⟩))<|.via 1 #[true,true,true,true,true,true,true,true,true,true,true,true,false] ⟨[(1,.d (eA t1)),(2,.d (eA t2)),(3,.d (.int t3)),(4,.d (.ref (Constraint.enc t0))),(9,.d (.int x1)),(11,.d (.int x28)),(64,.vec 0 (List.length x38))],[.vec 22 1 (List.map eA x38),.dead]⟩ ?_ λsA0=>?_
     ·refine .step 12 [] (by decide +kernel) (.cons (i:=12) I (.z I (.nil ⟨I,I⟩)) ?_ .nil)
      refine .done (by decide +kernel) (ndE h I)
     refine .via 2 #[true,true,true,true,true,true,true,true,true,true,true,false,false] ⟨[(1,.d (eA t1)),(2,.d (eA t2)),(3,.d (.int t3)),(4,.d (.ref (Constraint.enc t0))),(9,.d (.int x1)),(11,.d (.int x28)),(53,.vec 0 (List.length b0_27)),(63,.d (eN x37))],[.vec 22 1 (List.map eA b0_27),.dead]⟩ ?_ λsA1=>?_
     ·refine .step 11 [] (by decide +kernel) (.cons (i:=11) I (.app I I I I I I I I E142 I (λ_=>I) q38 (.nil ⟨I,I⟩)) ?_ .nil)
      exact .keepT [1,2,3,4,9,11,64] (.c4 I<|.c2 I<|.c I .nil) (.to #[true,true,true,true,true,true,true,true,true,true,true,true,false] (by decide +kernel) sA0)
     refine .via 3 #[true,true,true,true,true,true,true,true,true,true,false,false,false] ⟨[(1,.d (eA t1)),(2,.d (eA t2)),(3,.d (.int t3)),(4,.d (.ref (Constraint.enc t0))),(9,.d (.int x1)),(11,.d (.int x28)),(53,.vec 0 (List.length b0_27)),(54,.d (Constraint.enc t0)),(55,.d (eA t1)),(61,.vec 1 (List.length x36)),(62,.d (.int t3))],[.vec 22 1 (List.map eA b0_27),.vec 3 1 (List.map D.int x36)]⟩ ?_ λsA2=>?_
     ·refine .step 10 [] (by decide +kernel) (.cons (i:=10) I (.freezes [1] (.cons (t:=61) I (.vec (inIds I) I (yS _).symm) .nil) (.p I (.call I (kC I) I (hself _ _ _ _ _ q37)) (.nil ⟨I,I⟩))) ?_ .nil)
      exact .keepT [1,2,3,4,9,11,53,63] (.c8 I .nil) (.to #[true,true,true,true,true,true,true,true,true,true,true,false,false] (by decide +kernel) sA1)
     refine .via 4 #[true,true,true,true,true,true,true,true,false,true,false,false,false] ⟨[(1,.d (eA t1)),(2,.d (eA t2)),(3,.d (.int t3)),(4,.d (.ref (Constraint.enc t0))),(9,.d (.int x1)),(11,.d (.int x28)),(53,.vec 0 (List.length b0_27)),(54,.d (Constraint.enc t0)),(55,.d (eA t1)),(58,.vec 1 (List.length x35)),(60,.d (eA [x28])),(62,.d (.int t3))],[.vec 22 1 (List.map eA b0_27),.vec 3 1 (List.map D.int x35)]⟩ ?_ λsA3=>?_
     ·refine .step 8 [] (by decide +kernel) (.cons (i:=8) I (.app I I I I I I I I E22 I (λ_=>I) q36 (.nil ⟨I,I⟩)) ?_ .nil)
      exact .keepT [1,2,3,4,9,11,53,54,55,61,62] (.c8 I<|.c2 I<|.c I .nil) (.to #[true,true,true,true,true,true,true,true,true,true,false,false,false] (by decide +kernel) sA2)
     refine .via 4 #[true,false,true,true,true,true,true,true,true,true,false,false,false] ⟨[(1,.d (eA t1)),(2,.d (eA t2)),(3,.d (.int t3)),(4,.d (.ref (Constraint.enc t0))),(9,.d (.int x1)),(11,.d (.int x28)),(53,.vec 0 (List.length b0_27)),(55,.d (eA t1)),(61,.vec 1 (List.length x36)),(62,.d (.int t3))],[.vec 22 1 (List.map eA b0_27),.vec 3 1 (List.map D.int x36)]⟩ ?_ λsA4=>?_
     ·refine .step 1 [] (by decide +kernel) (.cons (i:=1) I (.p I (.ld Y74 I) (.nil ⟨I,I⟩)) ?_ .nil)
      exact .keepT [1,2,3,4,9,11,53,54,55,61,62] (.c8 I<|.c2 I<|.c I .nil) (.to #[true,true,true,true,true,true,true,true,true,true,false,false,false] (by decide +kernel) sA2)
     refine .via 5 #[true,true,true,true,true,true,true,false,false,true,false,false,false] ⟨[(1,.d (eA t1)),(2,.d (eA t2)),(3,.d (.int t3)),(4,.d (.ref (Constraint.enc t0))),(9,.d (.int x1)),(11,.d (.int x28)),(53,.vec 0 (List.length b0_27)),(54,.d (Constraint.enc t0)),(55,.d (eA t1)),(58,.vec 1 (List.length x35)),(59,.d (.int x28)),(62,.d (.int t3))],[.vec 22 1 (List.map eA b0_27),.vec 3 1 (List.map D.int x35)]⟩ ?_ λsA5=>?_
     ·refine .step 7 [] (by decide +kernel) (.cons (i:=7) I (.p I (.buildSl [_] I I E22 I (λ_=>I) I (enc:=D.int)) (.nil ⟨I,I⟩)) ?_ .nil)
      exact .keepT [1,2,3,4,9,11,53,54,55,58,60,62] (.c8 I<|.c4 I .nil) (.to #[true,true,true,true,true,true,true,true,false,true,false,false,false] (by decide +kernel) sA3)
     refine .via 5 #[true,true,true,true,true,false,true,true,false,true,false,false,false] ⟨[(1,.d (eA t1)),(2,.d (eA t2)),(3,.d (.int t3)),(4,.d (.ref (Constraint.enc t0))),(9,.d (.int x1)),(11,.d (.int x28)),(53,.vec 0 (List.length b0_27)),(54,.d (Constraint.enc t0)),(55,.d (eA t1)),(56,.vec 1 (List.length ([]:List Int))),(57,.d (eA t2)),(60,.d (eA [x28])),(62,.d (.int t3))],[.vec 22 1 (List.map eA b0_27),.vec 3 1 (List.map D.int ([]:List Int))]⟩ ?_ λsA6=>?_
     ·refine .step 5 [] (by decide +kernel) (.cons (i:=5) I (.app I I I I I I I I E22 I (λ_=>I) q35 (.nil ⟨I,I⟩)) ?_ .nil)
      exact .keepT [1,2,3,4,9,11,53,54,55,58,60,62] (.c8 I<|.c4 I .nil) (.to #[true,true,true,true,true,true,true,true,false,true,false,false,false] (by decide +kernel) sA3)
     refine .via 5 #[true,false,true,true,true,true,true,true,false,true,false,false,false] ⟨[(1,.d (eA t1)),(2,.d (eA t2)),(3,.d (.int t3)),(4,.d (.ref (Constraint.enc t0))),(9,.d (.int x1)),(11,.d (.int x28)),(53,.vec 0 (List.length b0_27)),(55,.d (eA t1)),(58,.vec 1 (List.length x35)),(60,.d (eA [x28])),(62,.d (.int t3))],[.vec 22 1 (List.map eA b0_27),.vec 3 1 (List.map D.int x35)]⟩ ?_ λsA7=>?_
     ·refine .step 1 [8] (by decide +kernel) (.cons (i:=1) I (.p I (.ld Y74 I) (.nil ⟨I,I⟩)) ?_ (.cons (i:=8) I (.app I I I I I I I I E22 I (λ_=>I) q36 (.nil ⟨I,I⟩)) ?_ .nil))
      ·exact .keepT [1,2,3,4,9,11,53,54,55,58,60,62] (.c8 I<|.c4 I .nil) (.to #[true,true,true,true,true,true,true,true,false,true,false,false,false] (by decide +kernel) sA3)
      ·exact .keepT [1,2,3,4,9,11,53,55,61,62] (.c8 I<|.c2 I .nil) (.to #[true,false,true,true,true,true,true,true,true,true,false,false,false] (by decide +kernel) sA4)
     refine .via 6 #[true,true,true,true,true,false,true,false,false,true,false,false,false] ⟨[(1,.d (eA t1)),(2,.d (eA t2)),(3,.d (.int t3)),(4,.d (.ref (Constraint.enc t0))),(9,.d (.int x1)),(11,.d (.int x28)),(53,.vec 0 (List.length b0_27)),(54,.d (Constraint.enc t0)),(55,.d (eA t1)),(56,.vec 1 (List.length ([]:List Int))),(57,.d (eA t2)),(59,.d (.int x28)),(62,.d (.int t3))],[.vec 22 1 (List.map eA b0_27),.vec 3 1 (List.map D.int ([]:List Int))]⟩ ?_ λsA8=>?_
     ·refine .step 5 [7] (by decide +kernel) (.cons (i:=5) I (.app I I I I I I I I E22 I (λ_=>I) q35 (.nil ⟨I,I⟩)) ?_ (.cons (i:=7) I (.p I (.buildSl [_] I I E22 I (λ_=>I) I (enc:=D.int)) (.nil ⟨I,I⟩)) ?_ .nil))
      ·exact .keepT [1,2,3,4,9,11,53,54,55,58,59,62] (.c8 I<|.c4 I .nil) (.to #[true,true,true,true,true,true,true,false,false,true,false,false,false] (by decide +kernel) sA5)
      ·exact .keepT [1,2,3,4,9,11,53,54,55,56,57,60,62] (.c8 I<|.c4 I<|.c I .nil) (.to #[true,true,true,true,true,false,true,true,false,true,false,false,false] (by decide +kernel) sA6)
     refine .via 6 #[true,true,true,false,true,false,true,true,false,true,false,false,false] ⟨[(1,.d (eA t1)),(2,.d (eA t2)),(3,.d (.int t3)),(4,.d (.ref (Constraint.enc t0))),(9,.d (.int x1)),(11,.d (.int x28)),(53,.vec 0 (List.length b0_27)),(54,.d (Constraint.enc t0)),(55,.d (eA t1)),(57,.d (eA t2)),(60,.d (eA [x28])),(62,.d (.int t3))],[.vec 22 1 (List.map eA b0_27)]⟩ ?_ λsA9=>?_
     ·refine .step 3 [] (by decide +kernel) (.cons (i:=3) I (.buildVec [] I I I I I E22 I (λ_=>I) I (enc:=D.int) (.nil ⟨I,I⟩)) ?_ .nil)
      exact .keepT [1,2,3,4,9,11,53,54,55,56,57,60,62] (.c8 I<|.c4 I<|.c I .nil) (.to #[true,true,true,true,true,false,true,true,false,true,false,false,false] (by decide +kernel) sA6)
     refine .via 6 #[true,false,true,true,true,true,true,false,false,true,false,false,false] ⟨[(1,.d (eA t1)),(2,.d (eA t2)),(3,.d (.int t3)),(4,.d (.ref (Constraint.enc t0))),(9,.d (.int x1)),(11,.d (.int x28)),(53,.vec 0 (List.length b0_27)),(55,.d (eA t1)),(58,.vec 1 (List.length x35)),(59,.d (.int x28)),(62,.d (.int t3))],[.vec 22 1 (List.map eA b0_27),.vec 3 1 (List.map D.int x35)]⟩ ?_ λsA10=>?_
     ·refine .step 1 [7] (by decide +kernel) (.cons (i:=1) I (.p I (.ld Y74 I) (.nil ⟨I,I⟩)) ?_ (.cons (i:=7) I (.p I (.buildSl [_] I I E22 I (λ_=>I) I (enc:=D.int)) (.nil ⟨I,I⟩)) ?_ .nil))
      ·exact .keepT [1,2,3,4,9,11,53,54,55,58,59,62] (.c8 I<|.c4 I .nil) (.to #[true,true,true,true,true,true,true,false,false,true,false,false,false] (by decide +kernel) sA5)
      ·exact .keepT [1,2,3,4,9,11,53,55,58,60,62] (.c8 I<|.c2 I<|.c I .nil) (.to #[true,false,true,true,true,true,true,true,false,true,false,false,false] (by decide +kernel) sA7)
     refine .via 6 #[true,false,true,true,true,false,true,true,false,true,false,false,false] ⟨[(1,.d (eA t1)),(2,.d (eA t2)),(3,.d (.int t3)),(4,.d (.ref (Constraint.enc t0))),(9,.d (.int x1)),(11,.d (.int x28)),(53,.vec 0 (List.length b0_27)),(55,.d (eA t1)),(56,.vec 1 (List.length ([]:List Int))),(57,.d (eA t2)),(60,.d (eA [x28])),(62,.d (.int t3))],[.vec 22 1 (List.map eA b0_27),.vec 3 1 (List.map D.int ([]:List Int))]⟩ ?_ λsA11=>?_
     ·refine .step 1 [5] (by decide +kernel) (.cons (i:=1) I (.p I (.ld Y74 I) (.nil ⟨I,I⟩)) ?_ (.cons (i:=5) I (.app I I I I I I I I E22 I (λ_=>I) q35 (.nil ⟨I,I⟩)) ?_ .nil))
      ·exact .keepT [1,2,3,4,9,11,53,54,55,56,57,60,62] (.c8 I<|.c4 I<|.c I .nil) (.to #[true,true,true,true,true,false,true,true,false,true,false,false,false] (by decide +kernel) sA6)
      ·exact .keepT [1,2,3,4,9,11,53,55,58,60,62] (.c8 I<|.c2 I<|.c I .nil) (.to #[true,false,true,true,true,true,true,true,false,true,false,false,false] (by decide +kernel) sA7)
     refine .via 7 #[true,true,true,false,true,false,true,false,false,true,false,false,false] ⟨[(1,.d (eA t1)),(2,.d (eA t2)),(3,.d (.int t3)),(4,.d (.ref (Constraint.enc t0))),(9,.d (.int x1)),(11,.d (.int x28)),(53,.vec 0 (List.length b0_27)),(54,.d (Constraint.enc t0)),(55,.d (eA t1)),(57,.d (eA t2)),(59,.d (.int x28)),(62,.d (.int t3))],[.vec 22 1 (List.map eA b0_27)]⟩ ?_ λsA12=>?_
     ·refine .step 3 [7] (by decide +kernel) (.cons (i:=3) I (.buildVec [] I I I I I E22 I (λ_=>I) I (enc:=D.int) (.nil ⟨I,I⟩)) ?_ (.cons (i:=7) I (.p I (.buildSl [_] I I E22 I (λ_=>I) I (enc:=D.int)) (.nil ⟨I,I⟩)) ?_ .nil))
      ·exact .keepT [1,2,3,4,9,11,53,54,55,56,57,59,62] (.c8 I<|.c4 I<|.c I .nil) (.to #[true,true,true,true,true,false,true,false,false,true,false,false,false] (by decide +kernel) sA8)
      ·exact .keepT [1,2,3,4,9,11,53,54,55,57,60,62] (.c8 I<|.c4 I .nil) (.to #[true,true,true,false,true,false,true,true,false,true,false,false,false] (by decide +kernel) sA9)
     refine .via 7 #[true,false,true,true,true,false,true,false,false,true,false,false,false] ⟨[(1,.d (eA t1)),(2,.d (eA t2)),(3,.d (.int t3)),(4,.d (.ref (Constraint.enc t0))),(9,.d (.int x1)),(11,.d (.int x28)),(53,.vec 0 (List.length b0_27)),(55,.d (eA t1)),(56,.vec 1 (List.length ([]:List Int))),(57,.d (eA t2)),(59,.d (.int x28)),(62,.d (.int t3))],[.vec 22 1 (List.map eA b0_27),.vec 3 1 (List.map D.int ([]:List Int))]⟩ ?_ λsA13=>?_
     ·refine .step 1 [5,7] (by decide +kernel) (.cons (i:=1) I (.p I (.ld Y74 I) (.nil ⟨I,I⟩)) ?_ (.cons (i:=5) I (.app I I I I I I I I E22 I (λ_=>I) q35 (.nil ⟨I,I⟩)) ?_ (.cons (i:=7) I (.p I (.buildSl [_] I I E22 I (λ_=>I) I (enc:=D.int)) (.nil ⟨I,I⟩)) ?_ .nil)))
      ·exact .keepT [1,2,3,4,9,11,53,54,55,56,57,59,62] (.c8 I<|.c4 I<|.c I .nil) (.to #[true,true,true,true,true,false,true,false,false,true,false,false,false] (by decide +kernel) sA8)
      ·exact .keepT [1,2,3,4,9,11,53,55,58,59,62] (.c8 I<|.c2 I<|.c I .nil) (.to #[true,false,true,true,true,true,true,false,false,true,false,false,false] (by decide +kernel) sA10)
      ·exact .keepT [1,2,3,4,9,11,53,55,56,57,60,62] (.c8 I<|.c4 I .nil) (.to #[true,false,true,true,true,false,true,true,false,true,false,false,false] (by decide +kernel) sA11)
     refine .via 7 #[true,false,true,false,true,false,true,true,false,true,false,false,false] ⟨[(1,.d (eA t1)),(2,.d (eA t2)),(3,.d (.int t3)),(4,.d (.ref (Constraint.enc t0))),(9,.d (.int x1)),(11,.d (.int x28)),(53,.vec 0 (List.length b0_27)),(55,.d (eA t1)),(57,.d (eA t2)),(60,.d (eA [x28])),(62,.d (.int t3))],[.vec 22 1 (List.map eA b0_27)]⟩ ?_ λsA14=>?_
     ·refine .step 1 [3] (by decide +kernel) (.cons (i:=1) I (.p I (.ld Y74 I) (.nil ⟨I,I⟩)) ?_ (.cons (i:=3) I (.buildVec [] I I I I I E22 I (λ_=>I) I (enc:=D.int) (.nil ⟨I,I⟩)) ?_ .nil))
      ·exact .keepT [1,2,3,4,9,11,53,54,55,57,60,62] (.c8 I<|.c4 I .nil) (.to #[true,true,true,false,true,false,true,true,false,true,false,false,false] (by decide +kernel) sA9)
      ·exact .keepT [1,2,3,4,9,11,53,55,56,57,60,62] (.c8 I<|.c4 I .nil) (.to #[true,false,true,true,true,false,true,true,false,true,false,false,false] (by decide +kernel) sA11)
     refine .step 1 [3,7] (by decide +kernel) (.cons (i:=1) I (.p I (.ld Y74 I) (.nil ⟨I,I⟩)) ?_ (.cons (i:=3) I (.buildVec [] I I I I I E22 I (λ_=>I) I (enc:=D.int) (.nil ⟨I,I⟩)) ?_ (.cons (i:=7) I (.p I (.buildSl [_] I I E22 I (λ_=>I) I (enc:=D.int)) (.nil ⟨I,I⟩)) ?_ .nil)))
     ·exact .keepT [1,2,3,4,9,11,53,54,55,57,59,62] (.c8 I<|.c4 I .nil) (.to #[true,true,true,false,true,false,true,false,false,true,false,false,false] (by decide +kernel) sA12)
     ·exact .keepT [1,2,3,4,9,11,53,55,56,57,59,62] (.c8 I<|.c4 I .nil) (.to #[true,false,true,true,true,false,true,false,false,true,false,false,false] (by decide +kernel) sA13)
     ·exact .keepT [1,2,3,4,9,11,53,55,57,60,62] (.c8 I<|.c2 I<|.c I .nil) (.to #[true,false,true,false,true,false,true,true,false,true,false,false,false] (by decide +kernel) sA14)
   ·refine .rA 3 I (ndE h I)
  ·refine .exit<|.sA 2 I<|.ret ?_
   cases h
   exact zaH I (.vec I (by simp))
theorem zhg  : ∀ (n:Nat) (t0:Constraint) (t1:List Int) (t2:List Int) (t3:Int) (r:List (List Int)) (h:zaC n t0 t1 t2 t3=some r),Pure pg 182 [Constraint.enc t0,eA t1,eA t2,.int t3] (eN r)
 | 0,t0,t1,t2,t3,r,h=>by cases h
 | n+1,t0,t1,t2,t3,r,h=>ref12_paths_body n (zaC n) (zhg n) t0 t1 t2 t3 r h
theorem ref12_Cycle_ok (n t0 t1 r) (h:za2 n t0 t1=some r):Pure pg 139 [Constraint.enc t0,eA t1] (eA r):=by
 refine Pure.ot Tryz.func139 I Tryz.ntmps139 I λA w=>.S 1 I<|.p I (.nilS 1 (α:=Int) D.int I)<|.nil<|.seq<|.seq<|.plain 10 I<|.p I (.fa I (G74_0 _))<|.A 3 I<|gK h λc2 h=>.jO 5 (!((zau n t0 (t1.length:Int)).getD default)) I (λb1=>?_) ?_
 ·refine .A 2 I<|.q I (.len I U22 I)<|.q I (.call I (kC I) I (zgw _ _ _ _ (someD (impF c2 b1))))<|.A 1 I<|.nil I
 refine .nil<|.nil<|.condS I h (λh=>?_) λh=>?_
 ·refine .sr<|.p I (.nilS 1 (α:=Int) D.int I)<|.nil<|.ret ?_
  cases h
  exact zaH I (.d _)
 ·refine .skip<|.seq<|.sA 1 I<|.block<|.L [1,2] h (λv=>[(5,.d (.int v))]) (λv=>[]) I λ_ x25 h=>.seq<|.S 1 I<|.p I (.fa I (G74_4 _))<|.A 2 I<|.nil<|.K [1,2,5,21] I<|.condS I h (λh=>?_) λh=>?_
  ·refine .skip<|.seq<|.block<|.sA 1 I<|.block<|.L [1,2,5] h (λv=>[(6,.d (.int v))]) (λv=>[]) I λ_ x33 h=>.seq<|.S 1 I<|.p I (.fa I (G74_4 _))<|.A 2 I<|.nil<|.K [1,2,5,6,27] I<|.condS I h (λh=>?_) λh=>?_
   ·refine .skip<|.seq<|.block<|.S 3 I<|.p I (.buildSl [_] I I E22 I (λ_=>I) I (enc:=D.int))<|.A 1 I<|.Z h I (zhg _ _ _ _ _) λx35 h=>.A 1 I<|.nil<|.S 1 I<|.p I (.len I U142 I)<|.A 1 I<|.nil<|.condS I h (λh=>?_) λh=>?_
    ·refine .S 1 I<|.X h I λx36 h=>.A 2 I<|.nil<|.ret ?_
     cases h
     exact zaH I (.d _)
    ·refine .skip<|.rA 3 I (ndE h I)
   ·refine .exit<|.rA 3 I (ndE h I)
  ·refine .exit<|.sr<|.p I (.nilS 1 (α:=Int) D.int I)<|.nil<|.ret ?_
   cases h
   exact zaH I (.d _)
theorem ref12_small_ok (n t0 t1 r) (h:zca n t0 t1=some r):Pure pg 140 [Row.enc t0,eA t1] (.bool r):=by
 refine Pure.ot Tryz.func140 I Tryz.ntmps140 I λA w=>.sA 2 I<|.sA 2 I<|.seq<|.sA 1 I<|.block<|.L [1,2] h (λv=>[(5,.d (.int v.1)),(6,.d (.int v.2.1)),(7,.d (.int v.2.2))]) (λv=>[]) I λ_ ⟨x17,x18,x19⟩ h=>.seq<|.S 1 I<|.p I (.fa I (G69_0 _))<|.A 1 I<|.p I (.len I U67 I)<|.A 1 I<|.nil<|.K [1,2,5,6,7,15] I<|.condS I h (λh=>?_) λh=>?_
 ·refine .skip<|.seq<|.block<|.sr<|.p I (.fa I (G69_0 _))<|.A 2 I<|.X h I λx21 h=>.A 1 I<|.allocStore I I I I I I I I (by simp) I I Z77<|.nil<|.seq<|.draw 12 Hm (by kernel_rfl) (by kernel_rfl)<|.A 1 I<|.p I (.fa I (G77_1 _))<|.A 2 I<|.p I (.fa I (G77_0 _))<|.A 1 I<|.X h I λx22 h=>.A 1 I<|bK h λx23 q23 h=>.p I (.quo6 I I I q23)<|.A 3 I<|.nil<|.nil<|.K [1,2,5,6,7,8] I<|.draw 12 Hm (by kernel_rfl) (by kernel_rfl)<|.A 1 I<|.p I (.fa I (G77_1 _))<|.A 2 I<|.p I (.fa I (G77_0 _))<|.A 1 I<|.X h I λx24 h=>.A 1 I<|bK h λx25 q25 h=>.p I (.rem6 I I I q25)<|.A 3 I<|.nil<|.nil<|.rA 3 I (ndE h I)
 ·refine .exit<|.S 2 I<|bK h λx26 q26 h=>.p I (.shr I I I q26)<|.A 2 I<|.p I (.band I I I)<|.A 2 I<|.nil<|.seq<|.draw 8 Hm (by kernel_rfl) (by kernel_rfl)<|.p I (.fa I (G69_1 _))<|.A 1 I<|bK h λx27 q27 h=>.p I (.shr I I I q27)<|.p I (.fa I (G69_1 _))<|.A 1 I<|.p I (.band I I I)<|.A 2 I<|.nil<|.nil<|.K [5,6,9,10] I<|.seq<|.plain 13 I<|.A 4 I<|.jO 8 (((add64 x17 x26)==x27)&&(decide (band .i64 x18 4294967295≤band .i64 t0.bound 4294967295))) I (λb28=>?_) ?_
  ·refine .A 4 I<|.jAnd 3 (b2:=decide (band .i64 x18 4294967295≤band .i64 t0.bound 4294967295)) I I I I (.inr ⟨_,_,_,I,I,I⟩) (λ_ _ _ h1 h2=>by cases h1;cases h2;decide) I I (λb29=>?_) ?_
   ·refine .A 3 I<|.nil I
   exact .nil I
  refine .nil<|.A 1 I<|.nil<|.ret (rO h I)
theorem ref12_Holds_ok (n t0 t1 r) (h:zhC n t0 t1=some r):Pure pg 98 [Constraint.enc t0,eA t1] (.bool r):=by
 refine Pure.ot Tryz.func98 I Tryz.ntmps98 I λA w=>.sA 2 I<|.seq<|.S 2 I<|.p I (.len I U22 I)<|.Z h I (zgw _ _ _) λx1 h=>.A 1 I<|.nil<|.condS I h (λh=>?_) λh=>?_
 ·refine .sA 1 I<|.ret (rO h I)
 ·refine .skip<|.seq<|.sr<|.p I (.fa I (G74_0 _))<|.A 2 I<|.nil<|.condS I h (λh=>?_) λh=>?_
  ·refine .S 2 I<|.Z h I (ref12_Cycle_ok _ _ _) λx2 h=>.p I (.len I U22 I)<|.A 2 I<|.nil<|.K [4] I<|.ret (rO h I)
  ·refine .skip<|.sr<|.p I (.fa I (G74_2 _))<|.A 2 I<|.Z h I (ref12_small_ok _ _ _) λx3 h=>.A 1 I<|.nil<|.ret (rO h I)
theorem zcP (n t0 t1 r) (h:zaR n t0 t1=some r):Pure pg 51 [Constraint.enc t0,eA t1] (.bool r):=by
 refine Pure.ot Tryz.func51 I Tryz.ntmps51 I λA w=>.sA 2 I<|.S 2 I<|.Z h I (ref12_Holds_ok _ _ _) λx1 h=>.A 1 I<|.nil<|.ret (rO h I)
theorem ref22_Row_ok (n t0 t1 r) (h:zgz n t0 t1=some r):Pure pg 31 [Row.enc t0,eA t1] (.bool r):=by
 refine Pure.ot Tryz.func31 I Tryz.ntmps31 I λA w=>.sA 2 I<|.S 1 I<|.p I (.castD (Constraint.enc (⟨0,0,t0,0,0⟩:Constraint)) I (.build I Pl74 (.agg Zc74 (ds':=[_,_,_,_,_,_]) (.e (.e (.e (.e (.e .e1)))))) I I))<|.A 1 I<|.Z h I (zcP _ _ _) λx1 h=>.A 1 I<|.nil<|.ret (rO h I)
theorem zfk (n t0 t1 t2 r) (h:zN n t0 t1 t2=some r):Pure pg 137 [Model.enc t0,Effect.enc t1,eA t2] (.bool r):=by
 refine Pure.ot Tryz.func137 I Tryz.ntmps137 I λA w=>.sA 3 I<|.S 2 I<|.Z h I (zcc _ _ _) λx1 h=>.A 1 I<|.nil<|.seq<|.sA 1 I<|.block<|.L [2,3,4,7] h (λv=>[(8,.d (.int v))]) (λv=>[]) I λ_ x14 h=>.seq<|.S 3 I<|.p I (.len I U25 I)<|.A 1 I<|.nil<|.K [2,3,4,7,8,17] I<|.condS I h (λh=>?_) λh=>?_
 ·refine .skip<|.seq<|.block<|.seq<|.plain 18 I<|.A 3 I<|.X h I λx16 h=>.A 2 I<|.Z h I (zcP _ _ _) λx17 h=>.A 2 I<|gK h λc19 h=>gK h λc20 h=>.jO 8 (!((zaR n ((idx t0.constraints x14).getD default) x1).getD default)) I (λb18=>?_) ?_
  ·refine .A 3 I<|.q I (.ix I U25 S74 (someD (impF c19 b18)))<|.A 2 I<|.q I (.call I (kC I) I (zcP _ _ _ _ (someD (impF c20 b18))))<|.A 1 I<|.nil I
  refine .nil<|.nil<|.K [2,3,4,7,8,37] I<|.condS I h (λh=>?_) λh=>?_
  ·refine .sA 1 I<|.ret (rO h I)
  ·refine .skip<|.rA 3 I (ndE h I)
 ·refine .exit<|.seq<|.sA 1 I<|.block<|.L [2,4] h (λv=>[(9,.d (.int v))]) (λv=>[]) I λ_ x27 h=>.seq<|.S 1 I<|.p I (.fa I (G60_1 _))<|.A 1 I<|.p I (.len I U57 I)<|.A 1 I<|.nil<|.K [2,4,9,42] I<|.condS I h (λh=>?_) λh=>?_
  ·refine .skip<|.seq<|.block<|.sr<|.p I (.fa I (G60_1 _))<|.A 2 I<|.X h I λx29 h=>.A 2 I<|.Z h I (ref22_Row_ok _ _ _) λx30 h=>.A 1 I<|.nil<|.condS I h (λh=>?_) λh=>?_
   ·refine .sA 1 I<|.ret (rO h I)
   ·refine .skip<|.rA 3 I (ndE h I)
  ·refine .exit<|.sA 1 I<|.ret (rO h I)
theorem ref22_Shows_ok (n t0 t1 t2 t3 r) (h:zax n t0 t1 t2 t3=some r):Pure pg 97 [Model.enc t0,Question.enc t1,eA t2,eA t3] (.bool r):=by
 refine Pure.ot Tryz.func97 I Tryz.ntmps97 I λA w=>.sA 3 I<|.seq<|.S 1 I<|.p I (.len I U22 I)<|.A 1 I<|.Z h I (ze5 _ _) λx1 h=>.A 1 I<|.nil<|.condS I h (λh=>?_) λh=>?_
 ·refine .sA 1 I<|.ret (rO h I)
 ·refine .skip<|.seq<|.sA 1 I<|.block<|.L [2,3,4,5] h (λv=>[(9,.d (.int v))]) (λv=>[]) I λ_ x10 h=>.seq<|.S 2 I<|.p I (.len I U22 I)<|.A 1 I<|.nil<|.K [2,3,4,5,9,22] I<|.condS I h (λh=>?_) λh=>?_
  ·refine .skip<|.seq<|.block<|.seq<|.draw 15 Hm (by kernel_rfl) (by kernel_rfl)<|.A 2 I<|.X h I λx12 h=>.A 3 I<|gK h λc14 h=>.jO 8 (decide ((t0.constraints.length:Int)≤((idx t2 x10).getD default))) I (λb13=>?_) ?_
   ·refine .A 2 I<|.q I (.ix I U22 S3 (someD (impF c14 b13)))<|.A 3 I<|.q I (.len I U25 I)<|.A 1 I<|.nil I
   refine .nil<|.nil<|.condS I h (λh=>?_) λh=>?_
   ·refine .sA 1 I<|.K [8] I<|.ret (rO h I)
   ·refine .skip<|.rA 3 I (ndE h I)
  ·refine .exit<|.S 2 I<|.p I (.fa I (G34_0 _))<|.A 1 I<|.X h I λx15 h=>.p I (.fa I (G62_2 _))<|.A 1 I<|.allocStore I I I I I I I I (by simp) I I Z60<|.nil<|.S 2 I<|.p I (.fa I (G34_1 _))<|.A 1 I<|.X h I λx16 h=>.p I (.fa I (G62_2 _))<|.A 1 I<|.allocStore I I I I I I I I (by simp) I I Z60<|.nil<|.K [2,3,4,5,10,11] I<|.seq<|.seq<|.plain 12 I<|.A 3 I<|.Z h I (zfk _ _ _ _) λx17 h=>.A 2 I<|gK h λc19 h=>.jO 5 (!((zN n t0 x16.effect t3).getD default)) I (λb18=>?_) ?_
   ·refine .A 3 I<|.q I (.call I (kC I) I (zfk _ _ _ _ _ (someD (impF c19 b18))))<|.A 1 I<|.nil I
   refine .nil<|.nil<|.condS I h (λh=>?_) λh=>?_
   ·refine .sA 1 I<|.ret (rO h I)
   ·refine .skip<|.seq<|.draw 6 Hm (by kernel_rfl) (by kernel_rfl)<|.A 2 I<|.Z h I (zcc _ _ _) λx20 h=>.A 1 I<|.Z h I (zcc _ _ _) λx21 h=>.A 1 I<|.nil<|.nil<|.K [2,3,4,5,10,11,12] I<|.seq<|.sA 1 I<|.block<|.L [2,3,4,5,10,11,12] h (λv=>[(13,.d (.int v))]) (λv=>[]) I λ_ x36 h=>.seq<|.S 2 I<|.p I (.len I U22 I)<|.A 1 I<|.nil<|.K [2,3,4,5,10,11,12,13,74] I<|.condS I h (λh=>?_) λh=>?_
    ·refine .skip<|.seq<|.block<|.seq<|.draw 26 Hm (by kernel_rfl) (by kernel_rfl)<|.p I (.fa I (G34_2 _))<|.p I (.fa I (G32_0 _))<|.A 2 I<|gK h λc39 h=>.jO 8 (t1.target.index != ((idx t2 x36).getD default)) I (λb38=>?_) ?_
     ·refine .q I (.fa I (G34_2 _))<|.q I (.fa I (G32_1 _))<|.A 3 I<|.q I (.ix I U22 S3 (someD (impF c39 b38)))<|.A 2 I<|.nil I
     refine .A 1 I<|gK h λc41 h=>gK h λc42 h=>gK h λc43 h=>.jA 11 (!((zaR n ((idx t0.constraints ((idx t2 x36).getD default)).getD default) x21).getD default)) I (λb40=>?_) ?_
     ·refine .A 4 I<|.q I (.ix I U22 S3 (someD (impT c41 b40)))<|.A 1 I<|.q I (.ix I U25 S74 (someD (impT c42 b40)))<|.A 2 I<|.q I (.call I (kC I) I (zcP _ _ _ _ (someD (impT c43 b40))))<|.A 1 I<|.nil I
     refine .nil<|.nil<|.K [2,3,4,5,10,11,12,13,102] I<|.condS I h (λh=>?_) λh=>?_
     ·refine .sA 1 I<|.ret (rO h I)
     ·refine .skip<|.rA 3 I (ndE h I)
    ·refine .exit<|.seq<|.sr<|.p I (.fa I (G34_2 _))<|.p I (.fa I (G32_0 _))<|.A 1 I<|.nil<|.condS I h (λh=>?_) λh=>?_
     ·refine .seq<|.draw 13 Hm (by kernel_rfl) (by kernel_rfl)<|.p I (.fa I (G60_1 _))<|.A 1 I<|.p I (.fa I (G34_2 _))<|.p I (.fa I (G32_1 _))<|.A 1 I<|.X h I λx44 h=>.A 3 I<|.Z h I (zcc _ _ _) λx45 h=>.Z h I (ref22_Row_ok _ _ _) λx46 h=>.A 2 I<|.nil<|.nil<|.K [8] I<|.ret (rO h I)
     ·refine .skip<|.S 2 I<|.p I (.fa I (G34_2 _))<|.p I (.fa I (G32_1 _))<|.A 1 I<|.X h I λx47 h=>.A 2 I<|.Z h I (zcP _ _ _) λx48 h=>.A 2 I<|.nil<|.ret (rO h I)
theorem ziN (n t0 t1 t2 t3 r) (h:zdM n t0 t1 t2 t3=some r):Pure pg 50 [Model.enc t0,Question.enc t1,eA t2,eA t3] (.bool r):=by
 refine Pure.ot Tryz.func50 I Tryz.ntmps50 I λA w=>.sA 3 I<|.seq<|.S 2 I<|.Z h I (zhl _ _ _) λx1 h=>.A 1 I<|.nil<|.condS I h (λh=>?_) λh=>?_
 ·refine .sA 1 I<|.ret (rO h I)
 ·refine .skip<|.S 4 I<|.Z h I (ref22_Shows_ok _ _ _ _ _) λx2 h=>.A 1 I<|.nil<|.ret (rO h I)
theorem ref24_Valid_ok (n t0 t1 t2 r) (h:zbA n t0 t1 t2=some r):Pure pg 13 [Model.enc t0,Scenario.enc t1,eA t2] (.bool r):=by
 refine Pure.ot Tryz.func13 I Tryz.ntmps13 I λA w=>.sA 3 I<|.seq<|.sA 1 I<|.block<|.L [2,3,4] h (λv=>[(7,.d (.int v))]) (λv=>[]) I λ_ x15 h=>.seq<|.S 2 I<|.p I (.len I U22 I)<|.A 1 I<|.nil<|.K [2,3,4,7,11] I<|.condS I h (λh=>?_) λh=>?_
 ·refine .skip<|.seq<|.block<|.seq<|.draw 27 Hm (by kernel_rfl) (by kernel_rfl)<|.A 2 I<|.X h I λx17 h=>.A 3 I<|gK h λc19 h=>.jO 8 (decide ((t0.constraints.length:Int)≤((idx t2 x15).getD default))) I (λb18=>?_) ?_
  ·refine .A 2 I<|.q I (.ix I U22 S3 (someD (impF c19 b18)))<|.A 3 I<|.q I (.len I U25 I)<|.A 1 I<|.nil I
  refine .A 1 I<|gK h λc21 h=>gK h λc22 h=>.jO 10 ((((idx t0.constraints ((idx t2 x15).getD default)).getD default).kind) != 0) I (λb20=>?_) ?_
  ·refine .A 4 I<|.q I (.ix I U22 S3 (someD (impF c21 b20)))<|.A 1 I<|.q I (.ix I U25 S74 (someD (impF c22 b20)))<|.q I (.fa I (G74_0 _))<|.A 2 I<|.nil I
  refine .nil<|.nil<|.K [2,3,4,7,40] I<|.condS I h (λh=>?_) λh=>?_
  ·refine .sA 1 I<|.ret (rO h I)
  ·refine .skip<|.rA 3 I (ndE h I)
 ·refine .exit<|.S 1 I<|.p I (.fa I (G36_0 _))<|.A 2 I<|.p I (.fa I (G36_1 _))<|.A 1 I<|.Z h I (ziN _ _ _ _ _) λx23 h=>.A 1 I<|.nil<|.ret (rO h I)
theorem ref24_Merged_ok (n t0 t1 r) (h:zdU n t0 t1=some r):Pure pg 16 [Model.enc t0,Scenario.enc t1] (eA r):=by
 refine Pure.ot Tryz.func16 I Tryz.ntmps16 I λA w=>.S 2 I<|.p I (.nilS 1 (α:=Int) D.int I)<|.nil<|.seq<|.seq<|.draw 13 Hm (by kernel_rfl) (by kernel_rfl)<|.A 1 I<|.p I (.fa I (G36_0 _))<|.A 1 I<|.Z h I (zhl _ _ _) λx1 h=>.A 2 I<|gK h λc3 h=>.jO 6 ((t1.state.length:Int) != ((zaJ n t0).getD default)) I (λb2=>?_) ?_
 ·refine .q I (.fa I (G36_1 _))<|.A 1 I<|.q I (.len I U22 I)<|.A 1 I<|.q I (.call I (kC I) I (ze5 _ _ _ (someD (impF c3 b2))))<|.A 1 I<|.nil I
 refine .nil<|.nil<|.K [2,3,17] I<|.condS I h (λh=>?_) λh=>?_
 ·refine .sr<|.p I (.nilS 1 (α:=Int) D.int I)<|.nil<|.ret ?_
  cases h
  exact zaH I (.d _)
 ·refine .skip<|.seq<|.draw 21 Hm (by kernel_rfl) (by kernel_rfl)<|.p I (.fa I (G36_1 _))<|.A 3 I<|.p I (.fa I (G36_0 _))<|.p I (.fa I (G34_0 _))<|.A 1 I<|.X h I λx4 h=>.p I (.fa I (G62_2 _))<|.A 1 I<|.Z h I (zcc _ _ _) λx5 h=>.A 2 I<|.p I (.fa I (G36_0 _))<|.p I (.fa I (G34_1 _))<|.A 1 I<|.X h I λx6 h=>.p I (.fa I (G62_2 _))<|.A 1 I<|.Z h I (zcc _ _ _) λx7 h=>.A 1 I<|.nil<|.nil<|.K [4] I<|.ret ?_
  cases h
  exact zaH I (.d _)
theorem zh8 (n:Nat) (self:Int→Option (List UInt8)) (hself:∀ (t0:Int) (r:List UInt8),self t0=some r→Pure pg 70 [.int t0] (.str r)) (t0:Int) (r:List UInt8) (h:zK.body n self t0=some r):Pure pg 70 [.int t0] (.str r):=by
 refine Pure.ot Tryz.func70 I Tryz.ntmps70 I λA w=>.sA 1 I<|.seq<|.sA 2 I<|.condS I h (λh=>?_) λh=>?_
 ·refine .S 1 I<|.p I (.neg6 I I)<|.Z h I (hself _) λx1 h=>bK h λx2 q2 h=>.p I (.cat I I I q2)<|.A 1 I<|.nil<|.ret (rO h I)
 ·refine .skip<|.S 1 I<|bK h λx3 q3 h=>.p I (.rem6 I I I q3)<|.A 1 I<|.p I (.conv I U3 U5 I)<|.p I (.buildSl [_] I I E140 I (λ_=>I) I (enc:=(λx=>D.val (.int .u8 x))))<|.p I (.bytesStr I U140 U9 U5 I)<|.A 1 I<|.nil<|.J [] h (λv=>[(3,.d (.str v))]) (λv=>[]) I (λk_5 h=>?_) (λx4 h=>?_)
  ·refine .sA 2 I<|.condS I h (λh=>?_) λh=>?_
   ·refine .region<|.A 1 I<|bK h λx6 q6 h=>.p I (.quo6 I I I q6)<|.Z h I (hself _) λx7 h=>.A 1 I<|bK h λx8 q8 h=>.p I (.cat I I I q8)<|.A 1 I<|.nil (ndE h I)
   ·refine .skip (ndE h I)
  ·refine .sA 2 I<|.K [2] I<|.ret (rO h I)
theorem za8  : ∀ (n:Nat) (t0:Int) (r:List UInt8) (h:zK n t0=some r),Pure pg 70 [.int t0] (.str r)
 | 0,t0,r,h=>by cases h
 | n+1,t0,r,h=>zh8 n (zK n) (za8 n) t0 r h
end
section
variable [Env]
theorem zia (n t0 r) (h:zbI n t0=some r):Pure pg 108 [eA t0] (.str r):=by
 refine Pure.ot Tryz.func108 I Tryz.ntmps108 I λA w=>.sA 1 I<|.sA 1 I<|.seq<|.sA 1 I<|.block<|.L [0] h (λv=>[(3,.d (.str v.1)),(4,.d (.int v.2))]) (λv=>[]) I λ_ ⟨x17,x18⟩ h=>.seq<|.S 2 I<|.p I (.len I U22 I)<|.A 1 I<|.nil<|.K [0,3,4,8] I<|.condS I h (λh=>?_) λh=>?_
 ·refine .skip<|.seq<|.block<|.J [0,4] h (λv=>[(3,.d (.str v))]) (λv=>[]) I (λk_21 h=>?_) (λx20 h=>?_)
  ·refine .sA 2 I<|.condS I h (λh=>?_) λh=>?_
   ·refine .region<|.A 1 I<|bK h λx22 q22 h=>.p I (.cat I I I q22)<|.A 1 I<|.nil (ndE h I)
   ·refine .skip (ndE h I)
  ·refine .region<|.A 3 I<|.X h I λx23 h=>.A 1 I<|.Z h I (za8 _ _) λx24 h=>bK h λx25 q25 h=>.p I (.cat I I I q25)<|.A 1 I<|.nil<|.K [0,3,4] I<|.rA 3 I (ndE h I)
 ·refine .exit<|.S 1 I<|bK h λx26 q26 h=>.p I (.cat I I I q26)<|.A 1 I<|.nil<|.ret (rO h I)
theorem zh9 (n t0 t1 r) (h:zt n t0 t1=some r):Pure pg 69 [Model.enc t0,.int t1] (.str r):=by
 refine Pure.ot Tryz.func69 I Tryz.ntmps69 I λA w=>.sA 2 I<|.seq<|.S 1 I<|.Z h I (zdK _ _) λx1 h=>.A 1 I<|.nil<|.condS I h (λh=>?_) λh=>?_
 ·refine .sA 1 I<|.ret (rO h I)
 ·refine .skip<|.seq<|.sA 1 I<|.block<|.L [1,2] h (λv=>[(5,.d (.int v))]) (λv=>[]) I λ_ x140 h=>.seq<|.S 3 I<|.p I (.len I U23 I)<|.A 1 I<|.nil<|.K [1,2,5,19] I<|.condS I h (λh=>?_) λh=>?_
  ·refine .skip<|.seq<|.block<|.S 3 I<|.X h I λx142 h=>.A 1 I<|.allocStore I I I I I I I I (by simp) I I Z119<|.nil<|.S 1 I<|.p I (.fa I (zfN _))<|.A 3 I<|.nil<|.seq<|.seq<|.plain 17 I<|.p I (.fa I (zcm _))<|.A 1 I<|.Z h I (zgx _ _) λx143 h=>.A 2 I<|.jO 4 (decide (t1<x142.first)) I (λb144=>?_) ?_
   ·refine .A 1 I<|.q I (.fa I (zfN _))<|.A 2 I<|.nil I
   refine .A 1 I<|gK h λc146 h=>.jO 5 (decide (((zbp n t0 x142).getD default)≤sub64 t1 x142.first)) I (λb145=>?_) ?_
   ·refine .A 3 I<|.q I (.call I (kC I) I (zhj _ _ _ _ (someD (impF c146 b145))))<|.A 1 I<|.nil I
   refine .nil<|.nil<|.K [1,2,5,6,7,47] I<|.condS I h (λh=>?_) λh=>?_
   ·refine .exit<|.rA 3 I (ndE h I)
   ·refine .skip<|.sr<|.buildVec [] I I I I I E22 I (λ_=>I) I (enc:=D.int)<|.A 1 I<|.nil<|.seq<|.sA 1 I<|.block<|.L [2,6,7] h (λv=>[(8,.vec 0 (List.length v.1)),(9,.d (.int v.2))]) (λv=>[(0,.vec 3 1 (List.map D.int v.1))]) I λ_ ⟨b0_187,x188⟩ h=>.seq<|.S 1 I<|.p I (.fa I (zbl _))<|.A 1 I<|.p I (.len I U22 I)<|.A 1 I<|.nil<|.K [2,6,7,8,9,53] I<|.condS I h (λh=>?_) λh=>?_
    ·refine .skip<|.seq<|.block<|.sA 1 I<|.seq<|.sA 3 I<|.block<|.L [2,6,7,8,9] h (λv=>[(10,.d (.int v.1)),(11,.d (.int v.2))]) (λv=>[]) I λ_ ⟨x198,x199⟩ h=>.seq<|.S 1 I<|.p I (.fa I (zbl _))<|.A 1 I<|.p I (.len I U22 I)<|.A 1 I<|.nil<|.K [2,6,7,8,9,10,11,62] I<|.condS I h (λh=>?_) λh=>?_
     ·refine .skip<|.seq<|.block<|.draw 12 Hm (by kernel_rfl) (by kernel_rfl)<|.A 3 I<|.p I (.fa I (zbl _))<|.A 2 I<|.X h I λx201 h=>.A 1 I<|.X h I λx202 h=>.A 3 I<|.nil<|.nil<|.rA 3 I (ndE h I)
     ·refine .exit<|.draw 15 Hm (by kernel_rfl) (by kernel_rfl)<|.A 3 I<|bK h λx203 q203 h=>.p I (.quo6 I I I q203)<|.A 2 I<|.p I (.fa I (zbl _))<|.A 2 I<|.X h I λx204 h=>.A 1 I<|.X h I λx205 h=>.A 1 I<|bK h λx206 q206 h=>.p I (.rem6 I I I q206)<|.p I (.buildSl [_] I I E22 I (λ_=>I) I (enc:=D.int))<|.nil<|bK h λx207 q207 h=>.app I I I I I I I I E22 I (λ_=>I) q207<|.A 1 I<|.nil<|.K [2,6,7,8,9] I<|.rA 3 I (ndE h I)
    ·refine .exit<|.seq<|.draw 6 Hm (by kernel_rfl) (by kernel_rfl)<|.p I (.fa I (zhI _))<|.A 2 I<|bK h λx208 q208 h=>.p I (.callB I (kC I) (.cons I (.vec I (by simp)) .nil) I (zia _ _ _ q208))<|bK h λx209 q209 h=>.p I (.cat I I I q209)<|.A 1 I<|.nil<|.nil<|.ret (rO h I)
  ·refine .exit<|.sA 1 I<|.ret (rO h I)
theorem zgA (n t0 t1 r) (h:zcx n t0 t1=some r):Pure pg 71 [Model.enc t0,.int t1] (.str r):=by
 refine Pure.ot Tryz.func71 I Tryz.ntmps71 I λA w=>.sA 2 I<|.seq<|.seq<|.plain 14 I<|.A 1 I<|.Z h I (zdK _ _) λx1 h=>.A 2 I<|.jO 2 (decide (t1<0)) I (λb2=>?_) ?_
 ·refine .A 2 I<|.nil I
 refine .A 1 I<|.jO 5 (decide ((t0.actions.length:Int)≤t1)) I (λb3=>?_) ?_
 ·refine .A 3 I<|.q I (.len I U27 I)<|.A 1 I<|.nil I
 refine .nil<|.nil<|.K [1,2,19] I<|.condS I h (λh=>?_) λh=>?_
 ·refine .sA 1 I<|.ret (rO h I)
 ·refine .skip<|.S 3 I<|.X h I λx4 h=>.A 1 I<|.allocStore I I I I I I I I (by simp) I I Z62<|.nil<|.seq<|.draw 12 Hm (by kernel_rfl) (by kernel_rfl)<|.A 2 I<|.p I (.fa I (G62_0 _))<|.A 1 I<|.X h I λx5 h=>.p I (.fa I (G123_0 _))<|.A 1 I<|.p I (.fa I (G62_1 _))<|.A 1 I<|.Z h I (zia _ _) λx6 h=>bK h λx7 q7 h=>.p I (.cat I I I q7)<|.A 1 I<|.nil<|.nil<|.K [4] I<|.ret (rO h I)
theorem zgy (n t0 t1 t2 r) (h:zcw n t0 t1 t2=some r):Pure pg 149 [.int t0,.int t1,.int t2] (.bool r):=by
 refine Pure.ot Tryz.func149 I Tryz.ntmps149 I λA w=>.sA 1 I<|.seq<|.plain 8 I<|.A 4 I<|.jA 3 (decide (t0≤t2)) I (λb1=>?_) ?_
 ·refine .A 3 I<|.nil I
 refine .nil<|.A 1 I<|.nil<|.ret (rO h I)
theorem ref17_Row_ok (n t0 t1 r) (h:zcv n t0 t1=some r):Pure pg 109 [Row.enc t0,.int t1] (.bool r):=by
 refine Pure.ot Tryz.func109 I Tryz.ntmps109 I λA w=>.sA 2 I<|.sA 1 I<|.seq<|.sA 1 I<|.block<|.L [1,2] h (λv=>[(5,.d (.int v.1)),(6,.d (.int v.2))]) (λv=>[]) I λ_ ⟨x15,x16⟩ h=>.seq<|.S 1 I<|.p I (.fa I (G69_0 _))<|.A 1 I<|.p I (.len I U67 I)<|.A 1 I<|.nil<|.K [1,2,5,6,12] I<|.condS I h (λh=>?_) λh=>?_
 ·refine .skip<|.seq<|.block<|.sr<|.p I (.fa I (G69_0 _))<|.A 2 I<|.X h I λx18 h=>.A 1 I<|.allocStore I I I I I I I I (by simp) I I Z77<|.nil<|.seq<|.seq<|.plain 21 I<|.p I (.fa I (G77_0 _))<|.A 4 I<|.jO 4 (decide (t1≤x18.cell)) I (λb19=>?_) ?_
  ·refine .q I (.fa I (G77_0 _))<|.A 3 I<|.nil I
  refine .A 1 I<|.jO 3 (x18.factor==0) I (λb20=>?_) ?_
  ·refine .q I (.fa I (G77_1 _))<|.A 2 I<|.nil I
  refine .A 1 I<|gK h λc22 h=>.jO 4 (!((zcw n x18.factor (-1000) 1000).getD default)) I (λb21=>?_) ?_
  ·refine .q I (.fa I (G77_1 _))<|.A 1 I<|.q I (.call I (kC I) I (zgy _ _ _ _ _ (someD (impF c22 b21))))<|.A 1 I<|.nil I
  refine .nil<|.nil<|.K [1,2,6,7,40] I<|.condS I h (λh=>?_) λh=>?_
  ·refine .sA 1 I<|.ret (rO h I)
  ·refine .skip<|.region<|.p I (.fa I (G77_0 _))<|.A 2 I<|.nil<|.rA 3 I (ndE h I)
 ·refine .exit<|.sr<|.p I (.fa I (G69_1 _))<|.A 1 I<|.Z h I (zgy _ _ _ _) λx23 h=>.A 1 I<|.nil<|.ret (rO h I)
theorem ref24_Row_ok (n t0 t1 r) (h:zb0 n t0 t1=some r):Pure pg 72 [Model.enc t0,Row.enc t1] (.str r):=by
 refine Pure.ot Tryz.func72 I Tryz.ntmps72 I λA w=>.sA 3 I<|.seq<|.seq<|.draw 10 Hm (by kernel_rfl) (by kernel_rfl)<|.A 1 I<|.Z h I (zdK _ _) λx1 h=>.A 2 I<|gK h λc3 h=>gK h λc4 h=>.jO 5 (!((zcv n t1 ((zaJ n t0).getD default)).getD default)) I (λb2=>?_) ?_
 ·refine .A 2 I<|.q I (.call I (kC I) I (ze5 _ _ _ (someD (impF c3 b2))))<|.q I (.call I (kC I) I (ref17_Row_ok _ _ _ _ (someD (impF c4 b2))))<|.A 1 I<|.nil I
 refine .nil<|.nil<|.condS I h (λh=>?_) λh=>?_
 ·refine .sA 1 I<|.ret (rO h I)
 ·refine .skip<|.sA 1 I<|.seq<|.sA 1 I<|.block<|.L [2,3] h (λv=>[(5,.d (.str v.1)),(6,.d (.int v.2))]) (λv=>[]) I λ_ ⟨x39,x40⟩ h=>.seq<|.S 1 I<|.p I (.fa I (G69_0 _))<|.A 1 I<|.p I (.len I U67 I)<|.A 1 I<|.nil<|.K [2,3,5,6,22] I<|.condS I h (λh=>?_) λh=>?_
  ·refine .skip<|.seq<|.block<|.sr<|.p I (.fa I (G69_0 _))<|.A 2 I<|.X h I λx42 h=>.A 1 I<|.allocStore I I I I I I I I (by simp) I I Z77<|.nil<|.J [2,3,6,7] h (λv=>[(5,.d (.str v))]) (λv=>[]) I (λk_44 h=>?_) (λx43 h=>?_)
   ·refine .block<|.seq<|.plain 7 I<|.A 3 I<|.jA 3 (decide (x42.factor<0)) I (λb45=>?_) ?_
    ·refine .q I (.fa I (G77_1 _))<|.A 2 I<|.nil I
    refine .nil<|.A 1 I<|.nil<|.condS I h (λh=>?_) λh=>?_
    ·refine .region<|.A 1 I<|bK h λx46 q46 h=>.p I (.cat I I I q46)<|.A 1 I<|.nil (ndE h I)
    ·refine .sA 3 I<|.K [2,3,5,6,7,40] I<|.condS I h (λh=>?_) λh=>?_
     ·refine .region<|.A 1 I<|bK h λx47 q47 h=>.p I (.cat I I I q47)<|.A 1 I<|.nil (ndE h I)
     ·refine .sr<|.p I (.fa I (G77_1 _))<|.A 3 I<|.nil<|.condS I h (λh=>?_) λh=>?_
      ·refine .region<|.A 1 I<|bK h λx48 q48 h=>.p I (.cat I I I q48)<|.A 1 I<|.nil (ndE h I)
      ·refine .skip (ndE h I)
   ·refine .J [2,3,6,7] h (λv=>[(5,.d (.str v))]) (λv=>[]) I (λk_50 h=>?_) (λx49 h=>?_)
    ·refine .seq<|.plain 8 I<|.p I (.fa I (G77_1 _))<|.A 3 I<|.jO 3 (decide (x42.factor<(-1))) I (λb51=>?_) ?_
     ·refine .q I (.fa I (G77_1 _))<|.A 2 I<|.nil I
     refine .nil<|.nil<|.K [2,3,5,6,7,58] I<|.condS I h (λh=>?_) λh=>?_
     ·refine .region<|.A 1 I<|.p I (.fa I (G77_1 _))<|.A 1 I<|.p I (.fa I (G77_1 _))<|.A 1 I<|.p I (.neg6 I I)<|.p I (.max2 I I I)<|.Z h I (za8 _ _) λx52 h=>bK h λx53 q53 h=>.p I (.cat I I I q53)<|bK h λx54 q54 h=>.p I (.cat I I I q54)<|.A 1 I<|.nil (ndE h I)
     ·refine .skip (ndE h I)
    ·refine .region<|.A 2 I<|.p I (.fa I (G77_0 _))<|.A 1 I<|.Z h I (zh9 _ _ _) λx55 h=>bK h λx56 q56 h=>.p I (.cat I I I q56)<|.A 1 I<|.nil<|.K [2,3,5,6] I<|.rA 3 I (ndE h I)
  ·refine .exit<|.J [3] h (λv=>[(5,.d (.str v))]) (λv=>[]) I (λk_58 h=>?_) (λx57 h=>?_)
   ·refine .sr<|.p I (.fa I (G69_0 _))<|.A 1 I<|.p I (.len I U67 I)<|.A 1 I<|.nil<|.condS I h (λh=>?_) λh=>?_
    ·refine .rA 1 I (ndE h I)
    ·refine .skip (ndE h I)
   ·refine .S 1 I<|bK h λx59 q59 h=>.p I (.cat I I I q59)<|.p I (.fa I (G69_1 _))<|.A 1 I<|.Z h I (za8 _ _) λx60 h=>bK h λx61 q61 h=>.p I (.cat I I I q61)<|.A 1 I<|.nil<|.K [4] I<|.ret (rO h I)
theorem zhm (n t0 t1 r) (h:zbz n t0 t1=some r):Pure pg 73 [Row.enc t0,eA t1] (.int r):=by
 refine Pure.ot Tryz.func73 I Tryz.ntmps73 I λA w=>.sA 2 I<|.sA 1 I<|.seq<|.sA 1 I<|.block<|.L [1,2] h (λv=>[(5,.d (.int v.1)),(6,.d (.int v.2))]) (λv=>[]) I λ_ ⟨x11,x12⟩ h=>.seq<|.S 1 I<|.p I (.fa I (G69_0 _))<|.A 1 I<|.p I (.len I U67 I)<|.A 1 I<|.nil<|.K [1,2,5,6,11] I<|.condS I h (λh=>?_) λh=>?_
 ·refine .skip<|.seq<|.block<|.draw 19 Hm (by kernel_rfl) (by kernel_rfl)<|.A 1 I<|.p I (.fa I (G69_0 _))<|.A 2 I<|.X h I λx14 h=>.p I (.fa I (G77_1 _))<|.A 2 I<|.p I (.fa I (G69_0 _))<|.A 2 I<|.X h I λx15 h=>.p I (.fa I (G77_0 _))<|.A 1 I<|.X h I λx16 h=>.A 4 I<|.nil<|.nil<|.K [1,2,5,6] I<|.rA 3 I (ndE h I)
 ·refine .exit<|.sA 2 I<|.ret (rO h I)
theorem ref18_Edges_ok (n t0 t1 r) (h:zcb n t0 t1=some r):Pure pg 75 [Graph.enc t0,eA t1] (eJ r):=by
 refine Pure.ot Tryz.func75 I Tryz.ntmps75 I λA w=>.S 1 I<|.p I (.nilS 1 (α:=Bool) D.bool I)<|.nil<|.sr<|.buildVec [] I I I I I E108 I (λ_=>I) I (enc:=D.bool)<|.A 1 I<|.nil<|.seq<|.sA 1 I<|.block<|.L [1,2] h (λv=>[(5,.vec 0 (List.length v.1)),(6,.d (.int v.2))]) (λv=>[(0,.vec 4 1 (List.map D.bool v.1))]) I λ_ ⟨b0_11,x12⟩ h=>.seq<|.S 1 I<|.p I (.fa I (G106_1 _))<|.A 1 I<|.p I (.fa I (G106_1 _))<|.A 3 I<|.nil<|.K [1,2,5,6,14] I<|.condS I h (λh=>?_) λh=>?_
 ·refine .skip<|.seq<|.block<|.draw 15 Hm (by kernel_rfl) (by kernel_rfl)<|.A 2 I<|.p I (.fa I (G106_0 _))<|.A 3 I<|.X h I λx14 h=>.A 1 I<|.p I (.fa I (G106_2 _))<|.A 2 I<|.X h I λx15 h=>.A 2 I<|.p I (.buildSl [_] I I E108 I (λ_=>I) I (enc:=D.bool))<|.nil<|bK h λx16 q16 h=>.app I I I I I I I I E108 I (λ_=>I) q16<|.A 1 I<|.nil<|.K [1,2,5,6] I<|.rA 3 I (ndE h I)
 ·refine .exit<|.sA 2 I<|.ret ?_
  cases h
  exact zaH I (.vec I (by simp))
theorem ref19_Valid_ok (n t0 t1 r) (h:zfF n t0 t1=some r):Pure pg 150 [.int t0,eJ t1] (.bool r):=by
 refine Pure.ot Tryz.func150 I Tryz.ntmps150 I λA w=>.sA 1 I<|.seq<|.plain 14 I<|.A 3 I<|.jA 2 (decide (t0≤6)) I (λb1=>?_) ?_
 ·refine .A 2 I<|.nil I
 refine .A 1 I<|.jA 6 ((t1.length:Int)==(mul64 t0 t0)) I (λb2=>?_) ?_
 ·refine .A 1 I<|.q I (.len I U108 I)<|.A 4 I<|.nil I
 refine .nil<|.A 1 I<|.nil<|.K [4] I<|.ret (rO h I)
theorem ref19_has_ok (n t0 t1 r) (h:zbZ n t0 t1=some r):Pure pg 151 [eA t0,.int t1] (.bool r):=by
 refine Pure.ot Tryz.func151 I Tryz.ntmps151 I λA w=>.sA 1 I<|.seq<|.sA 1 I<|.block<|.L [0,1] h (λv=>[(5,.d (.int v))]) (λv=>[]) I λ_ x5 h=>.seq<|.S 2 I<|.p I (.len I U22 I)<|.A 1 I<|.nil<|.K [0,1,5,9] I<|.condS I h (λh=>?_) λh=>?_
 ·refine .skip<|.seq<|.block<|.S 2 I<|.X h I λx7 h=>.A 3 I<|.nil<|.condS I h (λh=>?_) λh=>?_
  ·refine .sA 1 I<|.ret (rO h I)
  ·refine .skip<|.rA 3 I (ndE h I)
 ·refine .exit<|.sA 1 I<|.ret (rO h I)
theorem ref19_with_ok (n t0 t1 r) (h:zcG n t0 t1=some r):Pure pg 152 [eA t0,.int t1] (eA r):=by
 refine Pure.ot Tryz.func152 I Tryz.ntmps152 I λA w=>.sr<|.p I (.nilS 1 (α:=Int) D.int I)<|.nil<|.sr<|.buildVec [] I I I I I E22 I (λ_=>I) I (enc:=D.int)<|.A 1 I<|.nil<|.seq<|.sA 1 I<|.block<|.L [0,1] h (λv=>[(5,.vec 0 (List.length v.1)),(6,.d (.int v.2))]) (λv=>[(0,.vec 3 1 (List.map D.int v.1))]) I λ_ ⟨b0_9,x10⟩ h=>.seq<|.S 2 I<|.p I (.len I U22 I)<|.A 1 I<|.nil<|.K [0,1,5,6,11] I<|.condS I h (λh=>?_) λh=>?_
 ·refine .skip<|.seq<|.block<|.region<|.A 3 I<|.X h I λx12 h=>.A 1 I<|.p I (.buildSl [_] I I E22 I (λ_=>I) I (enc:=D.int))<|bK h λx13 q13 h=>.app I I I I I I I I E22 I (λ_=>I) q13<|.A 1 I<|.nil<|.rA 3 I (ndE h I)
 ·refine .exit<|.S 2 I<|.p I (.buildSl [_] I I E22 I (λ_=>I) I (enc:=D.int))<|bK h λx14 q14 h=>.app I I I I I I I I E22 I (λ_=>I) q14<|.A 1 I<|.nil<|.ret ?_
  cases h
  exact zaH I (.vec I (by simp))
theorem ref19_Cycles_ok (n t0 t1 r) (h:zB n t0 t1=some r):Pure pg 110 [.int t0,eJ t1] (eN r):=by
 refine Pure.ot Tryz.func110 I Tryz.ntmps110 I λA w=>.sr<|.p I (.nilS 1 (α:=List Int) eA I)<|.nil<|.sr<|.buildVec [] I I I I I E142 I (λ_=>I) I (enc:=eA)<|.A 1 I<|.nil<|.seq<|.S 2 I<|.Z h I (ref19_Valid_ok _ _ _) λx1 h=>.A 1 I<|.nil<|.condS I h (λh=>?_) λh=>?_
 ·refine .sA 2 I<|.ret ?_
  cases h
  exact zaH I (.vec I (by simp))
 ·refine .skip<|.sr<|.buildVec [] I I I I I E142 I (λ_=>I) I (enc:=eA)<|.A 1 I<|.nil<|.seq<|.sA 1 I<|.block<|.L [0,1,5] h (λv=>[(6,.vec 1 (List.length v.1)),(7,.d (.int v.2))]) (λv=>[(1,.vec 22 1 (List.map eA v.1))]) I λ_ ⟨b1_8,x9⟩ h=>.seq<|.sA 3 I<|.K [0,1,5,6,7,23] I<|.condS I h (λh=>?_) λh=>?_
  ·refine .skip<|.seq<|.block<|.region<|.A 2 I<|.p I (.buildSl [_] I I E22 I (λ_=>I) I (enc:=D.int))<|.p I (.buildSl [_] I I E142 I (λ_=>I) I (enc:=eA))<|bK h λx11 q11 h=>.app I I I I I I I I E142 I (λ_=>I) q11<|.A 1 I<|.nil<|.rA 3 I (ndE h I)
  ·refine .exit<|.seq<|.sA 1 I<|.freezes [1] (.cons (t:=6) I (.vec (inIds I) I (by simp)) .nil)<|.block<|.L [0,1] h (λv=>[(5,.vec 0 (List.length v.1)),(6,.d (eN v.2.1)),(8,.d (.int v.2.2))]) (λv=>[(0,.vec 22 1 (List.map eA v.1))]) I λ_ ⟨b0_302,x303,x304⟩ h=>.seq<|.sA 3 I<|.K [0,1,5,6,8,33] I<|.condS I h (λh=>?_) λh=>?_
   ·refine .skip<|.seq<|.block<|.sr<|.buildVec [] I I I I I E142 I (λ_=>I) I (enc:=eA)<|.A 1 I<|.nil<|.seq<|.sA 1 I<|.block<|.L [0,1,6,8] h (λv=>[(5,.vec 0 (List.length v.1)),(9,.vec 2 (List.length v.2.1)),(10,.d (.int v.2.2))]) (λv=>[(0,.vec 22 1 (List.map eA v.1)),(2,.vec 22 1 (List.map eA v.2.1))]) I λ_ ⟨b0_400,b2_401,x402⟩ h=>.seq<|.S 2 I<|.p I (.len I U142 I)<|.A 1 I<|.nil<|.K [0,1,5,6,8,9,10,40] I<|.condS I h (λh=>?_) λh=>?_
    ·refine .skip<|.seq<|.block<|.S 2 I<|.X h I λx404 h=>.A 1 I<|.X h I λx405 h=>.A 2 I<|.nil<|.seq<|.draw 13 Hm (by kernel_rfl) (by kernel_rfl)<|.A 2 I<|.X h I λx406 h=>.A 3 I<|.X h I λx407 h=>.A 1 I<|.p I (.len I U22 I)<|.A 1 I<|.X h I λx408 h=>.A 2 I<|.nil<|.nil<|.K [0,1,5,6,8,9,10,11,12] I<|.J [0,1,6,8,9,10,11,12] h (λv=>[(5,.vec 0 (List.length v))]) (λv=>[(0,.vec 22 1 (List.map eA v))]) I (λk_410 h=>?_) (λb0_409 h=>?_)
     ·refine .S 6 I<|.X h I λx411 h=>.A 1 I<|.nil<|.condS I h (λh=>?_) λh=>?_
      ·refine .region<|.A 3 I<|.X h I λx412 h=>.A 1 I<|.p I (.buildSl [_] I I E142 I (λ_=>I) I (enc:=eA))<|bK h λx413 q413 h=>.app I I I I I I I I E142 I (λ_=>I) q413<|.A 1 I<|.nil (ndE h I)
      ·refine .skip (ndE h I)
     ·refine .sA 3 I<|.K [0,1,5,6,8,9,10,12,13] I<|.block<|.L [0,1,5,6,8,10,12] h (λv=>[(9,.vec 2 (List.length v.1)),(13,.d (.int v.2))]) (λv=>[(2,.vec 22 1 (List.map eA v.1))]) I λ_ ⟨b2_436,x437⟩ h=>.seq<|.sA 3 I<|.K [0,1,5,6,8,9,10,12,13,80] I<|.condS I h (λh=>?_) λh=>?_
      ·refine .skip<|.J [0,1,5,6,8,10,12,13] h (λv=>[(9,.vec 2 (List.length v))]) (λv=>[(2,.vec 22 1 (List.map eA v))]) I (λk_440 h=>?_) (λb2_439 h=>?_)
       ·refine .block<|.seq<|.plain 17 I<|.A 6 I<|.X h I λx441 h=>.A 2 I<|gK h λc443 h=>gK h λc444 h=>.jA 7 (!((zbZ n ((idx x303 x402).getD default) x437).getD default)) I (λb442=>?_) ?_
        ·refine .A 2 I<|.q I (.ix I U142 S22 (someD (impT c443 b442)))<|.A 2 I<|.q I (.call I (kC I) I (ref19_has_ok _ _ _ _ (someD (impT c444 b442))))<|.A 1 I<|.nil I
        refine .nil<|.nil<|.K [0,1,5,6,8,9,10,12,13,99] I<|.condS I h (λh=>?_) λh=>?_
        ·refine .region<|.A 3 I<|.X h I λx445 h=>.A 2 I<|.Z h I (ref19_with_ok _ _ _) λx446 h=>.p I (.buildSl [_] I I E142 I (λ_=>I) I (enc:=eA))<|bK h λx447 q447 h=>.app I I I I I I I I E142 I (λ_=>I) q447<|.A 1 I<|.nil (ndE h I)
        ·refine .skip (ndE h I)
       ·refine .rA 3 I (ndE h I)
      ·refine .exit<|.rA 3 I (ndE h I)
    ·refine .exit<|.region<|.A 1 I<|.freezes [2] (.cons (t:=109) I (.vec (inIds I) I (by simp)) .nil)<|.A 1 I<|.nil<|.rA 3 I (ndE h I)
   ·refine .exit<|.sA 2 I<|.ret ?_
    cases h
    exact zaH I (.vec I (by simp))
theorem ref19_Cycle_ok (n t0 t1 r) (h:zfE n t0 t1=some r):Pure pg 74 [.int t0,eJ t1] (eA r):=by
 refine Pure.ot Tryz.func74 I Tryz.ntmps74 I λA w=>.sr<|.p I (.nilS 1 (α:=Int) D.int I)<|.nil<|.S 2 I<|.Z h I (ref19_Cycles_ok _ _ _) λx1 h=>.A 1 I<|.nil<|.seq<|.S 1 I<|.p I (.len I U142 I)<|.A 1 I<|.nil<|.condS I h (λh=>?_) λh=>?_
 ·refine .sr<|.p I (.nilS 1 (α:=Int) D.int I)<|.nil<|.ret ?_
  cases h
  exact zaH I (.d _)
 ·refine .skip<|.S 1 I<|.X h I λx2 h=>.A 2 I<|.nil<|.ret ?_
  cases h
  exact zaH I (.d _)
theorem ref24_Tell_ok (n t0 t1 r) (h:zaa n t0 t1=some r):Pure pg 25 [Model.enc t0,Scenario.enc t1] (.tup [eC r.1,.int r.2]):=by
 refine Pure.ot Tryz.func25 I Tryz.ntmps25 I λA w=>.S 2 I<|.p I (.nilS 1 (α:=List UInt8) D.str I)<|.A 1 I<|.nil<|.seq<|.S 2 I<|bK h λx1 q1 h=>.p I (.callLe I (kC I) I (.e (.e .o1)) (ref24_Valid_ok _ _ _ _ _ q1))<|.A 1 I<|.nil<|.condS I h (λh=>?_) λh=>?_
 ·refine .sr<|.p I (.nilS 1 (α:=List UInt8) D.str I)<|.A 1 I<|.nil<|.ret ?_
  cases h
  exact zcQ I I (.d _) (.d _)
 ·refine .skip<|.sA 1 I<|.seq<|.sA 1 I<|.block<|.L [2,3] h (λv=>[(6,.d (.str v.1)),(7,.d (.int v.2))]) (λv=>[]) I λ_ ⟨x30,x31⟩ h=>.seq<|.S 1 I<|.p I (.fa I (G36_1 _))<|.A 1 I<|.p I (.len I U22 I)<|.A 1 I<|.nil<|.K [2,3,6,7,26] I<|.condS I h (λh=>?_) λh=>?_
  ·refine .skip<|.J [2,3,7] h (λv=>[(6,.d (.str v))]) (λv=>[]) I (λk_34 h=>?_) (λx33 h=>?_)
   ·refine .block<|.sr<|.p I (.fa I (G36_1 _))<|.A 2 I<|.X h I λx35 h=>.A 2 I<|.nil<|.condS I h (λh=>?_) λh=>?_
    ·refine .J [2,3,7] h (λv=>[(6,.d (.str v))]) (λv=>[]) I (λk_37 h=>?_) (λx36 h=>?_)
     ·refine .S 1 I<|.p I (.str_neq I I I)<|.nil<|.condS I h (λh=>?_) λh=>?_
      ·refine .region<|.A 1 I<|bK h λx38 q38 h=>.p I (.cat I I I q38)<|.A 1 I<|.nil (ndE h I)
      ·refine .skip (ndE h I)
     ·refine .draw 14 Hm (by kernel_rfl) (by kernel_rfl)<|.A 3 I<|.Z h I (zh9 _ _ _) λx39 h=>bK h λx40 q40 h=>.p I (.cat I I I q40)<|bK h λx41 q41 h=>.p I (.cat I I I q41)<|.p I (.fa I (G36_1 _))<|.A 2 I<|.X h I λx42 h=>.A 1 I<|.Z h I (za8 _ _) λx43 h=>bK h λx44 q44 h=>.p I (.cat I I I q44)<|.A 1 I<|.nil<|.nil (ndE h I)
    ·refine .skip (ndE h I)
   ·refine .rA 3 I (ndE h I)
  ·refine .exit<|.J [2,3] h (λv=>[(6,.d (.str v))]) (λv=>[]) I (λk_46 h=>?_) (λx45 h=>?_)
   ·refine .S 1 I<|.p I (.str_eql I I I)<|.nil<|.condS I h (λh=>?_) λh=>?_
    ·refine .rA 1 I (ndE h I)
    ·refine .skip (ndE h I)
   ·refine .seq<|.draw 14 Hm (by kernel_rfl) (by kernel_rfl)<|.A 1 I<|bK h λx47 q47 h=>.p I (.cat I I I q47)<|.A 1 I<|.p I (.fa I (G36_0 _))<|.p I (.fa I (G34_0 _))<|.A 1 I<|.Z h I (zgA _ _ _) λx48 h=>bK h λx49 q49 h=>.p I (.cat I I I q49)<|.A 1 I<|.p I (.fa I (G36_0 _))<|.p I (.fa I (G34_1 _))<|.A 1 I<|.Z h I (zgA _ _ _) λx50 h=>bK h λx51 q51 h=>.p I (.cat I I I q51)<|.nil<|.buildVec [_,_,_] I I I I I E24 I (λ_=>I) I (enc:=D.str)<|.A 1 I<|.nil<|.K [2,3,8] I<|.seq<|.sr<|.p I (.fa I (G36_0 _))<|.p I (.fa I (G34_2 _))<|.p I (.fa I (G32_0 _))<|.A 1 I<|.nil<|.condS I h (λh=>?_) λh=>?_
    ·refine .seq<|.draw 17 Hm (by kernel_rfl) (by kernel_rfl)<|.A 2 I<|.p I (.fa I (G36_0 _))<|.p I (.fa I (G34_0 _))<|.A 1 I<|.X h I λx52 h=>.p I (.fa I (G62_2 _))<|.p I (.fa I (G60_1 _))<|.A 1 I<|.p I (.fa I (G36_0 _))<|.p I (.fa I (G34_2 _))<|.p I (.fa I (G32_1 _))<|.A 1 I<|.X h I λx53 h=>.A 1 I<|.alloc I I I I ZZ69<|.store I I I I I I Z69<|.nil<|.freezes [1] (.cons (t:=9) (d:=.ref (Row.enc x53)) I (.loc (inIds I) I (.v .v1)) .nil)<|.nil<|.K [2,3,8,9] I<|.seq<|.draw 12 Hm (by kernel_rfl) (by kernel_rfl)<|.p I (.fa I (G36_1 _))<|.A 3 I<|.p I (.fa I (G36_0 _))<|.p I (.fa I (G34_1 _))<|.A 1 I<|.X h I λx54 h=>.p I (.fa I (G62_2 _))<|.A 1 I<|.Z h I (zcc _ _ _) λx55 h=>.A 1 I<|.nil<|.nil<|.seq<|.draw 12 Hm (by kernel_rfl) (by kernel_rfl)<|.A 3 I<|.Z h I (ref24_Row_ok _ _ _) λx56 h=> ?_
     refine bK h λx57 q57 h=>.p I (.cat I I I q57)<|bK h λx58 q58 h=>.p I (.cat I I I q58)<|.A 2 I<|.Z h I (zhm _ _ _) λx59 h=>.Z h I (za8 _ _) λx60 h=>bK h λx61 q61 h=>.p I (.cat I I I q61)<|.p I (.buildSl [_] I I E24 I (λ_=>I) I (enc:=D.str))<|.nil<|bK h λx62 q62 h=>.app I I I I I I I I E24 I (λ_=>I) q62<|.A 2 I<|.nil<|.K [4,5] I<|.ret ?_
     cases h
     exact zcQ I I (.vec I (by simp)) (.d _)
    ·refine .skip<|.S 2 I<|.p I (.fa I (G36_0 _))<|.p I (.fa I (G34_2 _))<|.p I (.fa I (G32_1 _))<|.A 1 I<|.X h I λx63 h=>.A 1 I<|.allocStore I I I I I I I I (by simp) I I Z74<|.nil<|.S 2 I<|.Z h I (ref24_Merged_ok _ _ _) λx64 h=>.A 1 I<|.nil<|.K [2,8,11,12] I<|.seq<|.sr<|.p I (.fa I (G74_0 _))<|.A 2 I<|.nil<|.condS I h (λh=>?_) λh=>?_
     ·refine .seq<|.draw 22 Hm (by kernel_rfl) (by kernel_rfl)<|.A 3 I<|.p I (.fa I (G74_1 _))<|.A 1 I<|.X h I λx65 h=>.A 1 I<|bK h λx66 q66 h=>.p I (.cat I I I q66)<|bK h λx67 q67 h=>.p I (.cat I I I q67)<|.A 1 I<|.p I (.fa I (G74_2 _))<|.A 1 I<|.Z h I (ref24_Row_ok _ _ _) λx68 h=>bK h λx69 q69 h=>.p I (.cat I I I q69)<|bK h λx70 q70 h=>.p I (.cat I I I q70)<|.p I (.fa I (G74_2 _))<|.A 2 I<|.Z h I (zhm _ _ _) λx71 h=>.Z h I (za8 _ _) λx72 h=>bK h λx73 q73 h=>.p I (.cat I I I q73)<|.p I (.buildSl [_] I I E24 I (λ_=>I) I (enc:=D.str))<|.nil<|bK h λx74 q74 h=>.app I I I I I I I I E24 I (λ_=>I) q74<|.A 2 I<|.nil<|.K [4,5] I<|.ret ?_
      cases h
      exact zcQ I I (.vec I (by simp)) (.d _)
     ·refine .skip<|.sr<|.p I (.fa I (G74_3 _))<|.A 1 I<|.p I (.fa I (G74_4 _))<|.A 1 I<|.p I (.build I Pl106 (.agg Zc106 (ds':=[_,_,.val (.slice none 0 0)]) (.e (.e .e1))) I I)<|.allocZ I I I I (.agg Zc106 (ds':=[.int 0,.int 0,.val (.slice none 0 0)]) (.e (.e .e1))) I<|.nilCell 1 2 1 3 I I<|.store I I I I I I (.ofD I) C106 I (yi I)<|.nilCell 1 2 1 3 I I<|.nil<|.K [2,8,11,12,13] I<|.seq<|.sA 1 I<|.block<|.L [2,8,11,12,13] h (λv=>[(14,.d (.int v.2))]) (λv=>[(1,.box 106 [.d (.int x63.first),.d (.int x63.size),.vec 3 (List.length v.1)]),(3,.vec 3 1 (List.map D.int v.1))]) I λ_ ⟨b3_81,x82⟩ h=>.seq<|.S 1 I<|.p I (.fa I (G74_4 _))<|.A 1 I<|.p I (.fa I (G74_4 _))<|.A 3 I<|.nil<|.K [2,8,11,12,13,14,160] I<|.condS I h (λh=>?_) λh=>?_
      ·refine .skip<|.seq<|.block<|.region<|.p I (.fieldAddrLoc I I I F106_2)<|.p I (.loadLoc1 I I I Y22 I)<|.p I (.buildSl [_] I I E22 I (λ_=>I) I (enc:=D.int))<|bK h λx84 q84 h=>.app I I I I I I I I E22 I (λ_=>I) q84<|.p I (.fieldAddrLoc I I I F106_2)<|.store I I I I I I (.cons (.vec I (by simp)) .nil) C22 I (yi I)<|.nil<|.rA 3 I (ndE h I)
      ·refine .exit<|.seq<|.freezes [1,3] (.cons (t:=13) (d:=.ref (Graph.enc (⟨x63.first,x63.size,b3_81⟩:Graph))) I (.loc (inIds I) I (.v (.v (.cons (.vec (inIds I) I (by simp)) .nil)))) .nil)<|.draw 7 Hm (by kernel_rfl) (by kernel_rfl)<|.p I (.fa I (G74_4 _))<|.A 3 I<|.Z h I (ref18_Edges_ok _ _ _) λx85 h=>.Z h I (ref19_Cycle_ok _ _ _) λx86 h=>.A 1 I<|.nil<|.nil<|.sA 1 I<|.seq<|.sA 1 I<|.K [2,8,11,15,16,17] I<|.block<|.L [2,8,11,15] h (λv=>[(16,.d (.str v.1)),(17,.d (.int v.2))]) (λv=>[]) I λ_ ⟨x103,x104⟩ h=>.seq<|.S 2 I<|.p I (.len I U22 I)<|.A 1 I<|.nil<|.K [2,8,11,15,16,17,177] I<|.condS I h (λh=>?_) λh=>?_
       ·refine .skip<|.seq<|.block<|.J [2,8,11,15,17] h (λv=>[(16,.d (.str v))]) (λv=>[]) I (λk_107 h=>?_) (λx106 h=>?_)
        ·refine .sA 2 I<|.condS I h (λh=>?_) λh=>?_
         ·refine .region<|.A 1 I<|bK h λx108 q108 h=>.p I (.cat I I I q108)<|.A 1 I<|.nil (ndE h I)
         ·refine .skip (ndE h I)
        ·refine .region<|.A 3 I<|.X h I λx109 h=>.A 1 I<|.Z h I (za8 _ _) λx110 h=>bK h λx111 q111 h=>.p I (.cat I I I q111)<|.A 1 I<|.nil<|.K [2,8,11,15,16,17] I<|.rA 3 I (ndE h I)
       ·refine .exit<|.S 3 I<|.p I (.fa I (G74_1 _))<|.A 1 I<|.X h I λx112 h=>.A 1 I<|bK h λx113 q113 h=>.p I (.cat I I I q113)<|bK h λx114 q114 h=>.p I (.cat I I I q114)<|.A 1 I<|bK h λx115 q115 h=>.p I (.cat I I I q115)<|.p I (.buildSl [_] I I E24 I (λ_=>I) I (enc:=D.str))<|bK h λx116 q116 h=>.app I I I I I I I I E24 I (λ_=>I) q116<|.A 2 I<|.nil<|.ret ?_
        cases h
        exact zcQ I I (.vec I (by simp)) (.d _)
theorem zfY (n t0 t1 r) (h:zcW n t0 t1=some r):Pure pg 5 [Model.enc t0,Scenario.enc t1] (.bool r):=by
 refine Pure.ot Tryz.func5 I Tryz.ntmps5 I λA w=>.sA 3 I<|.seq<|.sr<|.Z h I (law24_awake_ok _ ) λx1 h=>.A 1 I<|.nil<|.condS I h (λh=>?_) λh=>?_
 ·refine .sA 1 I<|.ret (rO h I)
 ·refine .skip<|.seq<|.seq<|.plain 9 I<|.A 1 I<|.Z h I (ref13_Few_ok _ _) λx2 h=>.A 2 I<|gK h λc4 h=>.jO 4 (!((zdx n t1.state).getD default)) I (λb3=>?_) ?_
  ·refine .q I (.fa I (G36_1 _))<|.A 1 I<|.q I (.call I (kC I) I (law24_small_ok _ _ _ (someD (impF c4 b3))))<|.A 1 I<|.nil I
  refine .nil<|.nil<|.condS I h (λh=>?_) λh=>?_
  ·refine .sA 1 I<|.ret (rO h I)
  ·refine .skip<|.S 2 I<|.Z h I (zfT _ _ _) λx5 h=>.A 1 I<|.p I (.extract I I I)<|.p I (.extract I I I)<|.A 2 I<|.nil<|.K [2,3,5,6] I<|.S 2 I<|.Z h I (ref24_Tell_ok _ _ _) λx6 h=>.A 1 I<|.p I (.extract I I I)<|.p I (.extract I I I)<|.A 2 I<|.nil<|.seq<|.plain 8 I<|.A 4 I<|gK h λc8 h=>.jA 3 (((zb n x5.1 x6.1).getD default)) I (λb7=>?_) ?_
   ·refine .A 2 I<|.q I (.call I (kC I) I (zb7 _ _ _ _ (someD (impT c8 b7))))<|.nil I
   refine .nil<|.A 1 I<|.nil<|.K [4] I<|.ret (rO h I)
end
theorem zD {σ R:Type} {body:(σ→Option R)→σ→Option R} {len:Nat} {st:Nat→σ} {g:Nat→Option R}
  (hb:∀ rec i,i<len→rec (st (i+1))=g (i+1)→body rec (st i)=g i) (he:∀ rec,body rec (st len)=g len) :
  ∀ n i,i≤len→len - i<n→loopF body n (st i)=g i
 | 0,_,_,h=>by omega
 | n+1,i,hi,h=>by
  simp only [loopF];by_cases e:i=len
  ·subst e;exact he _
  ·exact hb _ i (by omega) (zD hb he n (i+1) (by omega) (by omega))
theorem zc {i:Nat} (h:i<4611686018427387904):add64 (i:Int) 1=((i+1:Nat):Int):=by
 unfold add64;rw [zaj (by omega) (by omega)];omega
theorem za {α:Type} {l:List α} {i:Nat} (h:i<l.length):idx l (i:Int)=some l[i]:=by
 unfold idx;rw [if_pos (by omega)];simp [h]
theorem zo {α:Type} {l:List α} {i:Nat} (h:i<l.length):decide ((i:Int)<(l.length:Int))=true:=by simp;omega
theorem zap {α:Type} {l:List α}:decide (((l.length:Nat):Int)<(l.length:Int))=false:=by simp
def zcf:List Change→Int→Int
 | [],_=>0
 | d::l,c=>if d.cell=c then d.add else zcf l c
theorem zn {α:Type} {l:List α} {i:Nat} (h:i<l.length):l.drop i=l[i]::l.drop (i+1):=List.drop_eq_getElem_cons h
def addP (c:Int):List Change→Int→Int
 | [],s=>s
 | d::l,s=>addP c l (if d.cell=c then add64 s d.add else s)
theorem addP_append (c):∀ (l m:List Change) (s:Int),addP c (l++m) s=addP c m (addP c l s)
 | [],_,_=>rfl
 | _::l,m,s=>by simp only [y7,addP];exact addP_append c l m _
theorem ref22_Add_eq {n:Nat} {e} (c:Int) (hl:e.delta.length<4611686018427387904) (hn:e.delta.length<n):zdg n e c=some (addP c e.delta 0):=by
 have:=zD (body:=zdg.l1 n e c) (len:=e.delta.length) (st:=λi=>(addP c (e.delta.take i) 0,(i:Int))) (g:=λ_=>some (addP c e.delta 0)) (λrec i hi hr=>?_) (λrec=>?_) n 0 (yp _) (by omega)
 ·simpa [zdg,addP] using this
 ·rw [yr hi,addP_append] at hr;simp only [addP] at hr;simp only [zdg.l1,zo hi,if_true,za hi,ya,jn,zc (i:=i) (by omega),beq_iff_eq];split at hr <;> rename_i h
  ·rw [if_pos h,hr]
  ·rw [if_neg h,hr]
 ·simp [zdg.l1]
theorem addP_other (c):∀ (l:List Change) (s:Int),(∀ d∈l,d.cell≠c)→addP c l s=s
 | [],_,_=>rfl
 | d::l,s,h=>by
  simp only [addP];rw [if_neg (h d (by simp))];exact addP_other c l s λx hx=>h x (by simp [hx])
theorem addP_addedP (c):∀ (l:List Change),(l.map (·.cell)).Nodup→(∀ d∈l,-9223372036854775808≤d.add∧d.add≤9223372036854775807)→addP c l 0=zcf l c
 | [],_,_=>rfl
 | d::l,hn,hb=>by
  simp only [yM,List.nodup_cons,yU,not_exists,not_and] at hn;simp only [addP,zcf];split <;> rename_i h
  ·rw [addP_other c l _ λx hx e=>hn.1 x hx (e.trans h.symm)];have:=hb d (by simp);unfold add64;rw [Int.zero_add];exact zaj this.1 this.2
  ·exact addP_addedP c l hn.2 λx hx=>hb x (by simp [hx])
section
variable {κ:Type} [DecidableEq κ]
structure SetIs (m:GMap κ Bool) (l:List κ):Prop where
 tru:∀ e∈m.es,e.2.2=true
 mem:∀ k,k∈m.es.map (λe=>e.2.1)↔k∈l
theorem findK_get (k:κ):∀ (es:List (Nat×κ×Bool)),(∀ e∈es,e.2.2=true)→((findK k es).map (·.2)).getD false=decide (k∈es.map (λe=>e.2.1))
 | [],_=>by simp [findK]
 | e::es,h=>by
  simp only [findK,yM,yI];by_cases hk:k=e.2.1
  ·simp [hk,h e (by simp)]
  ·rw [if_neg hk];have:=findK_get k es λx hx=>h x (by simp [hx])
   simp only [hk,false_or,← this,Option.map_map];cases findK k es <;> rfl
theorem findK_no (k:κ):∀ (es:List (Nat×κ×Bool)),findK k es=none→k∉es.map (λe=>e.2.1)
 | [],_=>by simp
 | e::es,h=>by
  simp only [findK] at h;split at h
  ·cases h
  ·rename_i hk;simp only [Option.map_eq_none_iff] at h;simp only [yM,yI,not_or];exact ⟨hk,findK_no k es h⟩
theorem findK_yes (k:κ):∀ (es:List (Nat×κ×Bool)) (p:Nat×Bool),findK k es=some p→k∈es.map (λe=>e.2.1)
 | [],_,h=>by simp [findK] at h
 | e::es,p,h=>by
  simp only [findK] at h;split at h
  ·rename_i hk;simp [hk]
  ·simp only [Option.map_eq_some_iff] at h;obtain ⟨q,h1,_⟩:=h;exact un _ (findK_yes k es q h1)
theorem SetIs.get {m:GMap κ Bool} {l:List κ} (h:SetIs m l) (k:κ):(m.get? k).getD false=decide (k∈l):=by
 unfold GMap.get?;rw [findK_get k m.es h.tru];exact decide_eq_decide.2 (h.mem k)
theorem SetIs.empty:SetIs (GMap.empty:GMap κ Bool) []:=⟨λe he=>(by simp [GMap.empty] at he),λk=>by simp [GMap.empty]⟩
theorem zhx (f:Nat×κ×Bool→Nat×κ×Bool) (hf:∀ e,(f e).2.1=e.2.1):∀ (es:List (Nat×κ×Bool)) (i:Nat),(es.modify i f).map (λe=>e.2.1)=es.map (λe=>e.2.1)
 | [],_=>by simp
 | e::es,0=>by simp [hf]
 | e::es,i+1=>by simp [zhx f hf es i]
theorem ziJ {p:Nat×κ×Bool→Prop} (f:Nat×κ×Bool→Nat×κ×Bool) (hf:∀ e,p (f e)):∀ (es:List (Nat×κ×Bool)) (i:Nat),(∀ e∈es,p e)→∀ e∈es.modify i f,p e
 | [],_,_=>by simp
 | e::es,0,h=>by
  intro x hx;simp only [List.modify_zero_cons,yI] at hx;rcases hx with rfl | hx
  ·exact hf e
  ·exact h x (by simp [hx])
 | e::es,i+1,h=>by
  intro x hx;simp only [List.modify_succ_cons,yI] at hx;rcases hx with rfl | hx
  ·exact h x (by simp)
  ·exact ziJ f hf es i (λy hy=>h y (by simp [hy])) x hx
theorem SetIs.put {m:GMap κ Bool} {l:List κ} (h:SetIs m l) (k:κ):SetIs (m.put k true) (l++[k]):=by
 unfold GMap.put;cases hk:findK k m.es with
 | none=>
  simp only [];refine ⟨λe he=>?_,λx=>?_⟩
  ·simp only [yK,yO] at he;rcases he with he | rfl
   ·exact h.tru e he
   ·rfl
  ·simp only [ul,yM,List.map_nil,yK,yO,h.mem x]
 | some p=>
  obtain ⟨i,b⟩:=p;simp only [];have hkl:k∈l:=(h.mem k).1 (findK_yes k m.es _ hk);refine ⟨ziJ (p:=λe=>e.2.2=true) _ (λe=>rfl) m.es i h.tru,λx=>?_⟩;rw [zhx (λe:Nat×κ×Bool=>(e.1,e.2.1,true)) (λe=>rfl) m.es i,h.mem x];simp only [yK,yO];exact ⟨.inl,λhx=>hx.elim id λe=>by rw [e];exact hkl⟩
end
def ixP {α:Type} (p:α→Bool):List α→Nat→Int
 | [],_=>-1
 | x::l,i=>if p x=true then (i:Int) else ixP p l (i+1)
theorem ixP_iff {α:Type} (p):∀ (l:List α) (i:Nat),0≤ixP p l i↔l.any p=true
 | [],_=>by simp [ixP]
 | x::l,i=>by
  have ih:=ixP_iff p l (i+1);rw [ixP,List.any_cons];by_cases h:p x=true
  ·rw [if_pos h,h];simp
  ·rw [if_neg h,ih];simp only [yH] at h;rw [h,ut]
theorem ziB {α:Type} (p:α→Bool) (l:List α) (i:Nat):decide (0≤ixP p l i)=l.any p:=by
 have:=ixP_iff p l i;cases h:l.any p with
 | true=>exact decide_eq_true (this.2 h)
 | false=>exact decide_eq_false λhc=>by rw [this.1 hc] at h;cases h
theorem zis {n l f p} (hf:∀ x∈l,f x=some (p x)) (hl:l.length<4611686018427387904) (hn:l.length<n):zP n l f=some (ixP p l 0):=by
 have:=zD (body:=zP.l1 n l f) (len:=l.length) (st:=λi=>(i:Int)) (g:=λi=>some (ixP p (l.drop i) i)) (λrec i hi hr=>?_) (λrec=>?_) n 0 (yp _) (by omega)
 ·simpa [zP] using this
 ·simp only [zP.l1,zo hi,if_true,za hi,ya,hf _ (yk hi),zc (i:=i) (by omega),hr];rw [zn hi];simp only [ixP];split <;> rfl
 ·simp [zP.l1,ixP]
theorem zbQ {n:Nat} {l:List Int} {f:Int→Option Bool} {p:Int→Bool} (hf:∀ x∈l,f x=some (p x)) (hl:l.length<4611686018427387904) (hn:l.length<n):zh n l f=some (l.any p):=by
 unfold zh;rw [zis hf hl hn,ya,ziB]
def zbn (x:Int):Bool:=decide (1≤x)&&decide (x≤6)
def colOK (sizes:List Int) (c:Int):Bool:=decide (0≤c)&&decide (c<(sizes.length:Int))
theorem zit {α:Type} (p:α→Bool) (l:List α):(!l.any λx=>!p x)=l.all p:=by
 induction l with
 | nil=>rfl
 | cons x l ih=>simp only [List.any_cons,um,← ih];cases p x <;> simp
theorem cells_sized_eq {n:Nat} {l:List Int} (hl:l.length<4611686018427387904) (hn:l.length<n):zfu n l=some (l.all zbn):=by
 unfold zfu;rw [zbQ (p:=λx=>!zbn x) (λx _=>by simp [zfv,zdQ,zbn]) hl hn,ya,zit]
theorem ziu {n:Nat} {sizes cols:List Int} (hl:cols.length<4611686018427387904) (hn:cols.length<n):zdF n sizes cols=some (decide (cols.length≤3)&&cols.all (colOK sizes)):=by
 unfold zdF;rw [zbQ (p:=λx=>!colOK sizes x) (λx _=>by
  simp only [zcg,colOK,yh,Bool.not_and];congr 1
  ·rw [← decide_not];exact decide_eq_decide.2 (by omega)
  ·rw [← decide_not];exact decide_eq_decide.2 (by omega)) hl hn]
 simp only [yj,yy,grd,if_true,yf,zit,yh];congr 1;exact decide_eq_decide.2 (by omega)
theorem zhe {n l} (hl:l.length<4611686018427387904) (hn:l.length<n):za1 n l=some (l.all zbn):=by
 have:=zD (body:=za1.l1 n l) (len:=l.length) (st:=λi=>(i:Int)) (g:=λi=>some ((l.drop i).all zbn)) (λrec i hi hr=>?_) (λrec=>?_) n 0 (yp _) (by omega)
 ·simpa [za1] using this
 ·simp only [za1.l1,zo hi,if_true,za hi,ya,yj,yy,grd,yf,zc (i:=i) (by omega),hr];rw [zn hi];simp only [um,zbn];by_cases h:1≤l[i]∧l[i]≤6
  ·rw [if_neg (by simp;omega)];simp [h.1,h.2]
  ·rw [if_pos (by simp;omega)];have:(decide (1≤l[i])&&decide (l[i]≤6))=false:=by
    simp only [uo,yF];omega
   rw [this,uc]
 ·simp [za1.l1]
def zY (sizes:List Int):List Int→Int→Int
 | [],s=>s
 | c::l,s=>zY sizes l (mul64 s (sizes.getD c.toNat 0))
theorem zdq (sizes):∀ (l m:List Int) (s:Int),zY sizes (l++m) s=zY sizes m (zY sizes l s)
 | [],_,_=>rfl
 | _::l,m,s=>by simp only [y7,zY];exact zdq sizes l m _
theorem zej {sizes c} (h:colOK sizes c=true):idx sizes c=some (sizes.getD c.toNat 0):=by
 simp only [colOK,yc,yd] at h;obtain ⟨n,rfl⟩:=yQ h.1;have:n<sizes.length:=by omega
 rw [za this];simp [List.getD,this]
theorem ze0 {n sizes cols} (hc:cols.all (colOK sizes)=true) (hl:cols.length<4611686018427387904) (hn:cols.length<n):za0 n sizes cols=some (zY sizes cols 1):=by
 have:=zD (body:=za0.l1 n sizes cols) (len:=cols.length) (st:=λi=>(zY sizes (cols.take i) 1,(i:Int))) (g:=λ_=>some (zY sizes cols 1)) (λrec i hi hr=>?_) (λrec=>?_) n 0 (yp _) (by omega)
 ·simpa [za0,zY] using this
 ·rw [yr hi,zdq] at hr;simp only [zY] at hr;simp only [za0.l1,zo hi,if_true,za hi,ya,zej (yo.1 hc _ (yk hi)),zc (i:=i) (by omega),hr]
 ·simp [za0.l1]
theorem number_loop {n sizes cols} (hl:cols.length<4611686018427387904) (hn:cols.length<n):loopF (z9.l1 n sizes cols) n (1,0)=some (if cols.all (colOK sizes)=true then zY sizes cols 1 else 0):=by
 by_cases hc:cols.all (colOK sizes)=true
 ·rw [if_pos hc];have:=zD (body:=z9.l1 n sizes cols) (len:=cols.length) (st:=λi=>(zY sizes (cols.take i) 1,(i:Int))) (g:=λ_=>some (zY sizes cols 1)) (λrec i hi hr=>?_) (λrec=>?_) n 0 (yp _) (by omega)
  ·simpa [zY] using this
  ·rw [yr hi,zdq] at hr;simp only [zY] at hr;have hcol:=yo.1 hc _ (yk hi);have h2:=zej hcol;simp only [colOK,yc,yd] at hcol;have hif:((decide (cols[i]<0))||(decide ((sizes.length:Int)≤cols[i])))=false:=by
    simp only [ud,yF];omega
   simp only [z9.l1,zo hi,if_true,za hi,ya,yj,yy,grd,yf,hif,ye,if_false,h2,zc (i:=i) (by omega),hr]
  ·simp [z9.l1]
 ·rw [if_neg hc];have:=zD (body:=z9.l1 n sizes cols) (len:=cols.length) (st:=λi=>(zY sizes (cols.take i) 1,(i:Int))) (g:=λi=>some (if (cols.drop i).all (colOK sizes)=true then zY sizes cols 1 else 0)) (λrec i hi hr=>?_) (λrec=>?_) n 0 (yp _) (by omega)
  ·simpa [zY,hc] using this
  ·rw [yr hi,zdq] at hr;simp only [zY] at hr;rw [zn hi,um];by_cases hcol:colOK sizes cols[i]=true
   ·have h2:=zej hcol;rw [hcol,yE];simp only [colOK,yc,yd] at hcol;have hif:((decide (cols[i]<0))||(decide ((sizes.length:Int)≤cols[i])))=false:=by
     simp only [ud,yF];omega
    simp only [z9.l1,zo hi,if_true,za hi,ya,yj,yy,grd,yf,hif,ye,if_false,h2,zc (i:=i) (by omega),hr]
   ·have hif:((decide (cols[i]<0))||(decide ((sizes.length:Int)≤cols[i])))=true:=by
     simp only [colOK,yc,yd] at hcol;simp only [yz,yd];omega
    simp only [yH] at hcol;rw [hcol,uc,if_neg (by simp)];simp only [z9.l1,zo hi,if_true,za hi,ya,yj,yy,grd,yf,hif]
  ·simp [z9.l1]
theorem zev {n sizes cols} (hl:cols.length<4611686018427387904) (hn:cols.length<n) (hs:sizes.length<4611686018427387904) (hsn:sizes.length<n) :
  z9 n sizes cols=some (if (decide (cols.length≤3)&&sizes.all zbn&&cols.all (colOK sizes))=true then zY sizes cols 1 else 0):=by
 unfold z9;rw [zhe hs hsn,number_loop hl hn];simp only [yj,yy,grd,if_true,yf];by_cases h3:cols.length≤3
 ·cases h4:sizes.all zbn with
  | true=>rw [if_neg (by simp;omega)];simp [h3]
  | false=>rw [if_pos (by simp)];simp
 ·rw [if_pos (by simp;left;omega)];simp [h3]
theorem zdb {S R:Type} {body:(S→Option R)→S→Option R} (μ:S→Nat) (I:S→Prop) (Q:S→Option R→Prop)
  (hb:∀ rec s,I s→(∀ s',I s'→μ s'<μ s→Q s' (rec s'))→Q s (body rec s)):∀ n s,I s→μ s<n→Q s (loopF body n s)
 | 0,_,_,h=>by omega
 | n+1,s,hI,h=>hb _ s hI λs' hI' hlt=>zdb μ I Q hb n s' hI' (by omega)
theorem zbE {σ S R:Type} {body:(S→Option R)→S→Option R} {len:Nat} {st:σ→Nat→S} {g:Nat→σ→Option R} (I:Nat→σ→Prop)
  (hb:∀ rec i s,i<len→I i s→(∀ s',I (i+1) s'→rec (st s' (i+1))=g (i+1) s')→body rec (st s i)=g i s) (he:∀ rec s,I len s→body rec (st s len)=g len s) :
  ∀ n i s,i≤len→len - i<n→I i s→loopF body n (st s i)=g i s
 | 0,_,_,_,h,_=>by omega
 | n+1,i,s,hi,h,hI=>by
  simp only [loopF];by_cases e:i=len
  ·subst e;exact he _ _ hI
  ·exact hb _ i s (by omega) hI λs' hI'=>zbE I hb he n (i+1) s' (by omega) (by omega) hI'
theorem zhv {S R:Type} {body:(S→Option R)→S→Option R} {n:Nat} (h:0<n) (s:S):loopF body n s=body (loopF body (n - 1)) s:=by
 obtain ⟨m,rfl⟩:∃ m,n=m+1:=⟨n - 1,by omega⟩
 rfl
theorem zeg {a b:Nat} (h:a+b<9223372036854775808):add64 (a:Int) (b:Int)=((a+b:Nat):Int):=by
 unfold add64;rw [zaj (by omega) (by omega)];omega
theorem zcV {l:List UInt8} {i} (h:i<l.length):sidx l (i:Int)=some ((l[i].toNat:Nat):Int):=by
 unfold sidx;rw [if_pos (by omega)];simp [h]
theorem zgb {α:Type} {l:List α} {a b:Nat} (h1:a≤b) (h2:b≤l.length):cut l (a:Int) (b:Int)=some ((l.drop a).take (b - a)):=by
 unfold cut;rw [if_pos (by omega)];simp
theorem cut_end {α:Type} {l:List α} {a:Nat} (h1:a≤l.length):cut l (a:Int) (l.length:Int)=some (l.drop a):=by
 rw [zgb h1 (yn _),List.take_of_length_le (by simp)]
theorem cut_all {α:Type} {l:List α}:cut l 0 (l.length:Int)=some l:=by
 have:=cut_end (l:=l) (a:=0) (by omega);simpa using this
theorem zgl {i k:Nat} (h:i<k):decide ((i:Int)<(k:Int))=true:=by simp;omega
theorem zei {i k:Nat} (h:k≤i):decide ((i:Int)<(k:Int))=false:=by simp;omega
def runP (p:Int→Bool):List UInt8→Nat
 | []=>0
 | b::l=>if p (b.toNat:Nat)=true then runP p l+1 else 0
theorem runP_le (p):∀ l,runP p l≤l.length
 | []=>yn _
 | b::l=>by
  simp only [runP,yJ];split
  ·exact Nat.succ_le_succ (runP_le p l)
  ·omega
theorem zgf {n} {l:List UInt8} {f p} (hf:∀ q,f q=some (p q)) (hl:l.length<4611686018427387904) (hn:l.length<n):zcq n l f=some ((runP p l:Nat):Int):=by
 have:=zD (body:=zcq.l1 n l f) (len:=l.length) (st:=λi=>(i:Int)) (g:=λi=>some ((i+runP p (l.drop i):Nat):Int)) (λrec i hi hr=>?_) (λrec=>?_) n 0 (yp _) (by omega)
 ·simpa [zcq] using this
 ·simp only [zcq.l1,zo hi,zcV hi,yj,uf,ut,grd,if_true,yf,hf,yE,zc (i:=i) (by omega),hr];rw [zn hi];simp only [runP];split <;> simp <;> omega
 ·simp [zcq.l1,runP,grd]
def zbD (q:Int):Bool:=decide (97≤q)&&decide (q≤122)
def digitP (q:Int):Bool:=decide (48≤q)&&decide (q≤57)
def partP (q:Int):Bool:=(zbD q||digitP q)||(q==95)
theorem lexer_letter_eq {n q}:zcp n q=some (zbD q):=rfl
theorem lexer_digit_eq {n q}:zbd n q=some (digitP q):=rfl
theorem zfG {n q}:zaz n q=some (zbD q):=rfl
theorem zeR {n q}:zaQ n q=some (digitP q):=rfl
def zc5 (q:Int):Bool:=!(q==9||q==10||q==13||q==32||q==35)
theorem zdR {q} (h:zbD q=true):zc5 q=true:=by
 simp only [zbD,yc,yd] at h;simp only [zc5,yw,ud,ub];omega
theorem lexer_skip_tt {n:Nat} {l:List UInt8} (hl:l.length<1000000) (hn:1000000≤n) :
  ∃ k:Nat,zcE n l=some (k:Int)∧k≤l.length∧(∀ h:0<l.length,zc5 (l[0].toNat:Nat)=true→k=0)∧(∀ h:0<l.length,zc5 (l[0].toNat:Nat)=false→0<k):=by
 have:=zdb (body:=zcE.l1 n l) (λs:Int=>l.length - s.toNat) (λs=>∃ i:Nat,s=i∧i≤l.length) (λs o=>∃ k:Nat,o=some (k:Int)∧k≤l.length∧s.toNat≤k∧∀ h:s.toNat<l.length,(zc5 (l[s.toNat].toNat:Nat)=true→k=s.toNat)∧(zc5 (l[s.toNat].toNat:Nat)=false→s.toNat<k))
  (λrec s hI hr=>by
   obtain ⟨i,rfl,hi⟩:=hI;by_cases hlt:i<l.length
   ·simp only [zcE.l1,zo hlt,if_true,zcV hlt,ya,zbP,yq];by_cases hw:((((((l[i].toNat:Nat):Int)==32)||(((l[i].toNat:Nat):Int)==9))||(((l[i].toNat:Nat):Int)==10))||(((l[i].toNat:Nat):Int)==13))=true
    ·rw [if_pos hw,zc (i:=i) (by omega)];obtain ⟨k,e,k1,k2,-⟩:=hr ((i+1:Nat):Int) ⟨i+1,rfl,by omega⟩ (by simp only [yq];omega);simp only [yq] at k2;refine ⟨k,e,k1,by omega,λh=>⟨λhb=>?_,λhb=>by omega⟩⟩;exfalso;simp only [yz,beq_iff_eq] at hw;simp only [zc5,yw,ud,ub] at hb;omega
    ·rw [if_neg hw];by_cases hh:((l[i].toNat:Nat):Int)=35
     ·rw [if_pos (by simp [hh]),cut_end hi,ya,zgf (f:=λq=>zgh n q) (p:=λq=>q != 10) (λq=>rfl) (by rw [ua];omega) (by rw [ua];omega),ya];have hrun:1≤runP (λq=>q != 10) (l.drop i):=by
       rw [zn hlt,runP,hh];simp
      have hle:=runP_le (λq=>q != 10) (l.drop i);simp only [ua] at hle;rw [zeg (by omega)];obtain ⟨k,e,k1,k2,-⟩:=hr ((i+runP (λq=>q != 10) (l.drop i):Nat):Int) ⟨_,rfl,by omega⟩ (by simp only [yq];omega);simp only [yq] at k2;refine ⟨k,e,k1,by omega,λh=>⟨λhb=>?_,λhb=>by omega⟩⟩;rw [hh] at hb;exact absurd hb (by decide)
     ·rw [if_neg (by simpa using hh)];refine ⟨i,rfl,hi,yn _,λh=>⟨λ_=>rfl,λhb=>?_⟩⟩;exfalso;simp only [yz,beq_iff_eq,not_or] at hw;simp only [zc5,Bool.not_eq_false',yz,beq_iff_eq] at hb;omega
   ·have:i=l.length:=by omega
    subst this;refine ⟨l.length,by simp [zcE.l1],yn _,by simp,λh=>by simp at h⟩) n 0 ⟨0,rfl,by omega⟩ (by simp;omega)
 obtain ⟨k,e,k1,-,k2⟩:=this;exact ⟨k,by simpa [zcE] using e,k1,λh hb=>(k2 h).1 hb,λh hb=>(k2 h).2 hb⟩
theorem zgi {n:Nat} {l:List UInt8} (hn:1000000≤n):∃ k:Int,za6 n l=some k:=by
 have:=zdb (body:=za6.l1 n l) (λs:Int=>5 - s.toNat) (λs=>∃ i:Nat,s=i∧i≤5) (λ_ o=>∃ k:Int,o=some k) (λrec s hI hr=>by
  obtain ⟨i,rfl,hi⟩:=hI;simp only [za6.l1];generalize hL:([[61,61],[33,61],[60,61],[62,61],[46,46]]:List (List UInt8))=L;have hLl:L.length=5:=by rw [← hL];rfl
  by_cases hlt:i<L.length
  ·have hp:∃ b,zcI n l L[i]=some b:=by
    simp only [zcI,zbh];by_cases h:L[i].length≤l.length
    ·have:cut l 0 (L[i].length:Int)=some ((l.drop 0).take (L[i].length - 0)):=zgb (a:=0) (by omega) (by omega)
     simp [this,grd]
    ·simp [h,grd]
   obtain ⟨b,hp⟩:=hp;have hd:decide ((i:Int)<(([[61,61],[33,61],[60,61],[62,61],[46,46]]:List (List Nat)).length:Int))=true:=by simp;omega
   simp only [hd,if_true,za hlt,ya,hp,zc (i:=i) (by omega)];split
   ·exact ⟨_,rfl⟩
   ·exact hr _ ⟨i+1,rfl,by omega⟩ (by simp only [yq];omega)
  ·have hd:decide ((i:Int)<(([[61,61],[33,61],[60,61],[62,61],[46,46]]:List (List Nat)).length:Int))=false:=by simp;omega
   rw [hd,if_neg (by simp)];cases l with
   | nil=>simp [grd]
   | cons b l=>
    have h0:sidx (b::l) 0=some ((b.toNat:Nat):Int):=zcV (l:=b::l) (i:=0) (by simp)
    simp only [h0,zb2,zbi,ya,yj,yy,grd,if_true,yf];split <;> exact ⟨_,rfl⟩) n 0 ⟨0,rfl,by omega⟩ (by simp;omega)
 simpa [za6] using this
theorem lexer_begins_tt {n} {l:List UInt8} (hn:1000000≤n) (h:0<l.length):∃ b,zcZ n l=some b:=by
 obtain ⟨k,hk⟩:=zgi (n:=n) (l:=l) hn;have h0:sidx l 0=some ((l[0].toNat:Nat):Int):=zcV (i:=0) h;simp [zcZ,h0,zcp,zbd,hk,grd]
theorem lexer_wrong_tt {n:Nat} {l:List UInt8} {k:(Int×Int)→Option Token} (hl:l.length<1000000) (hn:1000000≤n) (h1:0<l.length):∃ e,loopF (zas.l2 n l k) n 1=k (5,e):=by
 refine zdb (body:=zas.l2 n l k) (λs:Int=>l.length - s.toNat) (λs=>∃ i:Nat,s=i∧i≤l.length) (λ_ o=>∃ e,o=k (5,e)) (λrec s hI hr=>?_) n 1 ⟨1,rfl,h1⟩ (by simp;omega);obtain ⟨i,rfl,hi⟩:=hI;by_cases hlt:i<l.length
 ·obtain ⟨b,hb⟩:=lexer_begins_tt (n:=n) (l:=l.drop i) hn (by simp;omega);simp only [zas.l2,zo hlt,zcV hlt,zbP,cut_end hi,hb,yj,yy,grd,if_true,yf,zc (i:=i) (by omega)];split
  ·exact hr _ ⟨i+1,rfl,by omega⟩ (by simp only [yq];omega)
  ·exact ⟨_,rfl⟩
 ·have:i=l.length:=by omega
  subst this;exact ⟨(l.length:Int),by simp [zas.l2,grd]⟩
def wordP (w:List UInt8):Bool:=(match w with | []=>false | b::_=>zbD (b.toNat:Nat))&&decide (runP partP w=w.length)
theorem wordP_cons (w:List UInt8) (h:0<w.length):wordP w=(zbD (w[0].toNat:Nat)&&decide (runP partP w=w.length)):=by
 cases w with
 | nil=>simp at h
 | cons b l=>rfl
theorem lexer_first {n:Nat} {w:List UInt8} {kw:GMap (List UInt8) Bool} (hl:w.length<1000000) (hn:1000000≤n) (h0:0<w.length) :
  ∃ t,zas n w kw=some t∧(t.at_=0∧t.end_=(w.length:Int)∧t.kind=1↔wordP w=true∧(kw.get? w).getD false=false):=by
 obtain ⟨k,e,k1,k2,k3⟩:=lexer_skip_tt (n:=n) (l:=w) hl hn;unfold zas;rw [zhv (by omega)];have hz:add64 0 (k:Int)=(k:Int):=by have:=zeg (a:=0) (b:=k) (by omega);simpa using this
 simp only [zas.l1,cut_all,ya,e,hz,cut_end k1,jn];by_cases hk:k=w.length
 ·subst hk;rw [if_pos (by simp)];refine ⟨_,rfl,?_⟩;simp only [];constructor
  ·rintro ⟨-,-,h⟩;simp at h
  ·rintro ⟨h,-⟩;exfalso;rw [wordP_cons w h0,yc] at h;have:=k2 h0 (zdR h.1);omega
 ·have hd:0<(w.drop k).length:=by simp;omega
  rw [if_neg (by simp;omega)];have hs:sidx (w.drop k) 0=some (((w.drop k)[0].toNat:Nat):Int):=zcV (i:=0) hd;simp only [hs,ya,lexer_letter_eq];rw [wordP_cons w h0];by_cases hlet:zbD (((w.drop k)[0].toNat:Nat):Int)=true
  ·rw [if_pos hlet,zgf (p:=partP) (λq=>by simp [ziG,zcp,zbd,grd,partP,zbD,digitP]) (by simp;omega) (by simp;omega)];have hle:=runP_le partP (w.drop k);have hc:=zgb (l:=w.drop k) (a:=0) (b:=runP partP (w.drop k)) (by omega) hle;simp only [ya,Int.natCast_zero] at hc ⊢;rw [hc];simp only [ua] at hle;have ha:add64 (k:Int) (runP partP (w.drop k):Nat)=((k+runP partP (w.drop k):Nat):Int):=zeg (by omega)
   simp only [ya,ha,List.drop_zero,Nat.sub_zero];by_cases hk0:k=0
   ·subst hk0;simp only [List.drop_zero] at hlet ⊢;by_cases hrun:runP partP w=w.length
    ·rw [hrun,List.take_of_length_le (yn _)];by_cases hkw:(kw.get? w).getD false=true
     ·rw [if_pos hkw];refine ⟨_,rfl,?_⟩;simp [hkw]
     ·rw [if_neg hkw];refine ⟨_,rfl,?_⟩;simp only [yH] at hkw;simp [hkw,hlet]
    ·split
     all_goals
      refine ⟨_,rfl,?_⟩;simp [hrun]
      try omega
   ·have hbl:zc5 (w[0].toNat:Nat)=false:=by
     cases hb:zc5 (w[0].toNat:Nat) with
     | false=>rfl
     | true=>exact absurd (k2 h0 hb) hk0
    have hnl:zbD (w[0].toNat:Nat)=false:=by
     cases hb:zbD (w[0].toNat:Nat) with
     | false=>rfl
     | true=>rw [zdR hb] at hbl;cases hbl
    split
    all_goals
     refine ⟨_,rfl,?_⟩;simp [hnl,hk0]
  ·rw [if_neg hlet];have hno:k=0→zbD (w[0].toNat:Nat)=false:=by
    intro hk0;subst hk0;simp only [List.drop_zero,yH] at hlet;exact hlet
   have hno':zbD (w[0].toNat:Nat)=false:=by
    by_cases hk0:k=0
    ·exact hno hk0
    ·cases hb:zbD (w[0].toNat:Nat) with
     | false=>rfl
     | true=>exact absurd (k2 h0 (zdR hb)) hk0
   simp only [lexer_digit_eq,ya,hno',uc,ye,false_and,iff_false];split
   ·rw [zgf (p:=digitP) (λq=>rfl) (by simp;omega) (by simp;omega)];exact ⟨_,rfl,by simp⟩
   ·obtain ⟨v,hv⟩:=zgi (n:=n) (l:=w.drop k) hn;simp only [hv,ya];split
    ·exact ⟨_,rfl,by simp⟩
    ·obtain ⟨e,he⟩:=lexer_wrong_tt (n:=n) (l:=w.drop k) (k:=λv=>some (⟨v.1,0,(k:Int),add64 (k:Int) v.2⟩:Token)) (by simp;omega) hn hd;rw [he];exact ⟨_,rfl,by simp⟩
def kwL:List (List UInt8):=[[115,111,114,116],[114,101,108,97,116,105,111,110],[99,111,117,110,116,101,114],[115,101,116],[114,101,103,105,115,116,101,114],[105,110,118,97,114,105,97,110,116],[111,112,101,114,97,116,105,111,110],[107,101,121],[114,101,102,101,114,101,110,99,101],[116,111],[99,111,117,110,116],[97,99,121,99,108,105,99],[97,108,108],[115,117,109],[105,110],[97,100,100,119,105,110,115],[114,101,109,111,118,101,119,105,110,115],[108,97,115,116],[109,117,108,116,105],[104,105,100,101],[111,114,100,101,114,101,100],[114,101,113,117,105,114,101],[104,111,108,100],[105,110,115,101,114,116],[100,101,108,101,116,101],[97,100,100],[102,114,111,109],[112,117,116],[100,114,111,112],[97,115,115,105,103,110],[102,111,114],[119,104,101,114,101],[97,110,100],[111,114],[110,111,116]]
structure Fuel (n:Nat):Prop where
 big:4294967296≤n
 kw:∃ m,zbs n=some m∧SetIs m kwL
def nameP (w:List UInt8):Bool:=decide (w.length≤16)&&(wordP w&&!decide (w∈kwL))
theorem zhU {n} {w:List UInt8} (hF:Fuel n):zfa n w=some (nameP w):=by
 have hn:=hF.big;unfold zfa nameP;by_cases h16:w.length≤16
 ·have hd:decide ((w.length:Int)≤16)=true:=by simp;omega
  simp only [hd,h16,decide_true,yE,uf,ut];unfold zeb;obtain ⟨m,hm,hs⟩:=hF.kw;cases hw:w with
  | nil=>simp [grd,wordP]
  | cons b l=>
   rw [← hw];have h0:0<w.length:=by rw [hw];simp
   rw [if_neg (by simp;exact ⟨by rw [hw];simp,by omega⟩),hm,ya];obtain ⟨t,ht,hiff⟩:=lexer_first (n:=n) (w:=w) (kw:=m) (by omega) (by omega) h0;rw [hs.get] at hiff;simp only [ht,ya];by_cases hc:t.at_=0∧t.end_=(w.length:Int)∧t.kind=1
   ·have:=hiff.1 hc;rw [if_neg (by simp [hc.1,hc.2.1])];simp only [yF] at this;simp [grd,hc.2.2,this.1,this.2]
   ·have hr:(wordP w&&!decide (w∈kwL))=false:=by
     cases hx:(wordP w&&!decide (w∈kwL)) with
     | false=>rfl
     | true=>
      simp only [yc,yw,yF] at hx;exact absurd (hiff.2 ⟨hx.1,by simp [hx.2]⟩) hc
    rw [hr];split
    ·simp [grd]
    ·rename_i hne;simp only [yz,bne_iff_ne,ne_eq,not_or,Decidable.not_not] at hne;have:t.kind≠1:=λe=>hc ⟨hne.1,hne.2,e⟩
     simp [grd,this]
 ·have hd:decide ((w.length:Int)≤16)=false:=by simp;omega
  simp [hd,h16,grd]
theorem ref_comment {n} {t:List UInt8} {rec x} (hx:x≤t.length) (hl:t.length<1000000) (hn:1000000≤n) :
  ∃ y:Nat,x≤y∧y≤t.length∧loopF (za5.l2 n t rec) n x=rec (y:Int)∧∀ h:x<t.length,(t[x].toNat:Nat)=35→x<y:=by
 have:=zdb (body:=za5.l2 n t rec) (λs:Int=>t.length - s.toNat) (λs=>∃ i:Nat,s=i∧i≤t.length) (λs o=>∃ y:Nat,s.toNat≤y∧y≤t.length∧o=rec (y:Int)∧∀ h:s.toNat<t.length,(t[s.toNat].toNat:Nat)=35→s.toNat<y) (λr s hI hr=>by
  obtain ⟨i,rfl,hi⟩:=hI;by_cases hlt:i<t.length
  ·simp only [za5.l2,zo hlt,zcV hlt,yj,yy,grd,if_true,yf,yE,zc (i:=i) (by omega),yq];by_cases h10:((((t[i].toNat:Nat):Int) != 10))=true
   ·rw [if_pos h10];obtain ⟨y,y1,y2,y3,-⟩:=hr ((i+1:Nat):Int) ⟨_,rfl,by omega⟩ (by simp only [yq];omega);simp only [yq] at y1;exact ⟨y,by omega,y2,y3,λ_ _=>by omega⟩
   ·rw [if_neg h10];refine ⟨i,yn _,hi,rfl,λ_ h=>?_⟩;rw [h] at h10;exact absurd h10 (by decide)
  ·have:i=t.length:=by omega
   subst this;exact ⟨t.length,by simp,yn _,by simp [za5.l2,grd],λh=>by simp at h⟩) n x ⟨x,rfl,hx⟩ (by simp;omega)
 simpa using this
theorem zhD {n} {t:List UInt8} {a} (ha:a≤t.length) (hl:t.length<1000000) (hn:1000000≤n) :
  ∃ k:Nat,za5 n t a=some (k:Int)∧a≤k∧k≤t.length∧(∀ h:k<t.length,zc5 (t[k].toNat:Nat)=true)∧(∀ h:a<t.length,zc5 (t[a].toNat:Nat)=true→k=a):=by
 have:=zdb (body:=za5.l1 n t) (λs:Int=>t.length - s.toNat) (λs=>∃ i:Nat,s=i∧i≤t.length)
  (λs o=>∃ k:Nat,o=some (k:Int)∧s.toNat≤k∧k≤t.length∧(∀ h:k<t.length,zc5 (t[k].toNat:Nat)=true)∧(∀ h:s.toNat<t.length,zc5 (t[s.toNat].toNat:Nat)=true→k=s.toNat)) (λr s hI hr=>by
  obtain ⟨i,rfl,hi⟩:=hI;by_cases hlt:i<t.length
  ·simp only [za5.l1,zo hlt,zcV hlt,zaI,yj,yy,grd,if_true,yf,yE,ya,zc (i:=i) (by omega),yq];by_cases hb:zc5 (t[i].toNat:Nat)=true
   ·rw [if_neg (by
     simp only [zc5,yw,ud,ub] at hb;simp only [yz,beq_iff_eq];omega)]
    exact ⟨i,rfl,yn _,hi,λ_=>hb,λ_ _=>rfl⟩
   ·rw [if_pos (by
     simp only [zc5,yw,ud,ub] at hb;simp only [yz,beq_iff_eq];omega)]
    by_cases hh:(t[i].toNat:Nat)=35
    ·rw [if_pos (by simp [hh])];obtain ⟨y,y1,y2,y3,y4⟩:=ref_comment (n:=n) (rec:=r) hi hl hn;have y5:=y4 hlt hh;rw [y3];obtain ⟨k,e,k1,k2,k3,-⟩:=hr (y:Int) ⟨y,rfl,y2⟩ (by simp only [yq];omega);simp only [yq] at k1;exact ⟨k,e,by omega,k2,k3,λ_ h=>absurd h hb⟩
    ·rw [if_neg (by simp;omega)];obtain ⟨k,e,k1,k2,k3,-⟩:=hr ((i+1:Nat):Int) ⟨_,rfl,by omega⟩ (by simp only [yq];omega);simp only [yq] at k1;exact ⟨k,e,by omega,k2,k3,λ_ h=>absurd h hb⟩
  ·have:i=t.length:=by omega
   subst this;exact ⟨t.length,by simp [za5.l1,grd],by simp,yn _,λh=>absurd h (by omega),λh=>by simp at h⟩) n a ⟨a,rfl,ha⟩ (by simp;omega)
 simpa [za5] using this
theorem zib {n} {t:List UInt8} {a} (ha:a≤t.length) (hl:t.length<1000000) (hn:1000000≤n):∃ v:Nat,za7 n t a=some (v:Int)∧a+v≤t.length:=by
 unfold za7;simp only [zfD,ya];generalize hL:([[61,61],[33,61],[60,61],[62,61],[46,46],[60],[62],[61],[43],[45],[42],[40],[41],[123],[125],[44],[58],[59]]:List (List UInt8))=L;have hLl:L.length=18:=by rw [← hL];rfl
 have hL2:∀ x∈L,x.length≤2:=by rw [← hL];decide
 refine zdb (body:=za7.l1 n t a L) (λs:Int=>18 - s.toNat) (λs=>∃ i:Nat,s=i∧i≤18) (λs o=>∃ v:Nat,o=some (v:Int)∧a+v≤t.length) (λr s hI hr=>?_) n 0 ⟨0,rfl,by omega⟩ (by simp;omega);obtain ⟨i,rfl,hi⟩:=hI;by_cases hlt:i<L.length
 ·have h2:=hL2 _ (yk hlt);simp only [za7.l1,zo hlt,if_true,za hlt,ya,yj,yf,yy,zc (i:=i) (by omega),zeg (show a+L[i].length<9223372036854775808 by omega)];by_cases hle:a+L[i].length≤t.length
  ·simp only [zgb (l:=t) (a:=a) (b:=a+L[i].length) (by omega) hle,yj,yy,grd,if_true];split
   ·exact ⟨_,rfl,hle⟩
   ·exact hr _ ⟨i+1,rfl,by omega⟩ (by simp only [yq];omega)
  ·have hd:decide (((a+L[i].length:Nat):Int)≤(t.length:Int))=false:=by simp;omega
   simp only [hd,ux,uO,grd,if_true,uc,ye,if_false];exact hr _ ⟨i+1,rfl,by omega⟩ (by simp only [yq];omega)
 ·have:i=L.length:=by omega
  subst this;exact ⟨0,by simp [za7.l1],by omega⟩
theorem ziO {n} {L:List (List UInt8)} {w:List UInt8} (hl:L.length<1000000) (hn:1000000≤n):zci n L w=some (decide (w∈L)):=by
 have:=zD (body:=zci.l1 n L w) (len:=L.length) (st:=λi=>(i:Int)) (g:=λi=>some (decide (w∈L.drop i))) (λrec i hi hr=>?_) (λrec=>?_) n 0 (yp _) (by omega)
 ·simpa [zci] using this
 ·simp only [zci.l1,zo hi,if_true,za hi,ya,zc (i:=i) (by omega),hr];rw [zn hi];by_cases h:L[i]=w
  ·rw [if_pos (by simpa using h)];simp only [yI,h,true_or,decide_true]
  ·have h':¬ w=L[i]:=λe=>h e.symm
   rw [if_neg (by simpa using h)];simp only [yI,h',false_or]
 ·simp [zci.l1]
theorem zgB {n}:ze2 n=some kwL:=rfl
theorem ref_token_ok {n} {t:List UInt8} {a} (ha:a<t.length) (hb:zc5 (t[a].toNat:Nat)=true) (hl:t.length<1000000) (hn:1000000≤n) :
  ∃ (k:Int) (e:Nat),zan n t a=some (k,(e:Int))∧a<e∧e≤t.length∧(zbD (t[a].toNat:Nat)=true→e=a+runP partP (t.drop a))∧(k=1↔zbD (t[a].toNat:Nat)=true∧(t.drop a).take (e - a)∉kwL):=by
 unfold zan;simp only [zcV ha,ya,zfG,zeR];by_cases hlet:zbD ((t[a].toNat:Nat):Int)=true
 ·rw [if_pos hlet];have hlp:zbD (t[a].toNat:Nat)=true:=hlet;have hrun1:1≤runP partP (t.drop a):=by
   rw [zn ha,runP,if_pos (by simp [partP,hlp])];omega
  have hle:=runP_le partP (t.drop a);simp only [ua] at hle;have:=zbE (body:=zan.l1 n t a) (len:=t.length) (st:=λ(_:Unit) i=>(i:Int)) (g:=λi _=>some (if decide ((t.drop a).take (i+runP partP (t.drop i) - a)∈kwL)=true then (2,((i+runP partP (t.drop i):Nat):Int)) else (1,((i+runP partP (t.drop i):Nat):Int)))) (λi _=>a≤i) (λrec i _ hi hai hr=>?_) (λrec _ hai=>?_) n a () (by omega) (by omega) (yn _)
  ·rw [this];refine ⟨if decide ((t.drop a).take (a+runP partP (t.drop a) - a)∈kwL)=true then 2 else 1,a+runP partP (t.drop a),?_,by omega,by omega,λ_=>rfl,?_⟩
   ·split <;> rfl
   ·rw [hlp];by_cases hk:(t.drop a).take (a+runP partP (t.drop a) - a)∈kwL
    ·simp [hk]
    ·simp [hk]
  ·have hr:=hr () (by omega);have hle':=runP_le partP (t.drop i);simp only [ua] at hle';simp only [zan.l1,zo hi,zcV hi,zfG,zeR,yj,yy,grd,if_true,yf,yE,zc (i:=i) (by omega),hr];rw [zn hi,runP];have hpe:(zbD ((t[i].toNat:Nat):Int)||digitP ((t[i].toNat:Nat):Int)||((t[i].toNat:Nat):Int)==95)=partP ((t[i].toNat:Nat):Int):=rfl;rw [hpe];by_cases hp:partP (t[i].toNat:Nat)=true
   ·rw [if_pos hp,if_pos hp,show i+(runP partP (t.drop (i+1))+1)=i+1+runP partP (t.drop (i+1)) by omega]
   ·rw [if_neg hp,if_neg hp];simp only [uu,zgB,ya,zgb hai (Nat.le_of_lt hi)];rw [ziO (by decide) hn,ya];cases decide ((t.drop a).take (i - a)∈kwL) <;> rfl
  ·simp only [zan.l1,zap,ux,uO,grd,if_true,uc,ye,if_false,zgB,ya,zgb hai (yn _)];rw [ziO (by decide) hn,ya];simp only [List.drop_length,runP,uu];cases decide ((t.drop a).take (t.length - a)∈kwL) <;> rfl
 ·rw [if_neg hlet];have hlp:zbD (t[a].toNat:Nat)=false:=by simpa using hlet
  simp only [hlp,ye,false_implies,false_and,iff_false,true_and];by_cases hdig:digitP ((t[a].toNat:Nat):Int)=true
  ·rw [if_pos hdig];have:=zdb (body:=zan.l2 n t) (λs:Int=>t.length - s.toNat) (λs=>∃ i:Nat,s=i∧i≤t.length) (λs o=>∃ e:Nat,o=some (3,(e:Int))∧s.toNat≤e∧e≤t.length∧∀ h:s.toNat<t.length,digitP (t[s.toNat].toNat:Nat)=true→s.toNat<e) (λr s hI hr=>by
    obtain ⟨i,rfl,hi⟩:=hI;by_cases hlt:i<t.length
    ·simp only [zan.l2,zo hlt,zcV hlt,zeR,yj,yy,grd,if_true,yf,yE,zc (i:=i) (by omega),yq];split
     ·obtain ⟨e,e1,e2,e3,-⟩:=hr ((i+1:Nat):Int) ⟨_,rfl,by omega⟩ (by simp only [yq];omega);simp only [yq] at e2;exact ⟨e,e1,by omega,e3,λ_ _=>by omega⟩
     ·rename_i hno;exact ⟨i,rfl,yn _,hi,λ_ h=>absurd h hno⟩
    ·have:i=t.length:=by omega
     subst this;exact ⟨t.length,by simp [zan.l2,grd],by simp,yn _,λh=>by simp at h⟩) n a ⟨a,rfl,Nat.le_of_lt ha⟩ (by simp;omega)
   obtain ⟨e,e1,-,e3,e4⟩:=this;exact ⟨3,e,e1,e4 ha hdig,e3,by decide⟩
  ·rw [if_neg hdig];obtain ⟨v,hv,hv2⟩:=zib (n:=n) (t:=t) (a:=a) (Nat.le_of_lt ha) hl hn;rw [hv,ya];by_cases hv0:0<v
   ·rw [if_pos (by simpa using hv0),zeg (by omega)];exact ⟨4,a+v,rfl,by omega,hv2,by decide⟩
   ·have hv0:v=0:=by omega
    subst hv0;rw [if_neg (by simp)];have:=zdb (body:=zan.l3 n t) (λs:Int=>t.length - s.toNat) (λs=>∃ i:Nat,s=i∧i≤t.length) (λs o=>∃ e:Nat,o=some (5,(e:Int))∧s.toNat≤e∧e≤t.length∧(s=a→a<e)) (λr s hI hr=>by
     obtain ⟨i,rfl,hi⟩:=hI;by_cases hlt:i<t.length
     ·obtain ⟨u,hu,-⟩:=zib (n:=n) (t:=t) (a:=i) hi hl hn;simp only [zan.l3,zo hlt,zcV hlt,zaI,zfG,zeR,hu,yj,yy,grd,if_true,yf,yE,zc (i:=i) (by omega),yq];split
      ·obtain ⟨e,e1,e2,e3,-⟩:=hr ((i+1:Nat):Int) ⟨_,rfl,by omega⟩ (by simp only [yq];omega);simp only [yq] at e2;exact ⟨e,e1,by omega,e3,λh=>by omega⟩
      ·rename_i hno;refine ⟨i,rfl,yn _,hi,λh=>?_⟩;have hia:i=a:=by omega
       subst hia;exfalso;apply hno;rw [hv] at hu;simp only [yh,Int.natCast_inj] at hu;subst hu;simp only [zc5,yw,ud,ub] at hb;simp only [yc,bne_iff_ne,ne_eq,yw,ud,ub];simp only [yH] at hlet hdig;exact ⟨⟨⟨⟨by omega,by omega⟩,hlet⟩,hdig⟩,by simp⟩
     ·have:i=t.length:=by omega
      subst this;exact ⟨t.length,by simp [zan.l3,grd],by simp,yn _,λh=>by omega⟩) n a ⟨a,rfl,Nat.le_of_lt ha⟩ (by simp;omega)
    obtain ⟨e,e1,-,e3,e4⟩:=this;exact ⟨5,e,e1,e4 rfl,e3,by decide⟩
theorem zW {α:Type} {b:Nat} {xs ys:List α} (h:(xs.length+ys.length)*b≤140737488355328):Go.Proofs.YtbnhmfnagdgcmaaGreatDoor.app b xs ys=some (xs++ys):=by
 unfold Go.Proofs.YtbnhmfnagdgcmaaGreatDoor.app;rw [if_pos h]
theorem ref_Scan_ok {n:Nat} {t:List UInt8} (hl:t.length<1000000) (hn:1000000≤n):∀ (m:Nat) (b:List Token) (a:Nat),a≤t.length→b.length≤a→t.length - a<m→∃ r,r≠[]∧loopF (zcF.l1 n t) m (b,(a:Int))=some (b++r,0)
 | 0,_,_,_,_,h=>by omega
 | m+1,b,a,ha,hb,h=>by
  obtain ⟨k,e,k1,k2,k3,-⟩:=zhD (n:=n) ha hl hn;simp only [loopF,zcF.l1,e,ya];by_cases hlt:k<t.length
  ·obtain ⟨q,z,hz,z1,z2,-,-⟩:=ref_token_ok (n:=n) hlt (k3 hlt) hl hn;simp only [zo hlt,if_true,hz,ya];rw [zW (by simp;omega),ya];obtain ⟨r,-,hr⟩:=ref_Scan_ok hl hn m (b++[(⟨q,(a:Int),(k:Int),(z:Int)⟩:Token)]) z z2 (by simp;omega) (by omega);rw [hr];exact ⟨_::r,by simp,by rw [yB];rfl⟩
  ·rw [zei (by omega),if_neg (by simp),zW (by simp;omega),ya];exact ⟨_,by simp,rfl⟩
theorem ref_Kind_ok {n:Nat} {w:List UInt8} (hl:w.length≤4096) (hn:1000000≤n):∃ k,zgT n w=some k∧(k=1↔wordP w=true∧w∉kwL):=by
 unfold zgT zcF;rw [if_neg (by simp;omega),zhv (by omega)];obtain ⟨k,e,-,k2,k3,k4⟩:=zhD (n:=n) (t:=w) (a:=0) (by omega) (by omega) hn;simp only [Int.natCast_zero] at e;simp only [zcF.l1,e,ya];by_cases hlt:k<w.length
 ·obtain ⟨q,z,hz,z1,z2,z3,z4⟩:=ref_token_ok (n:=n) hlt (k3 hlt) (by omega) hn;simp only [zo hlt,if_true,hz,ya,yV];rw [zW (by simp),ya];obtain ⟨r,r0,hr⟩:=ref_Scan_ok (n:=n) (t:=w) (by omega) hn (n - 1) [(⟨q,0,(k:Int),(z:Int)⟩:Token)] z z2 (by simp;omega) (by omega);simp only [yV];rw [hr];have h0:idx ([(⟨q,0,(k:Int),(z:Int)⟩:Token)]++r) 0=some ⟨q,0,(k:Int),(z:Int)⟩:=by simp [idx]
  simp only [ya,h0,yj,yy,grd,if_true,yf];rw [wordP_cons w (by omega)];have hw0:k=0→z=w.length→(zbD (w[k].toNat:Nat)=true∧(w.drop k).take (z - k)∉kwL↔(zbD (w[0].toNat:Nat)&&decide (runP partP w=w.length))=true∧w∉kwL):=by
   intro e1 e2;subst e1;rw [e2];simp only [List.drop_zero,Nat.sub_zero,List.take_length,yc,yd];constructor
   ·rintro ⟨h1,h2⟩;have:=z3 h1;simp only [List.drop_zero] at this;exact ⟨⟨h1,by omega⟩,h2⟩
   ·rintro ⟨⟨h1,-⟩,h2⟩;exact ⟨h1,h2⟩
  by_cases hc:((((((0:Int) != 0)||((([(⟨q,0,(k:Int),(z:Int)⟩:Token)]++r).length:Int) != 2))||((k:Int) != 0))||((z:Int) != (w.length:Int))))=true
  ·rw [if_pos hc];refine ⟨0,rfl,?_⟩;constructor
   ·intro h;exact absurd h (by decide)
   ·rintro ⟨h1,h2⟩;exfalso;simp only [yc,yd] at h1;have hk0:k=0:=k4 (by omega) (zdR h1.1);subst hk0;have hzw:=z3 h1.1;simp only [List.drop_zero] at hzw;have hzl:z=w.length:=by omega
    subst hzl;rw [zhv (by omega)] at hr;obtain ⟨k',e',p1,p2,-,-⟩:=zhD (n:=n) (t:=w) (a:=w.length) (yn _) (by omega) hn;have:k'=w.length:=by omega
    subst this;simp only [zcF.l1,e',ya,zap,ye,if_false] at hr;rw [zW (by simp),ya] at hr;simp only [yh,yx,and_true,List.append_cancel_left_eq] at hr;subst hr;simp at hc
  ·rw [if_neg hc];refine ⟨q,rfl,?_⟩;simp only [yz,bne_iff_ne,ne_eq,not_or,Decidable.not_not] at hc;rw [z4];exact hw0 (by omega) (by omega)
 ·rw [zei (by omega),if_neg (by simp),zW (by simp),ya];simp only [yV,ya];refine ⟨0,by simp [grd,idx],?_⟩;constructor
  ·intro h;exact absurd h (by decide)
  ·rintro ⟨h1,-⟩;exfalso;cases w with
   | nil=>simp [wordP] at h1
   | cons x l=>
    simp only [wordP,yc] at h1;have:=k4 (by simp) (zdR h1.1);simp at hlt;omega
theorem zh2 {n} {w:List UInt8} (hl:w.length≤4096) (hn:1000000≤n):zfh n w=some (nameP w):=by
 unfold zfh nameP;obtain ⟨k,hk,hiff⟩:=ref_Kind_ok (n:=n) hl hn;rw [hk,ya];have h16:decide ((w.length:Int)≤16)=decide (w.length≤16):=decide_eq_decide.2 (by omega);rw [h16,Bool.and_comm];congr 2;rw [Bool.eq_iff_iff];simp only [beq_iff_eq,hiff,yc,yw,yF]
theorem SetIs.getS {m:GMap (List UInt8) Bool} {l:List (List UInt8)} (h:SetIs m l) (k:List UInt8):(m.get? k).getD false=decide (k∈l):=(h.get k).trans (decide_eq_decide.2 Iff.rfl)
def distP:List (List UInt8)→List (List UInt8)→Bool
 | _,[]=>true
 | seen,s::l=>nameP s&&!decide (s∈seen)&&distP (seen++[s]) l
theorem zfd {n} {l:List (List UInt8)} (hF:Fuel n) (hl:l.length<1000000):zak n l=some (distP [] l):=by
 have hn:=hF.big;have:=zbE (body:=zak.l1 n l) (len:=l.length) (st:=λm i=>(m,(i:Int))) (g:=λi _=>some (distP (l.take i) (l.drop i))) (λi m=>SetIs m (l.take i)) (λrec i m hi hm hr=>?_) (λrec m _=>?_) n 0 (GMap.empty) (yp _) (by omega) (by simpa using SetIs.empty)
 ·simpa [zak] using this
 ·simp only [zak.l1,zo hi,if_true,za hi,ya,zhU hF,hm.getS,zc (i:=i) (by omega)];rw [hr _ (by rw [yr hi];exact hm.put _),zn hi,distP,yr hi];cases nameP l[i] <;> cases hd:decide (l[i]∈l.take i) <;> simp
 ·simp [zak.l1,distP]
theorem zfi {n} {l:List (List UInt8)} (hn:1000000≤n) (hl:l.length<1000000) (hw:∀ w∈l,w.length≤4096):zal n l=some (distP [] l):=by
 have:=zD (body:=zal.l1 n l) (len:=l.length) (st:=λi=>(i:Int)) (g:=λi=>some (distP (l.take i) (l.drop i))) (λrec i hi hr=>?_) (λrec=>?_) n 0 (yp _) (by omega)
 ·simpa [zal] using this
 ·have hc:=zgb (l:=l) (a:=0) (b:=i) (by omega) (Nat.le_of_lt hi)
  simp only [Int.natCast_zero,List.drop_zero,Nat.sub_zero] at hc;simp only [zal.l1,zo hi,if_true,za hi,ya,zh2 (hw _ (yk hi)) hn,hc,yj,yf,yy,grd,ziO (show (l.take i).length<1000000 by simp;omega) hn,zc (i:=i) (by omega),hr];rw [zn hi,distP,yr hi];cases nameP l[i] <;> cases hd:decide (l[i]∈l.take i) <;> simp
 ·simp [zal.l1,distP]
theorem IndexB_eq {n l v} (hl:l.length<1000000) (hn:1000000≤n):zV n l v=some (ixP (λx=>v==x) l 0):=by
 have:=zD (body:=zV.l1 n l v) (len:=l.length) (st:=λi=>(i:Int)) (g:=λi=>some (ixP (λx=>v==x) (l.drop i) i)) (λrec i hi hr=>?_) (λrec=>?_) n 0 (yp _) (by omega)
 ·simpa [zV] using this
 ·simp only [zV.l1,zo hi,if_true,za hi,ya,zc (i:=i) (by omega),hr];rw [zn hi];simp only [ixP];split <;> rfl
 ·simp [zV.l1,ixP]
theorem cells_all_eq {n l} (hl:l.length<1000000) (hn:1000000≤n):zf8 n l=some (l.all id):=by
 unfold zf8 zbG;rw [IndexB_eq hl hn];simp only [ya,ziB,yh];rw [← zit];congr 2;funext x;cases x <;> rfl
def b6:Nat→Int→Int
 | 0,A=>A
 | k+1,A=>b6 k (A*6)
theorem b6_le:∀ (k:Nat) (A:Int),1≤A→A≤b6 k A
 | 0,_,_=>Int.le_refl _
 | k+1,A,h=>Int.le_trans (by omega) (b6_le k (A*6) (by omega))
theorem mul_small {a b A:Int} (h1:1≤a) (h2:a≤A) (h3:1≤b) (h4:b≤6):1≤a*b∧a*b≤A*6:=by
 have e1:1*1≤a*b:=Int.mul_le_mul h1 h3 (by omega) (by omega);have e2:a*b≤A*6:=Int.mul_le_mul h2 h4 (by omega) (by omega);omega
theorem widthP_b6 (sizes:List Int) (hs:sizes.all zbn=true):∀ (cols:List Int) (s A:Int),cols.all (colOK sizes)=true→1≤s→s≤A→b6 cols.length A≤1000000→1≤zY sizes cols s∧zY sizes cols s≤b6 cols.length A
 | [],s,A,_,h1,h2,_=>by simpa [zY,b6] using ⟨h1,h2⟩
 | c::l,s,A,hc,h1,h2,h3=>by
  simp only [um,yc] at hc;have hcol:=hc.1;simp only [colOK,yc,yd] at hcol;obtain ⟨k,rfl⟩:=yQ hcol.1;have hk:k<sizes.length:=by omega
  have hz:=yo.1 hs _ (yk hk);simp only [zbn,yc,yd] at hz;have hg:sizes.getD (k:Int).toNat 0=sizes[k]:=by simp [List.getD,hk]
  have hm:=mul_small h1 h2 hz.1 hz.2;simp only [yJ,b6] at h3 ⊢;have hb:=b6_le l.length (A*6) (by omega);simp only [zY,hg];unfold mul64;rw [zaj (by omega) (by omega)];exact widthP_b6 sizes hs l _ _ hc.2 hm.1 hm.2 h3
theorem zeW {sizes cols} (hs:sizes.all zbn=true) (hc:cols.all (colOK sizes)=true) (h3:cols.length≤3):1≤zY sizes cols 1∧zY sizes cols 1≤216:=by
 have h:b6 cols.length 1≤216:=by
  match cols,h3 with
  | [],_=>decide
  | [_],_=>simp [b6]
  | [_,_],_=>simp [b6]
  | [_,_,_],_=>simp [b6]
  | _::_::_::_::_,h=>simp at h
 have:=widthP_b6 sizes hs cols 1 1 hc (by decide) (by decide) (by omega);omega
def zaE (k:Int):Bool:=k==0||k==1
def zhB (t:Table):Bool:=if (t.kind==1||t.kind==4||t.kind==5)=true then (decide (t.range.lo≤t.range.hi)&&decide (-9999≤t.range.lo))&&decide (t.range.hi≤9999) else decide (t.range=(⟨0,1⟩:Range))
def tabP (sizes:List Int) (t:Table):Bool:=nameP t.name&&(decide (0≤t.kind)&&decide (t.kind≤5))&&(decide (t.columns.length≤3)&&t.columns.all (colOK sizes))&&zhB t
def layP (sizes:List Int):List (List UInt8)→Int→Int→List Table→Bool
 | _,a,b,[]=>decide (a≤128)&&decide (b≤64)
 | seen,a,b,t::l=>(tabP sizes t&&!decide (t.name∈seen))&&(if zaE t.kind=true then t.first==a&&layP sizes (seen++[t.name]) (add64 a (zY sizes t.columns 1)) b l else t.first==b&&layP sizes (seen++[t.name]) a (add64 b (zY sizes t.columns 1)) l)
def zaf (sizes:List Int) (tables:List Table):Bool:=decide (sizes.length≤4)&&decide (tables.length≤12)&&sizes.all zbn&&layP sizes [] 0 0 tables
theorem cells_ranged_eq {n t}:zeH n t=some (zhB t):=by
 unfold zeH zhB jn;by_cases h1:t.kind=1
 ·simp [h1]
 ·by_cases h4:t.kind=4
  ·simp [h4]
  ·by_cases h5:t.kind=5
   ·simp [h5]
   ·simp [h1,h4,h5]
theorem zeY {n sizes tables} (hF:Fuel n) (hs:sizes.length≤1000) (ht:tables.length≤1000) (hc:∀ t∈tables,t.columns.length≤1000):zbx n sizes tables=some (zaf sizes tables):=by
 have hn:=hF.big;unfold zbx zaf;rw [cells_sized_eq (by omega) (by omega),ya,cells_all_eq (by simp) (by omega),ya];simp only [um,List.all_nil,id,uD];have e1:decide ((sizes.length:Int)≤4)=decide (sizes.length≤4):=decide_eq_decide.2 (by omega);have e2:decide ((tables.length:Int)≤12)=decide (tables.length≤12):=decide_eq_decide.2 (by omega);rw [e1,e2,← Bool.and_assoc];by_cases h:(decide (sizes.length≤4)&&decide (tables.length≤12)&&sizes.all zbn)=true
 ·rw [h,if_neg (by simp),yE];have:=zbE (body:=zbx.l1 n sizes tables) (len:=tables.length) (st:=λ(s:GMap (List UInt8) Bool×Int×Int) i=>(s.1,s.2.1,s.2.2,(i:Int))) (g:=λi s=>some (layP sizes ((tables.take i).map (·.name)) s.2.1 s.2.2 (tables.drop i))) (λi s=>SetIs s.1 ((tables.take i).map (·.name))) (λrec i s hi hm hr=>?_) (λrec s _=>?_) n 0 (GMap.empty,0,0) (yp _) (by omega) (by simpa using SetIs.empty)
  ·simpa using this
  ·obtain ⟨m,a,b⟩:=s;simp only [] at hm;have hmem:=yk hi;have hcols:=hc _ hmem;simp only [zbx.l1,jn,zo hi,if_true,za hi,ya,zhU hF,hm.getS,zdQ,ziu (show tables[i].columns.length<4611686018427387904 by omega) (show tables[i].columns.length<n by omega),cells_ranged_eq,zbO,zc (i:=i) (by omega)];rw [cells_all_eq (by simp) (by omega),ya];simp only [um,List.all_nil,id,uD];have hput:=hm.put tables[i].name;have htk:((tables.take (i+1)).map (·.name))=(tables.take i).map (·.name)++[tables[i].name]:=by rw [yr hi,ul];rfl
   rw [← htk] at hput;have hT:(nameP tables[i].name&&(!decide (tables[i].name∈(tables.take i).map (·.name))&&(decide (0≤tables[i].kind)&&decide (tables[i].kind≤5)&&(decide (tables[i].columns.length≤3)&&tables[i].columns.all (colOK sizes)&&zhB tables[i]))))=(tabP sizes tables[i]&&!decide (tables[i].name∈(tables.take i).map (·.name))):=by
    unfold tabP;cases nameP tables[i].name <;> cases decide (tables[i].name∈(tables.take i).map (·.name)) <;> simp [Bool.and_assoc]
   rw [hT,zn hi,layP];by_cases hv:(tabP sizes tables[i]&&!decide (tables[i].name∈(tables.take i).map (·.name)))=true
   ·rw [hv,if_neg (by simp),yE];have hcol:tables[i].columns.all (colOK sizes)=true:=by
     simp only [tabP,yc] at hv;exact hv.1.1.2.2
    simp only [ze0 hcol (show tables[i].columns.length<4611686018427387904 by omega) (show tables[i].columns.length<n by omega),ya,← htk];unfold zaE;by_cases hk:(tables[i].kind==0||tables[i].kind==1)=true
    ·rw [if_pos hk,if_pos hk];by_cases hf:tables[i].first=a
     ·rw [if_neg (by simp [hf]),hr (m.put tables[i].name true,add64 a (zY sizes tables[i].columns 1),b) hput];simp [hf]
     ·rw [if_pos (by simp [hf])];simp [hf]
    ·rw [if_neg hk,if_neg hk];by_cases hf:tables[i].first=b
     ·rw [if_neg (by simp [hf]),hr (m.put tables[i].name true,a,add64 b (zY sizes tables[i].columns 1)) hput];simp [hf]
     ·rw [if_pos (by simp [hf])];simp [hf]
   ·simp only [yH] at hv;rw [hv,if_pos (by simp),uc]
  ·simp [zbx.l1,layP]
 ·simp only [yH] at h;rw [h,if_pos (by simp),uc]
theorem ze3 {n sizes tables} (hn:1000000≤n) (hs:sizes.length≤1000) (ht:tables.length≤1000) (hc:∀ t∈tables,t.columns.length≤1000∧t.name.length≤4096):zaw n sizes tables=some (zaf sizes tables):=by
 unfold zaw zaf;have e1:decide (4<(sizes.length:Int)) = !decide (sizes.length≤4):=by rw [← decide_not];exact decide_eq_decide.2 (by omega)
 have e2:decide (12<(tables.length:Int)) = !decide (tables.length≤12):=by rw [← decide_not];exact decide_eq_decide.2 (by omega)
 rw [zhe (by omega) (by omega),e1,e2];simp only [yj,yy,grd,if_true,yf];by_cases h:(decide (sizes.length≤4)&&decide (tables.length≤12)&&sizes.all zbn)=true
 ·rw [h,yE];simp only [yc] at h;obtain ⟨⟨h1,h2⟩,h3⟩:=h;rw [h1,h2,h3,if_neg (by simp)];have:=zbE (body:=zaw.l1 n sizes tables) (len:=tables.length) (st:=λ(s:Int×Int) i=>(s.1,s.2,(i:Int))) (g:=λi s=>some (layP sizes ((tables.take i).map (·.name)) s.1 s.2 (tables.drop i))) (λ_ _=>True) (λrec i s hi _ hr=>?_) (λrec s _=>?_) n 0 (0,0) (yp _) (by omega) trivial
  ·simpa using this
  ·obtain ⟨a,b⟩:=s;have hmem:=yk hi;obtain ⟨hcols,hname⟩:=hc _ hmem;simp only [zaw.l1,jn,zo hi,if_true,za hi,ya];generalize hK:(λ(v:Int×Int)=>rec (v.1,v.2,add64 (i:Int) 1))=K;have inner:=zD (body:=zaw.l2 n sizes tables a b i K tables[i]) (len:=i) (st:=λk=>(k:Int)) (g:=λk=>if decide (tables[i].name∈((tables.take i).drop k).map (·.name))=true then some false else zaw.l2 n sizes tables a b i K tables[i] (λ_=>none) (i:Int)) (λrec' k hk hr'=>?_) (λrec'=>?_) n 0 (yp _) (by omega)
   ·rw [show ((0:Nat):Int)=0 from rfl] at inner;rw [inner,zn hi,layP,List.drop_zero];have htk:((tables.take (i+1)).map (·.name))=(tables.take i).map (·.name)++[tables[i].name]:=by rw [yr hi,ul];rfl
    cases hseen:decide (tables[i].name∈(tables.take i).map (·.name)) with
    | true=>simp
    | false=>
     simp only [ye,if_false,ux,uD];have hnum:=zev (n:=n) (sizes:=sizes) (cols:=tables[i].columns) (by omega) (by omega) (by omega) (by omega);rw [h3,uD] at hnum;simp only [zaw.l2,zei (yn i),ye,if_false,hnum,ya,zh2 hname hn,zbL];unfold tabP;by_cases hcol:(decide (tables[i].columns.length≤3)&&tables[i].columns.all (colOK sizes))=true
     ·simp only [hcol,if_true,uD];have hcol':=hcol;simp only [yc,yd] at hcol';have hw:=zeW h3 hcol'.2 hcol'.1;have hw0:(zY sizes tables[i].columns 1==0)=false:=by simp;omega
      rw [hw0,Bool.or_false];by_cases hnk:(nameP tables[i].name&&(decide (0≤tables[i].kind)&&decide (tables[i].kind≤5)))=true
      ·rw [hnk,yE];simp only [yc,yd] at hnk;rw [if_neg (by simp [hnk.1];omega)];by_cases hrg:zhB tables[i]=true
       ·rw [hrg,yE];unfold zhB at hrg;rw [if_neg (by
         split at hrg
         ·simp only [yc,yd] at hrg;simp only [yz,yd];omega
         ·simp only [yd] at hrg;rw [hrg];decide),if_neg (by
         split at hrg
         ·rename_i hk;simp only [yz,beq_iff_eq] at hk;simp only [yc,yz,beq_iff_eq];omega
         ·simp only [yd] at hrg;rw [hrg];simp)]
        unfold zaE;by_cases hk:(tables[i].kind==0||tables[i].kind==1)=true
        ·rw [if_pos hk,if_pos hk];by_cases hf:tables[i].first=a
         ·rw [if_neg (by simp [hf]),← hK];simp only [zc (i:=i) (by omega)];have:=hr (add64 a (zY sizes tables[i].columns 1),b) trivial;simp only [] at this;rw [this,htk];simp [hf]
         ·rw [if_pos (by simp [hf])];simp [hf]
        ·rw [if_neg hk,if_neg hk];by_cases hf:tables[i].first=b
         ·rw [if_neg (by simp [hf]),← hK];simp only [zc (i:=i) (by omega)];have:=hr (a,add64 b (zY sizes tables[i].columns 1)) trivial;simp only [] at this;rw [this,htk];simp [hf]
         ·rw [if_pos (by simp [hf])];simp [hf]
       ·simp only [yH] at hrg;rw [hrg,uc];unfold zhB at hrg;split at hrg
        ·rename_i hk;rw [if_pos (by
          simp only [uo,yF] at hrg;simp only [yz,yd];omega)]
        ·rename_i hk;simp only [yz,beq_iff_eq,not_or] at hk;have hr01:¬ (tables[i].range.lo=0∧tables[i].range.hi=1):=by
          rintro ⟨q1,q2⟩;simp only [yF] at hrg;apply hrg;cases hrr:tables[i].range;rw [hrr] at q1 q2;simp only [] at q1 q2;rw [q1,q2]
         split
         ·rfl
         ·rw [if_pos (by
           simp only [yc,yz,beq_iff_eq,bne_iff_ne,ne_eq];omega)]
      ·simp only [yH] at hnk;rw [hnk,uc,uc];rw [if_pos (by
        simp only [uo,yF] at hnk;simp only [yz,yw,yd];rcases hnk with h | h | h
        ·exact .inl (.inl h)
        ·exact .inl (.inr (by omega))
        ·exact .inr (by omega))]
     ·simp only [yH] at hcol;simp only [hcol,Bool.and_false,uc,ye,if_false];rw [if_pos (by simp)]
   ·have hk':k<tables.length:=by omega
    simp only [zaw.l2,zgl hk,if_true,za hk',ya,zc (i:=k) (by omega),hr'];have hk2:k<(tables.take i).length:=by simp;omega
    rw [zn hk2];simp only [List.getElem_take,yM,yI];by_cases hnm:tables[k].name=tables[i].name
    ·rw [if_pos (by simpa using hnm),if_pos (by simp [hnm])]
    ·rw [if_neg (by simpa using hnm)];have hnm':¬ tables[i].name=tables[k].name:=λe=>hnm e.symm
     simp only [hnm',false_or]
   ·rw [if_neg (by simp)];simp only [zaw.l2,zei (yn i),ye,if_false]
  ·simp [zaw.l1,layP]
 ·simp only [yH] at h;rw [h,uc];rw [if_pos (by
   simp only [uo] at h;simp only [yz,yw];rcases h with (h | h) | h
   ·exact .inl (.inl h)
   ·exact .inr h
   ·exact .inl (.inr h))]
def zQ (sizes:List Int) (s:Bool):List Table→List Range
 | []=>[]
 | t::l=>if (zaE t.kind==s)=true then List.replicate (zY sizes t.columns 1).toNat t.range++zQ sizes s l else zQ sizes s l
theorem zgS {sizes}:∀ {l:List Table} {seen:List (List UInt8)} {a b:Int},layP sizes seen a b l=true→∀ t∈l,tabP sizes t=true
 | [],_,_,_,_,_,ht=>by simp at ht
 | x::l,seen,a,b,h,t,ht=>by
  simp only [layP,yc] at h;simp only [yI] at ht;rcases ht with rfl | ht
  ·exact h.1.1
  ·have h2:=h.2;split at h2
   ·simp only [yc] at h2;exact zgS h2.2 t ht
   ·simp only [yc] at h2;exact zgS h2.2 t ht
theorem zag {sizes tables} (h:zaf sizes tables=true):sizes.length≤4∧tables.length≤12∧sizes.all zbn=true∧∀ t∈tables,nameP t.name=true∧(0≤t.kind∧t.kind≤5)∧t.columns.length≤3∧t.columns.all (colOK sizes)=true∧1≤zY sizes t.columns 1∧zY sizes t.columns 1≤216:=by
 simp only [zaf,yc,yd] at h;obtain ⟨⟨⟨h1,h2⟩,h3⟩,h4⟩:=h;refine ⟨h1,h2,h3,λt ht=>?_⟩;have:=zgS h4 t ht;simp only [tabP,yc,yd] at this;obtain ⟨⟨⟨p1,p2⟩,p3⟩,-⟩:=this;exact ⟨p1,p2,p3.1,p3.2,zeW h3 p3.2 p3.1⟩
theorem zct {sizes s}:∀ {l:List Table},(∀ t∈l,1≤zY sizes t.columns 1∧zY sizes t.columns 1≤216)→(zQ sizes s l).length≤l.length*216
 | [],_=>by simp [zQ]
 | t::l,h=>by
  have ih:=zct (s:=s) (l:=l) λx hx=>h x (by simp [hx])
  have ht:=h t (by simp);simp only [zQ,yJ];split
  ·simp only [yG,uk];omega
  ·omega
theorem Mul_eq {n}:∀ w:Fin 217,zd8 n 1 ((w.1:Nat):Int)=some (0,((w.1:Nat):Int)):=by
 intro w;unfold zd8 zen;revert w;decide +kernel
theorem wk_small:∀ w:Fin 217,wk .u64 ((w.1:Nat):Int)=((w.1:Nat):Int)∧wk .i64 ((w.1:Nat):Int)=((w.1:Nat):Int):=by decide +kernel
theorem Repeat_eq {n x w} (h1:1≤w) (h2:w≤216) (hn:1000000≤n):zF n [x] w=some (List.replicate w.toNat x):=by
 obtain ⟨W,rfl⟩:=yQ (show 0≤w by omega);have hW:W<217:=by omega
 have hwk:=wk_small ⟨W,hW⟩;simp only [] at hwk;have h1k:wk .u64 (([x]:List Range).length:Int)=1:=(wk_small ⟨1,by decide⟩).1;unfold zF;rw [if_neg (by simp),h1k,hwk.1,Mul_eq ⟨W,hW⟩];simp only [ya];rw [if_neg (by simp;omega),hwk.2];have hm:mkl 16 (W:Int) (⟨0,0⟩:Range)=some (List.replicate W ⟨0,0⟩):=by
  unfold mkl;rw [if_pos (by omega)];simp
 rw [hm,ya];simp only [uk,List.length_singleton,Nat.sub_zero,yq];rw [show min W 1=1 by omega];refine zdb (body:=zF.l1 n) (λs=>W - s.2.toNat) (λs=>∃ k:Nat,s.2=(k:Int)∧1≤k∧k≤W∧s.1.length=W∧s.1.take k=List.replicate k x) (λ_ o=>o=some (List.replicate W x)) (λrec s hI hr=>?_) n _ ⟨1,rfl,by omega,by omega,?_,?_⟩ (by simp;omega)
 ·obtain ⟨b,kk⟩:=s;obtain ⟨k,rfl,k1,k2,hb,hk⟩:=hI;simp only [] at hb hk;simp only [zF.l1];by_cases hlt:k<W
  ·have hcE:cut b (k:Int) (W:Int)=some (b.drop k):=by rw [← hb];exact cut_end (by omega)
   have hc:=zgb (l:=b) (a:=0) (b:=k) (by omega) (by omega)
   simp only [Int.natCast_zero] at hc;simp only [hb,zgl hlt,if_true,hcE,hc,ya,yq,List.drop_zero,Nat.sub_zero,hk,uk];rw [zeg (by omega)];refine hr (_,((k+min (W - k) k:Nat):Int)) ⟨k+min (W - k) k,rfl,by omega,by omega,?_,?_⟩ (by simp only [yq];omega)
   ·simp only [];rw [zc7 (by omega) (by omega),hb]
   ·simp only [zeJ,hk,List.take_replicate,uk];rw [show min (W - k) k=min (W - k) k from rfl,← yB,List.replicate_append_replicate];rw [List.take_append_of_le_length (by simp)];simp
  ·have:k=W:=by omega
   subst this;have hd:decide ((k:Int)<(b.length:Int))=false:=by rw [hb];exact zei (yn _)
   simp only [hd,ye,if_false];rw [← hk,List.take_of_length_le (by omega)]
 ·rw [zc7 (by omega) (by simp)];simp
 ·simp [zeJ,List.take_append];rw [List.take_of_length_le (l:=[x]) (by simp;omega),show min W 1=1 by omega];simp
theorem zhc (sizes s):∀ (l m:List Table),zQ sizes s (l++m)=zQ sizes s l++zQ sizes s m
 | [],_=>rfl
 | t::l,m=>by
  simp only [y7,zQ,zhc sizes s l m];split <;> simp
theorem zgu {sizes:List Int} {s:Bool} {l:List Table} {i:Nat} (hi:i<l.length):zQ sizes s (l.take (i+1))=if (zaE l[i].kind==s)=true then zQ sizes s (l.take i)++List.replicate (zY sizes l[i].columns 1).toNat l[i].range else zQ sizes s (l.take i):=by
 rw [yr hi,zhc];simp only [zQ];split <;> simp
theorem zf6 {n:Nat} {sizes:List Int} {tables:List Table} {s:Bool} (hF:Fuel n) (hs:sizes.length≤1000) (ht:tables.length≤1000) (hc:∀ t∈tables,t.columns.length≤1000) :
  zbr n sizes tables s=some (if zaf sizes tables=true then zQ sizes s tables else []):=by
 have hn:=hF.big;unfold zbr;rw [zeY hF hs ht hc,ya];cases hL:zaf sizes tables with
 | false=>simp
 | true=>
  obtain ⟨l1,l2,l3,l4⟩:=zag hL;have:=zD (body:=zbr.l1 n sizes tables s) (len:=tables.length) (st:=λi=>(zQ sizes s (tables.take i),(i:Int))) (g:=λ_=>some (zQ sizes s tables)) (λrec i hi hr=>?_) (λrec=>?_) n 0 (yp _) (by omega)
  ·simpa [zQ] using this
  ·obtain ⟨-,-,c1,c2,c3,c4⟩:=l4 _ (yk hi);have hlen:=zct (sizes:=sizes) (s:=s) (l:=tables.take i) λx hx=>(l4 x (List.mem_of_mem_take hx)).2.2.2.2
   simp only [yR] at hlen;rw [zgu hi] at hr;simp only [zbr.l1,jn,zo hi,if_true,za hi,ya,zbO,zc (i:=i) (by omega)];unfold zaE at hr;by_cases hk:((tables[i].kind==0||tables[i].kind==1)==s)=true
   ·rw [if_pos hk] at hr ⊢;rw [ze0 c2 (by omega) (by omega),ya,Repeat_eq c3 c4 (by omega),ya,zW (by simp only [uk];omega),ya,hr]
   ·rw [if_neg hk] at hr ⊢;rw [hr]
  ·simp [zbr.l1]
theorem zeu {n:Nat} {sizes:List Int} {tables:List Table} {s:Bool} (hn:1000000≤n) (hs:sizes.length≤1000) (ht:tables.length≤1000) (hc:∀ t∈tables,t.columns.length≤1000∧t.name.length≤4096) :
  zaA n sizes tables s=some (if zaf sizes tables=true then zQ sizes s tables else []):=by
 unfold zaA;rw [ze3 hn hs ht hc,ya];cases hL:zaf sizes tables with
 | false=>simp
 | true=>
  obtain ⟨l1,l2,l3,l4⟩:=zag hL;have:=zD (body:=zaA.l1 n sizes tables s) (len:=tables.length) (st:=λi=>(zQ sizes s (tables.take i),(i:Int))) (g:=λ_=>some (zQ sizes s tables)) (λrec i hi hr=>?_) (λrec=>?_) n 0 (yp _) (by omega)
  ·simpa [zQ] using this
  ·obtain ⟨-,-,c1,c2,c3,c4⟩:=l4 _ (yk hi);have hlen:=zct (sizes:=sizes) (s:=s) (l:=tables.take i) λx hx=>(l4 x (List.mem_of_mem_take hx)).2.2.2.2
   simp only [yR] at hlen;rw [zgu hi] at hr;simp only [zaA.l1,zo hi,if_true];obtain ⟨W,hW⟩:=yQ (show 0≤zY sizes tables[i].columns 1 by omega);have hnum:=zev (n:=n) (sizes:=sizes) (cols:=tables[i].columns) (by omega) (by omega) (by omega) (by omega);simp only [l3,c2,c1,decide_true,uD,if_true] at hnum;have inner:=zD (body:=zaA.l2 n sizes tables s i rec) (len:=if (zaE tables[i].kind==s)=true then W else 0) (st:=λk=>(zQ sizes s (tables.take i)++List.replicate k tables[i].range,(k:Int))) (g:=λ_=>some (zQ sizes s tables)) (λrec' k hk hr'=>?_) (λrec'=>?_) n 0 (yp _) (by split <;> omega)
   ·simpa using inner
   ·split at hk
    ·rename_i hst;simp only [zaE] at hst;simp only [zaA.l2,za hi,ya,zbL,hst,yj,yy,grd,if_true,yf,hnum,yE,hW,zgl hk,zc (i:=k) (by omega)];rw [zW (by simp only [yG,uk,List.length_singleton];omega),ya,yB,← List.replicate_succ',hr']
    ·omega
   ·by_cases hst:((tables[i].kind==0||tables[i].kind==1)==s)=true
    ·have hst':(zaE tables[i].kind==s)=true:=hst;rw [if_pos hst'] at hr ⊢;simp only [zaA.l2,za hi,ya,zbL,hst,yj,yy,grd,if_true,yf,hnum,yE,hW,zei (yn W),ye,if_false,zc (i:=i) (by omega)];rw [hW] at hr;simpa using hr
    ·have hst':¬ (zaE tables[i].kind==s)=true:=hst;rw [if_neg hst'] at hr ⊢;simp only [yH] at hst;simp only [zaA.l2,za hi,ya,zbL,hst,ux,uO,grd,if_true,uc,ye,if_false,zc (i:=i) (by omega)];simpa using hr
  ·simp [zaA.l1]
def zdd (p:Int→Bool) (i:Nat):Nat→List Int
 | 0=>[]
 | m+1=>if p (i:Int)=true then (i:Int)::zdd p (i+1) m else zdd p (i+1) m
theorem zhA (p):∀ (m i:Nat),(zdd p i m).length≤m
 | 0,_=>yn _
 | m+1,i=>by
  simp only [zdd];split
  ·simp only [yJ];exact Nat.succ_le_succ (zhA p m (i+1))
  ·exact Nat.le_succ_of_le (zhA p m (i+1))
structure Good (n:Nat) (m:Model):Prop where
 acts:∀ a∈m.actions,a.effect.delta.length<4611686018427387904∧a.effect.delta.length<n∧(∀ k,addP k a.effect.delta 0=zcf a.effect.delta k)∧∀ r∈a.effect.hold,r.terms.length<4611686018427387904∧r.terms.length<n
 cons:∀ c∈m.constraints,(c.kind=0∨c.kind=1)∧c.row.terms.length<4611686018427387904∧c.row.terms.length<n∧∃ K:Nat,mul64 c.size c.size=(K:Int)∧K<17592186044416∧K<n
theorem zav {α:Type} {l:List α} {i:Int} {x:α} (h:idx l i=some x):x∈l:=by
 obtain ⟨n,rfl,hn,rfl⟩:=idxS h;exact yk hn
theorem za9 {α:Type} {l:List α} {i:Int} (h0:0≤i) (h1:i<(l.length:Int)):∃ x,idx l i=some x:=by
 obtain ⟨n,rfl⟩:=yQ h0;exact ⟨_,za (by omega)⟩
def allR (p:Nat→Bool) (i:Nat):Nat→Bool
 | 0=>true
 | k+1=>p i&&allR p (i+1) k
theorem allR_iff {p}:∀ {k i:Nat},allR p i k=true↔∀ j,i≤j→j<i+k→p j=true
 | 0,i=>by simp [allR];omega
 | k+1,i=>by
  simp only [allR,yc,allR_iff (k:=k) (i:=i+1)];constructor
  ·rintro ⟨h1,h2⟩ j hj hk;by_cases e:j=i
   ·rw [e];exact h1
   ·exact h2 j (by omega) (by omega)
  ·intro h;exact ⟨h i (yn _) (by omega),λj hj hk=>h j (by omega) (by omega)⟩
theorem zg5 {p k}:allR p 0 k=true↔∀ j,j<k→p j=true:=by
 rw [allR_iff];simp
theorem zgj {S R:Type} {body:(S→Option R)→S→Option R} {len n:Nat} {st:Nat→S} (p:Nat→Bool) (F T:Option R)
  (hb:∀ rec i,i<len→body rec (st i)=if p i=true then rec (st (i+1)) else F) (he:∀ rec,body rec (st len)=T) (hn:len<n):loopF body n (st 0)=if allR p 0 len=true then T else F:=by
 have:=zD (body:=body) (len:=len) (st:=st) (g:=λi=>if allR p i (len - i)=true then T else F) (λrec i hi hr=>?_) (λrec=>?_) n 0 (yp _) (by omega)
 ·simpa using this
 ·rw [hb rec i hi,show len - i=(len - (i+1))+1 by omega,allR,hr];cases p i <;> simp
 ·rw [he];simp [allR]
theorem zdX {n l f p} (hf:∀ x∈l,f x=some (p x)) (hl:l.length<1000000) (hn:1000000≤n):zw n l f=some (ixP p l 0):=by
 have:=zD (body:=zw.l1 n l f) (len:=l.length) (st:=λi=>(i:Int)) (g:=λi=>some (ixP p (l.drop i) i)) (λrec i hi hr=>?_) (λrec=>?_) n 0 (yp _) (by omega)
 ·simpa [zw] using this
 ·simp only [zw.l1,zo hi,if_true,za hi,ya,hf _ (yk hi),zc (i:=i) (by omega),hr];rw [zn hi];simp only [ixP];split <;> rfl
 ·simp [zw.l1,ixP]
theorem zdr {n l f p} (hf:∀ x∈l,f x=some (p x)) (hl:l.length<1000000) (hn:1000000≤n):zJ n l f=some (l.any p):=by
 unfold zJ;rw [zdX hf hl hn,ya,ziB]
theorem zeX {n l f p} (hf:∀ x∈l,f x=some (p x)) (hl:l.length<1000000) (hn:1000000≤n):zC n l f=some (ixP p l 0):=by
 have:=zD (body:=zC.l1 n l f) (len:=l.length) (st:=λi=>(i:Int)) (g:=λi=>some (ixP p (l.drop i) i)) (λrec i hi hr=>?_) (λrec=>?_) n 0 (yp _) (by omega)
 ·simpa [zC] using this
 ·simp only [zC.l1,zo hi,if_true,za hi,ya,hf _ (yk hi),zc (i:=i) (by omega),hr];rw [zn hi];simp only [ixP];split <;> rfl
 ·simp [zC.l1,ixP]
theorem zd5 {n l f p} (hf:∀ x∈l,f x=some (p x)) (hl:l.length<1000000) (hn:1000000≤n):zI n l f=some (l.any p):=by
 unfold zI;rw [zeX hf hl hn,ya,ziB]
theorem zee {n l f p} (hf:∀ x∈l,f x=some (p x)) (hl:l.length<1000000) (hn:1000000≤n):zy n l f=some (ixP p l 0):=by
 have:=zD (body:=zy.l1 n l f) (len:=l.length) (st:=λi=>(i:Int)) (g:=λi=>some (ixP p (l.drop i) i)) (λrec i hi hr=>?_) (λrec=>?_) n 0 (yp _) (by omega)
 ·simpa [zy] using this
 ·simp only [zy.l1,zo hi,if_true,za hi,ya,hf _ (yk hi),zc (i:=i) (by omega),hr];rw [zn hi];simp only [ixP];split <;> rfl
 ·simp [zy.l1,ixP]
theorem zdO {n l f p} (hf:∀ x∈l,f x=some (p x)) (hl:l.length<1000000) (hn:1000000≤n):zar n l f=some (l.any p):=by
 unfold zar;rw [zee hf hl hn,ya,ziB]
def zaP (x most:Int):Bool:=decide (-most≤x)&&decide (x≤most)
theorem around3 {n x}:zat n x 1000=some (zaP x 1000):=rfl
theorem around9 {n x}:zat n x 1000000000=some (zaP x 1000000000):=rfl
theorem around4 {n x}:zat n x 9999=some (zaP x 9999):=rfl
theorem between3 {n x}:zac n x 1000=some (zaP x 1000):=rfl
theorem between9 {n x}:zac n x 1000000000=some (zaP x 1000000000):=rfl
theorem between4 {n x}:zac n x 9999=some (zaP x 9999):=rfl
def rowP (K:Nat):Int→List Term→Bool
 | _,[]=>true
 | last,t::l=>(decide (last<t.cell)&&decide (t.cell<(K:Int))&&(t.factor != 0)&&zaP t.factor 1000)&&rowP K t.cell l
def rowOK (K:Nat) (r:Row):Bool:=rowP K (-1) r.terms&&zaP r.bound 1000000000
theorem zfI {i:Nat} (h0:0<i) (h:i<4611686018427387904):sub64 (i:Int) 1=((i - 1:Nat):Int):=by
 unfold sub64;rw [zaj (by omega) (by omega)];omega
theorem model_row_eq {n} {j:Judge} {r} (hl:r.terms.length<1000000) (hn:1000000≤n):zaq n j r=some (rowOK j.strict.length r):=by
 have:=zbE (body:=zaq.l1 n j r) (len:=r.terms.length) (st:=λ(s:Int) i=>(s,(i:Int))) (g:=λi s=>some (rowP j.strict.length s (r.terms.drop i)&&zaP r.bound 1000000000)) (λ_ _=>True) (λrec i s hi _ hr=>?_) (λrec s _=>?_) n 0 (-1) (yp _) (by omega) trivial
 ·simpa [zaq,rowOK] using this
 ·simp only [zaq.l1,zo hi,if_true,za hi,ya,around3,yj,yy,grd,yf,zc (i:=i) (by omega),hr r.terms[i].cell trivial];rw [zn hi,rowP];by_cases h:(decide (s<r.terms[i].cell)&&decide (r.terms[i].cell<(j.strict.length:Int))&&(r.terms[i].factor != 0)&&zaP r.terms[i].factor 1000)=true
  ·rw [h,yE];simp only [yc,yd,bne_iff_ne] at h;rw [if_neg (by simp [h.2,h.1.2];omega)]
  ·rw [if_pos (by
    simp only [yc,yd,bne_iff_ne,ne_eq] at h;simp only [yz,yd,beq_iff_eq,yw,← yH];by_cases ha:zaP r.terms[i].factor 1000=true
    ·left;simp only [ha,and_true] at h;omega
    ·exact .inr ha)]
   simp only [yH] at h;rw [h];rfl
 ·simp [zaq.l1,around9,rowP]
theorem ref_row_eq {n K:Nat} {r} (hl:r.terms.length<1000000) (hn:1000000≤n):zbY n r (K:Int)=some (rowOK K r):=by
 have:=zbE (body:=zbY.l1 n r (K:Int)) (len:=r.terms.length) (st:=λ(_:Int) i=>(i:Int)) (g:=λi s=>some (rowP K s (r.terms.drop i)&&zaP r.bound 1000000000)) (λi s=>-1≤s∧((i=0∧s = -1)∨(0<i∧∃ x,idx r.terms (sub64 (i:Int) 1)=some x∧x.cell=s))) (λrec i s hi hI hr=>?_) (λrec s _=>?_) n 0 (-1) (yp _) (by omega) ⟨by omega,.inl ⟨rfl,rfl⟩⟩
 ·simpa [zbY,rowOK] using this
 ·obtain ⟨h1,h2⟩:=hI;have hprev:(decide (0<(i:Int))&&decide (r.terms[i].cell≤((idx r.terms (sub64 (i:Int) 1)).getD default).cell))=(decide (0<i)&&decide (r.terms[i].cell≤s))∧(!(decide (0<(i:Int)))||(idx r.terms (sub64 (i:Int) 1)).isSome)=true:=by
   rcases h2 with ⟨h2,h3⟩ | ⟨h2,x,h3,h4⟩
   ·subst h2;simp
   ·rw [h3];simp [h4,h2]
  simp only [zbY.l1,zo hi,if_true,za hi,ya,between3,yj,yy,grd,yf,hprev.1,hprev.2,zc (i:=i) (by omega)];rw [zn hi,rowP];by_cases h:(decide (s<r.terms[i].cell)&&decide (r.terms[i].cell<(K:Int))&&(r.terms[i].factor != 0)&&zaP r.terms[i].factor 1000)=true
  ·rw [h,yE];simp only [yc,yd,bne_iff_ne] at h;rw [if_neg (by simp [h.2,h.1.2];omega),hr r.terms[i].cell ⟨by omega,.inr ⟨by omega,r.terms[i],by
    rw [zfI (by omega) (by omega),show i+1 - 1=i by omega,za hi],rfl⟩⟩]
  ·rw [if_pos (by
    simp only [yc,yd,bne_iff_ne,ne_eq] at h;simp only [yz,yc,yd,beq_iff_eq,yw,← yH];by_cases ha:zaP r.terms[i].factor 1000=true
    ·left;simp only [ha,and_true] at h;rcases h2 with ⟨h2,h3⟩ | ⟨h2,-⟩ <;> omega
    ·exact .inr ha)]
   simp only [yH] at h;rw [h];rfl
 ·simp [zbY.l1,between9,rowP]
def zhR (sorts:List Int) (c:Constraint) (t:Table):Bool:=(t.kind==0&&((t.columns.length:Int)==2))&&(((idx t.columns 0).getD default==(idx t.columns 1).getD default)&&t.first==c.first&&((idx sorts ((idx t.columns 0).getD default)).getD default==c.size))
def zge (m:Model) (c:Constraint):Bool:=(((c.row.terms.length:Int)==0)&&(c.row.bound==0))&&m.tables.any (zhR m.sorts c)
theorem zgQ {sorts:List Int} {t:Table} (hc:t.columns.all (colOK sorts)=true) (h2:(t.columns.length:Int)=2):(∃ x,idx t.columns 0=some x)∧(∃ x,idx t.columns 1=some x)∧∃ x,idx sorts ((idx t.columns 0).getD default)=some x:=by
 obtain ⟨x,hx⟩:=za9 (l:=t.columns) (i:=0) (by omega) (by omega);obtain ⟨y,hy⟩:=za9 (l:=t.columns) (i:=1) (by omega) (by omega);refine ⟨⟨x,hx⟩,⟨y,hy⟩,?_⟩;rw [hx];exact ⟨_,zej (yo.1 hc x (zav hx))⟩
theorem graph_1_eq {n} {j:Judge} {c t} (hc:t.columns.all (colOK j.model.sorts)=true):zbe n t c j=some (zhR j.model.sorts c t):=by
 unfold zbe zhR;by_cases h2:(t.kind==0&&((t.columns.length:Int)==2))=true
 ·have h2':=h2;simp only [yc,beq_iff_eq] at h2';obtain ⟨⟨x,hx⟩,⟨y,hy⟩,z,hz⟩:=zgQ hc h2'.2;rw [hx] at hz;simp only [yf] at hz;simp [h2,hx,hy,hz,grd,Bool.and_assoc]
 ·simp only [yH] at h2;simp [h2,grd]
theorem model_graph_eq {n} {j:Judge} {c} (hc:∀ t∈j.model.tables,t.columns.all (colOK j.model.sorts)=true) (hl:j.model.tables.length<1000000) (hn:1000000≤n):zbw n j c=some (zge j.model c):=by
 unfold zbw zge;rw [zdr (p:=zhR j.model.sorts c) (λt ht=>graph_1_eq (hc t ht)) hl hn];simp [grd]
theorem ref_graph_eq {n m c} (hc:∀ t∈m.tables,t.columns.all (colOK m.sorts)=true) (hl:m.tables.length<1000000) (hn:1000000≤n):zbo n m c=some (zge m c):=by
 unfold zbo zge;by_cases h:(((c.row.terms.length:Int)==0)&&(c.row.bound==0))=true
 ·rw [h,yE];simp only [yc,beq_iff_eq] at h;rw [if_neg (by rw [h.1,h.2];decide)];have:=zD (body:=zbo.l1 n m c) (len:=m.tables.length) (st:=λi=>(i:Int)) (g:=λi=>some ((m.tables.drop i).any (zhR m.sorts c))) (λrec i hi hr=>?_) (λrec=>?_) n 0 (yp _) (by omega)
  ·simpa using this
  ·simp only [zbo.l1,zo hi,if_true,za hi,ya,zc (i:=i) (by omega),hr];rw [zn hi,List.any_cons];have hcol:=hc _ (yk hi);by_cases h2:(m.tables[i].kind==0&&((m.tables[i].columns.length:Int)==2))=true
   ·have h2':=h2;simp only [yc,beq_iff_eq] at h2';obtain ⟨⟨x,hx⟩,⟨y,hy⟩,z,hz⟩:=zgQ hcol h2'.2;rw [hx] at hz;simp only [yf] at hz;simp only [h2,hx,hy,hz,grd,yj,yy,if_true,yf,yE,zhR];cases (x==y&&m.tables[i].first==c.first&&z==c.size) <;> simp
   ·simp only [yH] at h2;simp [h2,grd,zhR]
  ·simp [zbo.l1]
 ·simp only [yH] at h;rw [h,uc,if_pos (by
   simp only [uo,ub] at h;simp only [yz,yd,bne_iff_ne];omega)]
theorem EqualTerm_eq {n a b} (hl:a.length<1000000) (hn:1000000≤n):zH n a b=some (decide (a=b)):=by
 unfold zH;by_cases h:a.length=b.length
 ·rw [if_neg (by simp [h])];have:=zD (body:=zH.l1 n a b) (len:=a.length) (st:=λi=>(i:Int)) (g:=λi=>some (decide (a.drop i=b.drop i))) (λrec i hi hr=>?_) (λrec=>?_) n 0 (yp _) (by omega)
  ·simpa using this
  ·have hib:i<b.length:=by omega
   simp only [zH.l1,zo hi,if_true,za hi,za hib,ya,zc (i:=i) (by omega),hr];rw [zn hi,zn hib];by_cases e:a[i]=b[i]
   ·simp only [e,decide_true,uf,ye,if_false,List.cons.injEq,true_and]
   ·simp only [e,decide_false,ux,if_true,List.cons.injEq,false_and]
  ·simp [zH.l1,h]
 ·rw [if_pos (by simp;omega)];have:¬ a=b:=λe=>h (by rw [e])
  simp [this]
theorem SameTerms_eq {n a b} (hl:a.length<1000000) (hn:1000000≤n):zaB n a b=some (decide (a=b)):=by
 unfold zaB;by_cases h:a.length=b.length
 ·rw [if_neg (by simp [h])];have:=zD (body:=zaB.l1 n a b) (len:=a.length) (st:=λi=>(i:Int)) (g:=λi=>some (decide (a.drop i=b.drop i))) (λrec i hi hr=>?_) (λrec=>?_) n 0 (yp _) (by omega)
  ·simpa using this
  ·have hib:i<b.length:=by omega
   simp only [zaB.l1,zo hi,if_true,za hi,za hib,ya,zc (i:=i) (by omega),hr];rw [zn hi,zn hib];by_cases e:a[i]=b[i]
   ·simp only [e,decide_true,uf,ye,if_false,List.cons.injEq,true_and]
   ·simp only [e,decide_false,ux,if_true,List.cons.injEq,false_and]
  ·simp [zaB.l1,h]
 ·rw [if_pos (by simp;omega)];have:¬ a=b:=λe=>h (by rw [e])
  simp [this]
theorem single_eq {n r c f b} (hl:r.terms.length<1000000) (hn:1000000≤n):zc1 n r c f b=some (decide (r=(⟨[⟨c,f⟩],b⟩:Row))):=by
 unfold zc1;rw [EqualTerm_eq hl hn,ya];congr 1;rw [Bool.eq_iff_iff];cases r;simp
theorem SameRow_eq {n a b} (hl:a.terms.length<1000000) (hn:1000000≤n):zb9 n a b=some (decide (a=b)):=by
 unfold zb9;rw [SameTerms_eq hl hn];simp only [yj,yy,grd,if_true,yf];congr 1;rw [Bool.eq_iff_iff];cases a;cases b;simp [and_comm]
structure SmallM (m:Model):Prop where
 sorts:m.sorts.length≤8
 tables:m.tables.length≤6
 tab:∀ t∈m.tables,t.name.length≤40∧t.columns.length≤12
 families:m.families.length≤20
 fam:∀ s∈m.families,s.length≤40
 constraints:m.constraints.length≤60
 con:∀ c∈m.constraints,c.row.terms.length≤20
 operations:m.operations.length≤8
 op:∀ o∈m.operations,o.name.length≤40∧o.sorts.length≤6
 actions:m.actions.length≤30
 act:∀ a∈m.actions,a.arguments.length≤6∧a.effect.delta.length≤20∧a.effect.hold.length≤10∧a.effect.updates.length≤40∧∀ r∈a.effect.hold,r.terms.length≤20
 hides:m.hides.length≤12
def zcS (l:List Range) (i:Nat):Row:=⟨[⟨((i / 2:Nat):Int),if i % 2=0 then -1 else 1⟩],if i % 2=0 then neg64 ((idx l ((i / 2:Nat):Int)).getD default).lo else ((idx l ((i / 2:Nat):Int)).getD default).hi⟩
def famP (m:Model) (c:Constraint):Bool:=decide (0≤c.family)&&decide (c.family<(m.families.length:Int))
def zd3 (K:Nat) (c:Constraint):Bool:=(((c.kind==0)&&(c.first==0))&&(c.size==0))&&rowOK K c.row
def acyP (m:Model) (c:Constraint):Bool:=c.kind==1&&zge m c
def conP (m:Model) (l:List Range) (i:Nat) (c:Constraint):Bool:=famP m c&&(zd3 l.length c||acyP m c)&&(!decide (i / 2<l.length)||(c.kind==0&&decide (c.row=zcS l i)))
def consP (m:Model) (l:List Range):Bool:=decide (m.constraints.length≤512)&&decide (2*l.length≤m.constraints.length)&&allR (λi=>conP m l i ((idx m.constraints (i:Int)).getD default)) 0 m.constraints.length
theorem quo2 {i:Nat} (h:i<1000000):quo64 (i:Int) 2=some ((i / 2:Nat):Int):=by
 unfold quo64;rw [if_neg (by decide),Int.tdiv_eq_ediv_of_nonneg (by omega),zaj (by omega) (by omega)];congr 1
theorem rem2 {i:Nat}:rem64 (i:Int) 2=some ((i % 2:Nat):Int):=by
 unfold rem64;rw [if_neg (by decide),Int.tmod_eq_emod_of_nonneg (by omega)];congr 1
theorem mul2 {i:Nat} (h:i<1000000):mul64 2 (i:Int)=((2*i:Nat):Int):=by
 unfold mul64;rw [zaj (by omega) (by omega)];omega
theorem zgX {n:Nat} {m} {l:List Range} (hS:SmallM m) (hc:∀ t∈m.tables,t.columns.all (colOK m.sorts)=true) (hK:l.length<100000) (hn:1000000≤n):zU n ⟨m,l⟩=some (consP m l):=by
 have hcl:=hS.constraints;have htl:=hS.tables;unfold zU consP;simp only [mul2 (show l.length<1000000 by omega)];by_cases h0:(decide (m.constraints.length≤512)&&decide (2*l.length≤m.constraints.length))=true
 ·rw [h0,yE];simp only [yc,yd] at h0;rw [if_neg (by simp;omega)];have:=zgj (body:=zU.l1 n ⟨m,l⟩) (len:=m.constraints.length) (n:=n) (st:=λi=>(i:Int)) (λi=>conP m l i ((idx m.constraints (i:Int)).getD default)) (some false) (some true) (λrec i hi=>?_) (λrec=>?_) (by omega)
  ·simp only [Int.natCast_zero] at this;rw [this];cases allR (λi=>conP m l i ((idx m.constraints (i:Int)).getD default)) 0 m.constraints.length <;> rfl
  ·have hterms:=hS.con _ (yk hi);simp only [zU.l1,jn,zo hi,if_true,za hi,ya,zah,yf,model_row_eq (j:=⟨m,l⟩) (r:=m.constraints[i].row) (show m.constraints[i].row.terms.length<1000000 by omega) hn,model_graph_eq (j:=⟨m,l⟩) (c:=m.constraints[i]) hc (show m.tables.length<1000000 by omega) hn,yj,yy,grd,quo2 (show i<1000000 by omega),rem2,single_eq (r:=m.constraints[i].row) (show m.constraints[i].row.terms.length<1000000 by omega) hn,zc (i:=i) (by omega)];have hfam:(decide (0≤m.constraints[i].family)&&decide (m.constraints[i].family<(m.families.length:Int)))=famP m m.constraints[i]:=rfl;rw [hfam];cases hf:famP m m.constraints[i] with
   | false=>simp [conP,hf]
   | true=>
    simp only [uf,ye,if_false];have hrest:∀ (X:Bool),X=(zd3 l.length m.constraints[i]||acyP m m.constraints[i]) →
      (if X=true then (if decide (((i / 2:Nat):Int)<(l.length:Int))=true then (idx l ((i / 2:Nat):Int)).bind λx81=>(if (((i % 2:Nat):Int)==0)=true then (if (m.constraints[i].kind != 0||!decide (m.constraints[i].row=(⟨[⟨((i / 2:Nat):Int),-1⟩],neg64 x81.lo⟩:Row)))=true then some false else rec ((i+1:Nat):Int)) else (if (m.constraints[i].kind != 0||!decide (m.constraints[i].row=(⟨[⟨((i / 2:Nat):Int),1⟩],x81.hi⟩:Row)))=true then some false else rec ((i+1:Nat):Int))) else rec ((i+1:Nat):Int)) else some false)=if conP m l i m.constraints[i]=true then rec ((i+1:Nat):Int) else some false:=by
     intro X hX;unfold conP;rw [hf,← hX];cases X with
     | false=>simp
     | true=>
      simp only [if_true,yE];by_cases hlt:i / 2<l.length
      ·rw [if_pos (zgl hlt),za hlt,ya];simp only [hlt,decide_true,uf,ut,zcS,za hlt,yf];by_cases hm:i % 2=0
       ·rw [if_pos (by simp [hm])];simp only [hm,if_true];cases hkk:(m.constraints[i].kind==0) <;> simp [bne,hkk]
       ·rw [if_neg (by simp;omega)];simp only [hm,if_false];cases hkk:(m.constraints[i].kind==0) <;> simp [bne,hkk]
      ·rw [if_neg (by rw [zei (by omega)];simp)];simp [hlt]
    by_cases hk:m.constraints[i].kind=0
    ·rw [if_pos (by simp [hk])];have hX:(zd3 l.length m.constraints[i]||acyP m m.constraints[i])=((m.constraints[i].first==0&&m.constraints[i].size==0)&&rowOK l.length m.constraints[i].row):=by
      simp [zd3,acyP,hk]
     rw [← hrest _ hX.symm];cases h1:(m.constraints[i].first==0) <;> cases h2:(m.constraints[i].size==0) <;> cases h3:rowOK l.length m.constraints[i].row <;> simp [bne,h1,h2]
    ·rw [if_neg (by simp [hk])];have hX:(zd3 l.length m.constraints[i]||acyP m m.constraints[i])=(m.constraints[i].kind==1&&zge m m.constraints[i]):=by
      simp [zd3,acyP,hk]
     rw [← hrest _ hX.symm];cases h1:(m.constraints[i].kind==1) <;> cases h3:zge m m.constraints[i] <;> simp [bne,h1]
  ·simp [zU.l1]
 ·rw [if_pos (by
   simp only [yc,yd] at h0;simp only [yz,yd];omega)]
  simp only [yH] at h0;rw [h0,uc]
theorem consP_ref {m l} (h2:2*l.length≤m.constraints.length) :
  allR (λi=>conP m l i ((idx m.constraints (i:Int)).getD default)) 0 m.constraints.length=(allR (λi=>decide (((idx m.constraints ((2*i:Nat):Int)).getD default).row=zcS l (2*i))&&decide (((idx m.constraints ((2*i+1:Nat):Int)).getD default).row=zcS l (2*i+1))) 0 l.length
   && allR (λi=>famP m ((idx m.constraints (i:Int)).getD default)&&(zd3 l.length ((idx m.constraints (i:Int)).getD default)||(decide (2*l.length≤i)&&acyP m ((idx m.constraints (i:Int)).getD default)))) 0 m.constraints.length):=by
 rw [Bool.eq_iff_iff,yc,zg5,zg5,zg5];constructor
 ·intro h;refine ⟨λj hj=>?_,λi hi=>?_⟩
  ·have ha:=h (2*j) (by omega);have hb:=h (2*j+1) (by omega);simp only [conP,yc,yz,yw,yF,yd] at ha hb ⊢;rcases ha.2 with e | e
   ·omega
   rcases hb.2 with f | f
   ·omega
   exact ⟨e.2,f.2⟩
  ·have ha:=h i hi;simp only [conP,yc,yz,yw,yF,yd] at ha ⊢;refine ⟨ha.1.1,?_⟩;rcases ha.1.2 with e | e
   ·exact .inl e
   ·refine .inr ⟨?_,e⟩;rcases ha.2 with f | f
    ·omega
    ·simp only [acyP,yc,beq_iff_eq] at e;have:=f.1;simp only [beq_iff_eq] at this;omega
 ·rintro ⟨ha,hb⟩ i hi;have hb:=hb i hi;simp only [conP,yc,yz,yw,yF,yd] at hb ⊢;refine ⟨⟨hb.1,hb.2.imp id (·.2)⟩,?_⟩;by_cases hlt:i / 2<l.length
  ·right;have ha:=ha (i / 2) hlt;simp only [yc,yd] at ha;rcases hb.2 with e | e
   ·refine ⟨?_,?_⟩
    ·simp only [zd3,yc] at e;exact e.1.1.1
    ·by_cases hm:i % 2=0
     ·have:=ha.1
      rwa [show 2*(i / 2)=i by omega] at this
     ·have:=ha.2
      rwa [show 2*(i / 2)+1=i by omega] at this
   ·omega
  ·exact .inl hlt
theorem zgZ {n:Nat} {m} (hS:SmallM m) (hL:zaf m.sorts m.tables=true) (hn:1000000≤n):zL n m=some (consP m (zQ m.sorts true m.tables)):=by
 have hcl:=hS.constraints;have htl:=hS.tables;have hsl:=hS.sorts;obtain ⟨l1,l2,l3,l4⟩:=zag hL;have hlen:=zct (sizes:=m.sorts) (s:=true) (l:=m.tables) λx hx=>(l4 x hx).2.2.2.2
 unfold zL zb5 consP;rw [zeu hn (by omega) (by omega) (λt ht=>by have:=hS.tab t ht;omega),hL,if_pos rfl];generalize zQ m.sorts true m.tables=l at hlen;simp only [ya,mul2 (show l.length<1000000 by omega)];by_cases h0:(decide (m.constraints.length≤512)&&decide (2*l.length≤m.constraints.length))=true
 ·rw [h0,yE];simp only [yc,yd] at h0;rw [if_neg (by simp;omega),consP_ref h0.2];have first:=zgj (body:=zL.l1 n m l) (len:=l.length) (n:=n) (st:=λi=>(i:Int)) (λi=>decide (((idx m.constraints ((2*i:Nat):Int)).getD default).row=zcS l (2*i))&&decide (((idx m.constraints ((2*i+1:Nat):Int)).getD default).row=zcS l (2*i+1))) (some false) (loopF (zL.l2 n m l) n 0) (λrec i hi=>?_) (λrec=>?_) (by omega)
  ·simp only [Int.natCast_zero] at first
   rw [first];have second:=zgj (body:=zL.l2 n m l) (len:=m.constraints.length) (n:=n) (st:=λi=>(i:Int)) (λi=>famP m ((idx m.constraints (i:Int)).getD default)&&(zd3 l.length ((idx m.constraints (i:Int)).getD default)||(decide (2*l.length≤i)&&acyP m ((idx m.constraints (i:Int)).getD default)))) (some false) (some true) (λrec i hi=>?_) (λrec=>?_) (by omega)
   ·simp only [Int.natCast_zero] at second;rw [second];cases allR (λi=>decide (((idx m.constraints ((2*i:Nat):Int)).getD default).row=zcS l (2*i))&&decide (((idx m.constraints ((2*i+1:Nat):Int)).getD default).row=zcS l (2*i+1))) 0 l.length <;> cases allR (λi=>famP m ((idx m.constraints (i:Int)).getD default)&&(zd3 l.length ((idx m.constraints (i:Int)).getD default)||(decide (2*l.length≤i)&&acyP m ((idx m.constraints (i:Int)).getD default)))) 0 m.constraints.length <;> rfl
   ·have hterms:=hS.con _ (yk hi);have hd:decide (mul64 2 (l.length:Int)≤(i:Int))=decide (2*l.length≤i):=by rw [mul2 (by omega)];exact decide_eq_decide.2 (by omega)
    simp only [zL.l2,zo hi,if_true,za hi,ya,yf,ref_row_eq (r:=m.constraints[i].row) (show m.constraints[i].row.terms.length<1000000 by omega) hn,ref_graph_eq (m:=m) (c:=m.constraints[i]) (λt ht=>(l4 t ht).2.2.2.1) (show m.tables.length<1000000 by omega) hn,yj,yy,grd,zc (i:=i) (by omega),hd];have hfam:(decide (m.constraints[i].family<0)||decide ((m.families.length:Int)≤m.constraints[i].family)) = !famP m m.constraints[i]:=by
     unfold famP;rw [Bool.not_and,← decide_not,← decide_not];congr 1
     ·exact decide_eq_decide.2 (by omega)
     ·exact decide_eq_decide.2 (by omega)
    rw [hfam];cases famP m m.constraints[i] with
    | false=>simp
    | true=>
     have hp:((((m.constraints[i].kind==0)&&(m.constraints[i].first==0))&&(m.constraints[i].size==0))&&rowOK l.length m.constraints[i].row)=zd3 l.length m.constraints[i]:=rfl;rw [hp];unfold acyP;cases zd3 l.length m.constraints[i] <;> cases decide (2*l.length≤i) <;> cases (m.constraints[i].kind==1) <;> cases zge m m.constraints[i] <;> simp
   ·simp [zL.l2]
  ·have h2i:2*i<m.constraints.length:=by omega
   have h2j:2*i+1<m.constraints.length:=by omega
   have t1:=hS.con _ (yk h2i);have t2:=hS.con _ (yk h2j);have e1:zcS l (2*i)=⟨[⟨(i:Int),-1⟩],neg64 l[i].lo⟩:=by
    unfold zcS;rw [show 2*i / 2=i by omega,if_pos (by omega),if_pos (by omega),za hi];rfl
   have e2:zcS l (2*i+1)=⟨[⟨(i:Int),1⟩],l[i].hi⟩:=by
    unfold zcS;rw [show (2*i+1) / 2=i by omega,if_neg (by omega),if_neg (by omega),za hi];rfl
   have hadd:add64 ((2*i:Nat):Int) 1=((2*i+1:Nat):Int):=zc (by omega);simp only [zL.l1,zo hi,if_true,za hi,mul2 (show i<1000000 by omega),za h2i,hadd,za h2j,ya,yf,SameRow_eq (show m.constraints[2*i].row.terms.length<1000000 by omega) hn,SameRow_eq (show m.constraints[2*i+1].row.terms.length<1000000 by omega) hn,yj,yy,grd,zc (i:=i) (by omega),e1,e2];cases decide (m.constraints[2*i].row=⟨[⟨(i:Int),-1⟩],neg64 l[i].lo⟩) <;> cases decide (m.constraints[2*i+1].row=⟨[⟨(i:Int),1⟩],l[i].hi⟩) <;> simp
  ·simp [zL.l1]
 ·rw [if_pos (by
   simp only [yc,yd] at h0;simp only [yz,yd];omega)]
  simp only [yH] at h0;rw [h0,uc]
theorem zay {α S R:Type} {body:(S→Option R)→S→Option R} {l:List α} {n:Nat} {st:Nat→S} (p:α→Bool) (F T:Option R)
  (hb:∀ rec i (hi:i<l.length),body rec (st i)=if p l[i]=true then rec (st (i+1)) else F) (he:∀ rec,body rec (st l.length)=T) (hn:l.length<n):loopF body n (st 0)=if l.all p=true then T else F:=by
 have:=zD (body:=body) (len:=l.length) (st:=st) (g:=λi=>if (l.drop i).all p=true then T else F) (λrec i hi hr=>?_) (λrec=>?_) n 0 (yp _) (by omega)
 ·simpa using this
 ·rw [hb rec i hi,zn hi,um,hr];cases p l[i] <;> simp
 ·rw [he];simp
def zcz (sizes:List Int) (c:Int):Int:=sizes.getD c.toNat 0
def digR (sizes:List Int):List Int→Int→List Int
 | [],_=>[]
 | c::l,k=>k.tmod (zcz sizes c)::digR sizes l (w64 (k.tdiv (zcz sizes c)))
def tupleP (sizes cols:List Int) (k:Int):List Int:=(digR sizes cols.reverse k).reverse
theorem zik {sizes:List Int} (hs:sizes.all zbn=true) {c:Int} (hc:colOK sizes c=true):1≤zcz sizes c∧zcz sizes c≤6:=by
 simp only [colOK,yc,yd] at hc;obtain ⟨k,rfl⟩:=yQ hc.1;have hk:k<sizes.length:=by omega
 have hz:=yo.1 hs _ (yk hk);simp only [zbn,yc,yd] at hz;have hg:zcz sizes (k:Int)=sizes[k]:=by simp [zcz,List.getD,hk]
 rw [hg];exact hz
theorem sto_mid {r:Nat} {done:List Int} {x:Int}:sto (List.replicate (r+1) 0++done) (r:Int) x=some (List.replicate r 0++x::done):=by
 unfold sto;rw [if_pos (by simp;omega)];simp only [yq,yh];rw [List.replicate_succ',yB,List.set_append_right _ _ (by simp)];simp
theorem idx_mid {r:Nat} {done:List Int}:∃ x,idx (List.replicate (r+1) 0++done) (r:Int)=some x:=⟨_,za (by simp;omega)⟩
theorem take_rev {α:Type} {l:List α} {r:Nat} (h:r<l.length):(l.take (r+1)).reverse=l[r]::(l.take r).reverse:=by
 rw [yr h];simp
theorem cells_digits {n:Nat} {sizes:List Int} {t:Table} {i:Int} (hs:sizes.all zbn=true) (hc:t.columns.all (colOK sizes)=true) (hl:t.columns.length<1000000):∀ (m r:Nat) (done:List Int) (k:Int),r<m→r≤t.columns.length →
  loopF (zaZ.l2 n sizes i t) m (List.replicate r 0++done,k,(r:Int) - 1)=some (i,(digR sizes (t.columns.take r).reverse k).reverse++done,true)
 | 0,_,_,_,h,_=>by omega
 | m+1,0,done,k,_,_=>by simp [loopF,zaZ.l2,digR]
 | m+1,r+1,done,k,h,hr=>by
  have hrl:r<t.columns.length:=by omega
  have hcol:=yo.1 hc _ (yk hrl);have hsz:=zik hs hcol;have e:(((r+1:Nat):Int)) - 1=(r:Int):=by omega
  obtain ⟨x,hx⟩:=idx_mid (r:=r) (done:=done);have hrem:rem64 k (zcz sizes t.columns[r])=some (k.tmod (zcz sizes t.columns[r])):=by unfold rem64;rw [if_neg (by omega)]
  have hquo:quo64 k (zcz sizes t.columns[r])=some (w64 (k.tdiv (zcz sizes t.columns[r]))):=by unfold quo64;rw [if_neg (by omega)]
  have hcs:=zej hcol;have hsub:sub64 (r:Int) 1=(r:Int) - 1:=by unfold sub64;rw [zaj (by omega) (by omega)]
  have hd:decide (0≤(r:Int))=true:=by simp
  unfold zcz at hrem hquo;simp only [loopF,zaZ.l2,e,hd,if_true,za hrl,hcs,hrem,hquo,hx,sto_mid,ya,hsub];rw [cells_digits hs hc hl m r _ _ (by omega) (by omega),take_rev hrl];simp only [digR,zcz,List.reverse_cons,yB,List.singleton_append]
theorem ref_digits {n:Nat} {sizes cols:List Int} (hs:sizes.all zbn=true) (hc:cols.all (colOK sizes)=true) (hl:cols.length<1000000):∀ (m r:Nat) (done:List Int) (k:Int),r<m→r≤cols.length →
  loopF (zde.l1 n sizes cols) m (List.replicate r 0++done,k,(r:Int) - 1)=some ((digR sizes (cols.take r).reverse k).reverse++done)
 | 0,_,_,_,h,_=>by omega
 | m+1,0,done,k,_,_=>by simp [loopF,zde.l1,digR]
 | m+1,r+1,done,k,h,hr=>by
  have hrl:r<cols.length:=by omega
  have hcol:=yo.1 hc _ (yk hrl);have hsz:=zik hs hcol;have e:(((r+1:Nat):Int)) - 1=(r:Int):=by omega
  obtain ⟨x,hx⟩:=idx_mid (r:=r) (done:=done);have hrem:rem64 k (zcz sizes cols[r])=some (k.tmod (zcz sizes cols[r])):=by unfold rem64;rw [if_neg (by omega)]
  have hquo:quo64 k (zcz sizes cols[r])=some (w64 (k.tdiv (zcz sizes cols[r]))):=by unfold quo64;rw [if_neg (by omega)]
  have hcs:=zej hcol;have hsub:sub64 (r:Int) 1=(r:Int) - 1:=by unfold sub64;rw [zaj (by omega) (by omega)]
  have hd:decide (0≤(r:Int))=true:=by simp
  unfold zcz at hrem hquo;simp only [loopF,zde.l1,e,hd,if_true,za hrl,hcs,hrem,hquo,hx,sto_mid,ya,hsub];rw [ref_digits hs hc hl m r _ _ (by omega) (by omega),take_rev hrl];simp only [digR,zcz,List.reverse_cons,yB,List.singleton_append]
theorem mkl_0 {b k:Nat} (h:k*b≤140737488355328):mkl b (k:Int) (0:Int)=some (List.replicate k 0):=by
 have e:((k*b:Nat):Int)=(k:Int)*(b:Int):=y0 k b;unfold mkl;rw [if_pos ⟨by omega,by omega⟩];simp
theorem sub64_len {k:Nat} (h:k<1000000):sub64 (k:Int) 1=(k:Int) - 1:=by
 unfold sub64;rw [zaj (by omega) (by omega)]
theorem ref09_nth_eq {n:Nat} {sizes cols:List Int} {k:Int} (hs:sizes.all zbn=true) (hc:cols.all (colOK sizes)=true) (hl:cols.length≤1000) (hn:1000000≤n):zde n sizes cols k=some (tupleP sizes cols k):=by
 unfold zde;rw [mkl_0 (by omega),ya,sub64_len (by omega)];have:=ref_digits (n:=n) hs hc (by omega) n cols.length [] k (by omega) (yn _);simpa [tupleP] using this
def hitP (sizes:List Int) (s:Bool) (cell:Int) (t:Table):Bool:=(zaE t.kind==s)&&(decide (0≤sub64 cell t.first)&&decide (sub64 cell t.first<zY sizes t.columns 1))
def resT (sizes:List Int) (s:Bool) (cell:Int):List Table→Nat→Int×List Int×Bool
 | [],_=>(0,[],false)
 | t::l,i=>if hitP sizes s cell t=true then ((i:Int),tupleP sizes t.columns (sub64 cell t.first),true) else resT sizes s cell l (i+1)
def cellP (sizes:List Int) (tables:List Table) (s:Bool) (cell:Int):Int×List Int×Bool:=if (zaf sizes tables&&decide (0≤cell))=true then resT sizes s cell tables 0 else (0,[],false)
theorem cells_Tuple_eq {n:Nat} {sizes:List Int} {tables:List Table} {s:Bool} {cell:Int} (hF:Fuel n) (hs:sizes.length≤1000) (ht:tables.length≤1000) (hc:∀ t∈tables,t.columns.length≤1000):zaZ n sizes tables s cell=some (cellP sizes tables s cell):=by
 have hn:=hF.big;unfold zaZ cellP;rw [zeY hF hs ht hc,ya];cases hL:zaf sizes tables with
 | false=>simp
 | true=>
  obtain ⟨l1,l2,l3,l4⟩:=zag hL;by_cases h0:0≤cell
  ·rw [if_neg (by simp;omega),if_pos (by simp [h0])];have:=zD (body:=zaZ.l1 n sizes tables s cell) (len:=tables.length) (st:=λi=>(i:Int)) (g:=λi=>some (resT sizes s cell (tables.drop i) i)) (λrec i hi hr=>?_) (λrec=>?_) n 0 (yp _) (by omega)
   ·simpa using this
   ·obtain ⟨-,-,c1,c2,c3,c4⟩:=l4 _ (yk hi);simp only [zaZ.l1,zo hi,if_true,za hi,ya,zbO,ze0 c2 (show tables[i].columns.length<4611686018427387904 by omega) (show tables[i].columns.length<n by omega),yj,yy,grd,yf,zc (i:=i) (by omega),hr,mkl_0 (b:=8) (k:=tables[i].columns.length) (by omega),uk,sub64_len (show tables[i].columns.length<1000000 by omega)];have hdig:=cells_digits (n:=n) (i:=(i:Int)) l3 c2 (by omega) n tables[i].columns.length [] (sub64 cell tables[i].first) (by omega) (yn _);simp only [ur,List.take_length] at hdig;rw [hdig,zn hi,resT];have hh:(((tables[i].kind==0||tables[i].kind==1) != s||decide (sub64 cell tables[i].first<0))||decide (zY sizes tables[i].columns 1≤sub64 cell tables[i].first)) = !hitP sizes s cell tables[i]:=by
     unfold hitP zaE;rw [Bool.not_and,Bool.not_and,← decide_not,← decide_not,Bool.or_assoc];congr 1;congr 1
     ·exact decide_eq_decide.2 (by omega)
     ·exact decide_eq_decide.2 (by omega)
    rw [hh];cases hitP sizes s cell tables[i] <;> simp [tupleP]
   ·simp [zaZ.l1,resT]
  ·rw [if_pos (by simp;omega),if_neg (by simp;omega)]
theorem ref09_Tuple_eq {n:Nat} {sizes:List Int} {tables:List Table} {s:Bool} {cell:Int} (hn:1000000≤n) (hs:sizes.length≤1000) (ht:tables.length≤1000) (hc:∀ t∈tables,t.columns.length≤1000∧t.name.length≤4096):zb8 n sizes tables s cell=some (cellP sizes tables s cell):=by
 unfold zb8 cellP;rw [ze3 hn hs ht hc,ya];cases hL:zaf sizes tables with
 | false=>simp
 | true=>
  obtain ⟨l1,l2,l3,l4⟩:=zag hL;rw [if_neg (by simp)];have:=zD (body:=zb8.l1 n sizes tables s cell) (len:=tables.length) (st:=λi=>(i:Int)) (g:=λi=>some (if decide (0≤cell)=true then resT sizes s cell (tables.drop i) i else (0,[],false))) (λrec i hi hr=>?_) (λrec=>?_) n 0 (yp _) (by omega)
  ·simpa using this
  ·obtain ⟨-,-,c1,c2,c3,c4⟩:=l4 _ (yk hi);have hnum:=zev (n:=n) (sizes:=sizes) (cols:=tables[i].columns) (by omega) (by omega) (by omega) (by omega);simp only [l3,c2,c1,decide_true,uD,if_true] at hnum;simp only [zb8.l1,zo hi,if_true,za hi,ya,zbL,hnum,yj,yy,grd,yf,zc (i:=i) (by omega),hr,ref09_nth_eq l3 c2 (show tables[i].columns.length≤1000 by omega) hn];rw [zn hi,resT];unfold hitP zaE;cases decide (0≤cell) with
   | false=>simp
   | true=>
    simp only [if_true,uD];by_cases h1:((tables[i].kind==0||tables[i].kind==1)==s&&decide (0≤sub64 cell tables[i].first)&&decide (sub64 cell tables[i].first<zY sizes tables[i].columns 1))=true
    ·rw [if_pos h1,if_pos (by rw [← Bool.and_assoc];exact h1)]
    ·rw [if_neg h1,if_neg (by rw [← Bool.and_assoc];exact h1)]
  ·simp [zb8.l1,resT]
theorem resT_lt {sizes:List Int} {s:Bool} {cell:Int}:∀ (l:List Table) (i:Nat),(resT sizes s cell l i).2.2=true→∃ k:Nat,(resT sizes s cell l i).1=(k:Int)∧i≤k∧k<i+l.length
 | [],_,h=>by simp [resT] at h
 | t::l,i,h=>by
  rw [resT] at h ⊢;split at h
  ·rename_i hh;rw [if_pos hh];exact ⟨i,rfl,yn _,by simp⟩
  ·rename_i hh;rw [if_neg hh];obtain ⟨k,e,k1,k2⟩:=resT_lt l (i+1) h;exact ⟨k,e,by omega,by simp only [yJ];omega⟩
theorem cellP_idx {sizes:List Int} {tables:List Table} {s:Bool} {cell:Int} (h:(cellP sizes tables s cell).2.2=true):∃ t,idx tables (cellP sizes tables s cell).1=some t:=by
 unfold cellP at h ⊢;split at h
 ·rename_i hh;rw [if_pos hh];obtain ⟨k,e,-,k2⟩:=resT_lt tables 0 h;rw [e];exact ⟨_,za (by omega)⟩
 ·simp at h
theorem cellP_neg {sizes:List Int} {tables:List Table} {s:Bool} {cell:Int} (h:cell<0):(cellP sizes tables s cell).2.2=false:=by
 unfold cellP;rw [if_neg (by simp;omega)]
def updT (t:Table) (u:Update):Bool:=if (t.kind==2||t.kind==3)=true then ((u.kind==0)||(u.kind==1))&&(u.value==0) else ((u.kind==2)&&decide (t.range.lo≤u.value))&&decide (u.value≤t.range.hi)
def updP (m:Model) (u:Update):Bool:=(cellP m.sorts m.tables false u.cell).2.2&&updT ((idx m.tables (cellP m.sorts m.tables false u.cell).1).getD default) u
def updsP (m:Model):Int→List Update→Bool
 | _,[]=>true
 | last,u::l=>(decide (last<u.cell)&&updP m u)&&updsP m u.cell l
theorem model_update_eq {n:Nat} {m:Model} {l:List Range} {u:Update} (hF:Fuel n) (hS:SmallM m):zbm n ⟨m,l⟩ u=some (updP m u):=by
 unfold zbm updP;have hs:=hS.sorts;have ht:=hS.tables;simp only [];rw [cells_Tuple_eq hF (by omega) (by omega) (λt h=>by have:=hS.tab t h;omega),ya];cases hok:(cellP m.sorts m.tables false u.cell).2.2 with
 | false=>simp
 | true=>
  obtain ⟨t,ht⟩:=cellP_idx hok;simp only [ht,uf,ye,if_false,ya,yf,yE,jn,updT];by_cases h2:t.kind=2
  ·simp [h2]
  ·by_cases h3:t.kind=3
   ·simp [h3]
   ·simp [h2,h3]
def opP (m:Model) (o:Operation):Bool:=decide (o.sorts.length≤3)&&o.sorts.all λs=>decide (-1≤s)&&decide (s<(m.sorts.length:Int))
def opsP (m:Model):Bool:=m.operations.all (opP m)&&(decide (m.operations.length≤8)&&distP [] (m.operations.map (·.name)))
theorem zd7 {α β:Type} {f:α→β} {l:List α} {i:Nat} (hi:i<l.length):(l.take i).map f++[f l[i]]=(l.take (i+1)).map f:=by
 rw [yr hi,ul];rfl
theorem zhw {n:Nat} {m:Model} {l:List Range} (hF:Fuel n) (hS:SmallM m):zA n ⟨m,l⟩=some (opsP m):=by
 have hn:=hF.big;have hol:=hS.operations;unfold zA opsP;have:=zay (body:=zA.l1 n ⟨m,l⟩) (l:=m.operations) (n:=n) (st:=λi=>((m.operations.take i).map (·.name),(i:Int))) (opP m) (some false) (some (decide (m.operations.length≤8)&&distP [] (m.operations.map (·.name)))) (λrec i hi=>?_) (λrec=>?_) (by omega)
 ·simp only [List.take_zero,List.map_nil,Int.natCast_zero] at this;rw [this];cases m.operations.all (opP m) <;> rfl
 ·have hop:=hS.op _ (yk hi);simp only [zA.l1,zo hi,if_true,za hi,ya];rw [zW (by simp;omega),ya,zbQ (p:=λs=>!(decide (-1≤s)&&decide (s<(m.sorts.length:Int)))) (λx _=>by
   simp only [zaT,yh,Bool.not_and,← decide_not];congr 1
   ·exact decide_eq_decide.2 (by omega)
   ·exact decide_eq_decide.2 (by omega)) (by omega) (by omega)]
  simp only [yj,yy,grd,if_true,yf,zc (i:=i) (by omega),zd7 hi];have h3:decide (3<(m.operations[i].sorts.length:Int)) = !decide (m.operations[i].sorts.length≤3):=by rw [← decide_not];exact decide_eq_decide.2 (by omega)
  rw [h3,← Bool.not_not (m.operations[i].sorts.any _),zit,← Bool.not_and];unfold opP;cases (decide (m.operations[i].sorts.length≤3)&&m.operations[i].sorts.all λs=>decide (-1≤s)&&decide (s<(m.sorts.length:Int))) <;> rfl
 ·simp only [zA.l1,zap,ye,if_false,List.take_length];rw [zfd hF (by simp;omega)];simp only [yj,yy,grd,if_true,yf,yS,yh];congr 1;exact decide_eq_decide.2 (by omega)
def zg8 (K:Nat):Int→List Change→Bool
 | _,[]=>true
 | last,d::l=>(decide (last<d.cell)&&decide (d.cell<(K:Int))&&(d.add != 0)&&zaP d.add 1000000000)&&zg8 K d.cell l
def effP (m:Model) (K:Nat) (x:Effect):Bool:=zg8 K (-1) x.delta&&(updsP m (-1) x.updates&&(decide (x.hold.length≤8)&&decide (x.updates.length≤32)&&x.hold.all (rowOK K)))
theorem model_effect_eq {n m l x} (hF:Fuel n) (hS:SmallM m) (h1:x.delta.length≤1000) (h2:x.updates.length≤1000) (h3:x.hold.length≤1000) (h4:∀ r∈x.hold,r.terms.length≤1000):zG n ⟨m,l⟩ x=some (effP m l.length x):=by
 have hn:=hF.big;have T:loopF (zG.l2 n ⟨m,l⟩ x) n (-1,0)=some (updsP m (-1) x.updates&&(decide (x.hold.length≤8)&&decide (x.updates.length≤32)&&x.hold.all (rowOK l.length))):=by
  have:=zbE (body:=zG.l2 n ⟨m,l⟩ x) (len:=x.updates.length) (st:=λ(s:Int) i=>(s,(i:Int))) (g:=λi s=>some (updsP m s (x.updates.drop i)&&(decide (x.hold.length≤8)&&decide (x.updates.length≤32)&&x.hold.all (rowOK l.length)))) (λ_ _=>True) (λrec i s hi _ hr=>?_) (λrec s _=>?_) n 0 (-1) (yp _) (by omega) trivial
  ·simpa using this
  ·simp only [zG.l2,zo hi,if_true,za hi,ya,model_update_eq hF hS,yj,yy,grd,yf,zc (i:=i) (by omega),hr x.updates[i].cell trivial];rw [zn hi,updsP];by_cases hlt:s<x.updates[i].cell
   ·have hd:decide (x.updates[i].cell≤s)=false:=by simp;omega
    rw [hd];cases updP m x.updates[i] <;> simp [hlt]
   ·have hd:decide (x.updates[i].cell≤s)=true:=by simp;omega
    rw [hd];simp [hlt]
  ·have hc:zI n x.hold (λq0=>za4 n q0 ⟨m,l⟩)=some (x.hold.any λr=>!rowOK l.length r):=zd5 (λr hr=>by
    unfold za4;rw [model_row_eq (by have:=h4 r hr;omega) (by omega)];rfl) (by omega) (by omega)
   simp only [zG.l2,zap,ye,if_false,hc,yj,yy,grd,if_true,yf,zit,List.drop_length,updsP,yE,yh];congr 2
   ·exact decide_eq_decide.2 (by omega)
   ·exact decide_eq_decide.2 (by omega)
 have:=zbE (body:=zG.l1 n ⟨m,l⟩ x) (len:=x.delta.length) (st:=λ(s:Int) i=>(s,(i:Int))) (g:=λi s=>some (zg8 l.length s (x.delta.drop i)&&(updsP m (-1) x.updates&&(decide (x.hold.length≤8)&&decide (x.updates.length≤32)&&x.hold.all (rowOK l.length))))) (λ_ _=>True) (λrec i s hi _ hr=>?_) (λrec s _=>?_) n 0 (-1) (yp _) (by omega) trivial
 ·simpa [zG,effP] using this
 ·simp only [zG.l1,zo hi,if_true,za hi,ya,around9,yj,yy,grd,yf,zc (i:=i) (by omega),hr x.delta[i].cell trivial];rw [zn hi,zg8];by_cases h:(decide (s<x.delta[i].cell)&&decide (x.delta[i].cell<(l.length:Int))&&(x.delta[i].add != 0)&&zaP x.delta[i].add 1000000000)=true
  ·rw [h,yE];simp only [yc,yd,bne_iff_ne] at h;rw [if_neg (by simp [h.2,h.1.2];omega)]
  ·rw [if_pos (by
    simp only [yc,yd,bne_iff_ne,ne_eq] at h;simp only [yz,yd,beq_iff_eq,yw,← yH];by_cases ha:zaP x.delta[i].add 1000000000=true
    ·left;simp only [ha,and_true] at h;omega
    ·exact .inr ha)]
   simp only [yH] at h;rw [h];rfl
 ·simp only [zG.l1,zap,ye,if_false,T,List.drop_length,zg8,yE]
theorem ref_effect_eq {n m x} (hn:1000000≤n) (hS:SmallM m) (hL:zaf m.sorts m.tables=true) (h1:x.delta.length≤1000) (h2:x.updates.length≤1000) (h3:x.hold.length≤1000) (h4:∀ r∈x.hold,r.terms.length≤1000):zR n m x=some (effP m (zQ m.sorts true m.tables).length x):=by
 have htl:=hS.tables;have hsl:=hS.sorts;have hcs:∀ t∈m.tables,t.columns.length≤1000∧t.name.length≤4096:=λt ht=>by have:=hS.tab t ht;omega
 unfold zR zb5;rw [zeu hn (by omega) (by omega) hcs,hL,if_pos rfl];generalize zQ m.sorts true m.tables=l;simp only [ya];have T3:loopF (zR.l3 n m x) n 0=some (updsP m (-1) x.updates&&(decide (x.hold.length≤8)&&decide (x.updates.length≤32))):=by
  have:=zbE (body:=zR.l3 n m x) (len:=x.updates.length) (st:=λ(_:Int) i=>(i:Int)) (g:=λi s=>some (updsP m s (x.updates.drop i)&&(decide (x.hold.length≤8)&&decide (x.updates.length≤32)))) (λi s=>-1≤s∧((i=0∧s = -1)∨(0<i∧∃ y,idx x.updates (sub64 (i:Int) 1)=some y∧y.cell=s))) (λrec i s hi hI hr=>?_) (λrec s _=>?_) n 0 (-1) (yp _) (by omega) ⟨by omega,.inl ⟨rfl,rfl⟩⟩
  ·simpa using this
  ·obtain ⟨h1,h2⟩:=hI;have hprev:(decide (0<(i:Int))&&decide (x.updates[i].cell≤((idx x.updates (sub64 (i:Int) 1)).getD default).cell))=(decide (0<i)&&decide (x.updates[i].cell≤s))∧(!(decide (0<(i:Int)))||(idx x.updates (sub64 (i:Int) 1)).isSome)=true:=by
    rcases h2 with ⟨h2,h3⟩ | ⟨h2,y,h3,h4⟩
    ·subst h2;simp
    ·rw [h3];simp [h4,h2]
   have hnext:(-1≤x.updates[i].cell)→rec ((i+1:Nat):Int)=some (updsP m x.updates[i].cell (x.updates.drop (i+1))&&(decide (x.hold.length≤8)&&decide (x.updates.length≤32))):=λh=>hr x.updates[i].cell ⟨h,.inr ⟨by omega,x.updates[i],by
     rw [zfI (by omega) (by omega),show i+1 - 1=i by omega,za hi],rfl⟩⟩
   simp only [zR.l3,zo hi,if_true,za hi,ya,ref09_Tuple_eq (cell:=x.updates[i].cell) (s:=false) hn (show m.sorts.length≤1000 by omega) (show m.tables.length≤1000 by omega) hcs,hprev.1,hprev.2,yy,grd,zh7,zc (i:=i) (by omega)];rw [zn hi,updsP];unfold updP;cases hok:(cellP m.sorts m.tables false x.updates[i].cell).2.2 with
   | false=>simp
   | true=>
    obtain ⟨t,ht⟩:=cellP_idx hok;have hge:0≤x.updates[i].cell:=by
     by_cases h:x.updates[i].cell<0
     ·rw [cellP_neg h] at hok;cases hok
     ·omega
    have hasc:(decide (0<i)&&decide (x.updates[i].cell≤s)) = !decide (s<x.updates[i].cell):=by
     rw [← decide_not,← Bool.decide_and];refine decide_eq_decide.2 ?_;rcases h2 with ⟨h2,h3⟩ | ⟨h2,-⟩ <;> omega
    rw [hasc,hnext (by omega)];simp only [ht,uf,ut,ya,yf,yE];cases decide (s<x.updates[i].cell) with
    | false=>simp
    | true=>
     simp only [uf,ye,if_false,yE];unfold updT;by_cases hset:(t.kind==2||t.kind==3)=true
     ·rw [hset];simp only [if_true,yE,uf,uc,ye,if_false];cases hk0:(x.updates[i].kind==0) <;> cases hk1:(x.updates[i].kind==1) <;> cases hv:(x.updates[i].value==0) <;> simp [bne,hk0,hk1,hv]
     ·simp only [yH] at hset;rw [hset];simp only [uc,ye,if_false,ux,yE];have e1:decide (x.updates[i].value<t.range.lo) = !decide (t.range.lo≤x.updates[i].value):=by rw [← decide_not];exact decide_eq_decide.2 (by omega)
      have e2:decide (t.range.hi<x.updates[i].value) = !decide (x.updates[i].value≤t.range.hi):=by rw [← decide_not];exact decide_eq_decide.2 (by omega)
      rw [e1,e2];cases hk0:(x.updates[i].kind==2) <;> cases decide (t.range.lo≤x.updates[i].value) <;> cases decide (x.updates[i].value≤t.range.hi) <;> simp [bne,hk0]
  ·simp only [zR.l3,zap,ye,if_false,List.drop_length,updsP,yE,yh];congr 1
   ·exact decide_eq_decide.2 (by omega)
   ·exact decide_eq_decide.2 (by omega)
 have T2:loopF (zR.l2 n m x l) n 0=if x.hold.all (rowOK l.length)=true then some (updsP m (-1) x.updates&&(decide (x.hold.length≤8)&&decide (x.updates.length≤32))) else some false:=by
  have:=zay (body:=zR.l2 n m x l) (l:=x.hold) (n:=n) (st:=λi=>(i:Int)) (rowOK l.length) (some false) (some (updsP m (-1) x.updates&&(decide (x.hold.length≤8)&&decide (x.updates.length≤32)))) (λrec i hi=>?_) (λrec=>?_) (by omega)
  ·simpa using this
  ·simp only [zR.l2,zo hi,if_true,za hi,ya,ref_row_eq (show x.hold[i].terms.length<1000000 by have:=h4 _ (yk hi);omega) hn,zc (i:=i) (by omega)];cases rowOK l.length x.hold[i] <;> simp
  ·simp only [zR.l2,zap,ye,if_false,T3]
 have:=zbE (body:=zR.l1 n m x l) (len:=x.delta.length) (st:=λ(_:Int) i=>(i:Int)) (g:=λi s=>some (zg8 l.length s (x.delta.drop i)&&(updsP m (-1) x.updates&&(decide (x.hold.length≤8)&&decide (x.updates.length≤32)&&x.hold.all (rowOK l.length))))) (λi s=>-1≤s∧((i=0∧s = -1)∨(0<i∧∃ y,idx x.delta (sub64 (i:Int) 1)=some y∧y.cell=s))) (λrec i s hi hI hr=>?_) (λrec s _=>?_) n 0 (-1) (yp _) (by omega) ⟨by omega,.inl ⟨rfl,rfl⟩⟩
 ·simpa [effP] using this
 ·obtain ⟨h1,h2⟩:=hI;have hprev:(decide (0<(i:Int))&&decide (x.delta[i].cell≤((idx x.delta (sub64 (i:Int) 1)).getD default).cell))=(decide (0<i)&&decide (x.delta[i].cell≤s))∧(!(decide (0<(i:Int)))||(idx x.delta (sub64 (i:Int) 1)).isSome)=true:=by
   rcases h2 with ⟨h2,h3⟩ | ⟨h2,y,h3,h4⟩
   ·subst h2;simp
   ·rw [h3];simp [h4,h2]
  simp only [zR.l1,zo hi,if_true,za hi,ya,between9,yj,yy,grd,yf,hprev.1,hprev.2,zc (i:=i) (by omega)];rw [zn hi,zg8];by_cases h:(decide (s<x.delta[i].cell)&&decide (x.delta[i].cell<(l.length:Int))&&(x.delta[i].add != 0)&&zaP x.delta[i].add 1000000000)=true
  ·rw [h,yE];simp only [yc,yd,bne_iff_ne] at h;rw [if_neg (by simp [h.2,h.1.2];omega),hr x.delta[i].cell ⟨by omega,.inr ⟨by omega,x.delta[i],by
    rw [zfI (by omega) (by omega),show i+1 - 1=i by omega,za hi],rfl⟩⟩]
  ·rw [if_pos (by
    simp only [yc,yd,bne_iff_ne,ne_eq] at h;simp only [yz,yc,yd,beq_iff_eq,yw,← yH];by_cases ha:zaP x.delta[i].add 1000000000=true
    ·left;simp only [ha,and_true] at h;rcases h2 with ⟨h2,h3⟩ | ⟨h2,-⟩ <;> omega
    ·exact .inr ha)]
   simp only [yH] at h;rw [h];rfl
 ·simp only [zR.l1,zap,ye,if_false,T2,List.drop_length,zg8,yE];cases x.hold.all (rowOK l.length) <;> simp
def cmpP:List Int→List Int→Int
 | [],[]=>0
 | [],_::_=>-1
 | _::_,[]=>1
 | x::l,y::k=>if x<y then -1 else if y<x then 1 else cmpP l k
def lessP:List Int→List Int→Bool
 | [],[]=>false
 | [],_::_=>true
 | _::_,[]=>false
 | x::l,y::k=>if x=y then lessP l k else decide (x<y)
theorem cmp_less:∀ a b:List Int,decide (0≤cmpP a b) = !lessP a b
 | [],[]=>rfl
 | [],_::_=>rfl
 | _::_,[]=>rfl
 | x::l,y::k=>by
  simp only [cmpP,lessP];by_cases h:x=y
  ·subst h;simp [cmp_less l k]
  ·by_cases h2:x<y
   ·simp [h,h2]
   ·have:y<x:=by omega
    simp [h,h2,this]
theorem Compare_eq {n a b} (hl:a.length<1000000) (hn:1000000≤n):zg n a b=some (cmpP a b):=by
 have:=zD (body:=zg.l1 n a b) (len:=a.length) (st:=λi=>(i:Int)) (g:=λi=>some (cmpP (a.drop i) (b.drop i))) (λrec i hi hr=>?_) (λrec=>?_) n 0 (yp _) (by omega)
 ·simpa [zg] using this
 ·simp only [zg.l1,zo hi,if_true,za hi,ya,zc (i:=i) (by omega),hr];rw [zn hi];by_cases hb:i<b.length
  ·rw [if_neg (by simp;omega),za hb,zn hb];simp only [ya,zbV,zc6,uP,ye,if_false,cmpP,yd];by_cases h1:a[i]<b[i]
   ·simp [h1]
   ·by_cases h2:b[i]<a[i]
    ·simp [h1,h2]
    ·simp [h1,h2]
  ·rw [if_pos (by simp;omega),show b.drop i=[] from List.drop_eq_nil_of_le (by omega)];rfl
 ·simp only [zg.l1,zap,ye,if_false,List.drop_length];by_cases hb:a.length<b.length
  ·rw [if_pos (by simpa using hb),zn hb];rfl
  ·rw [if_neg (by simpa using hb),List.drop_eq_nil_of_le (by omega)];rfl
theorem ref_less_eq {n a b} (hl:a.length<1000000) (hn:1000000≤n):zbH n a b=some (lessP a b):=by
 have:=zD (body:=zbH.l1 n a b) (len:=min a.length b.length) (st:=λi=>(i:Int)) (g:=λi=>some (lessP (a.drop i) (b.drop i))) (λrec i hi hr=>?_) (λrec=>?_) n 0 (yp _) (by omega)
 ·simpa [zbH] using this
 ·have ha:i<a.length:=by omega
  have hb:i<b.length:=by omega
  simp only [zbH.l1,zo ha,zo hb,uQ,if_true,za ha,za hb,ya,zc (i:=i) (by omega),hr];rw [zn ha,zn hb];by_cases h:a[i]=b[i]
  ·simp [h,lessP]
  ·simp [h,lessP]
 ·simp only [zbH.l1];rw [if_neg (by simp;omega)];by_cases ha:a.length≤b.length
  ·rw [Nat.min_eq_left ha,List.drop_length];by_cases hb:a.length<b.length
   ·rw [zn hb];simp [lessP,hb]
   ·rw [List.drop_eq_nil_of_le (by omega)];simp [lessP];omega
  ·rw [Nat.min_eq_right (by omega),List.drop_length,zn (by omega)];simp [lessP];omega
def argP (m:Model) (s x:Int):Bool:=(!decide (s<0)||zaP x 9999)&&(!decide (0≤s)||(decide (0≤x)&&decide (x<(idx m.sorts s).getD default)))
def argsP (m:Model):List Int→List Int→Bool
 | s::l,x::k=>argP m s x&&argsP m l k
 | _,_=>true
def opAt (m:Model) (a:Action):Operation:=(idx m.operations a.operation).getD default
def ordP (b a:Action):Bool:=!decide (a.operation<b.operation)&&(!(b.operation==a.operation)||lessP b.arguments a.arguments)
def actP (m:Model) (K:Nat) (i:Nat) (a:Action):Bool:=
 (decide (0≤a.operation)&&decide (a.operation<(m.operations.length:Int)))&&(a.arguments.length==(opAt m a).sorts.length)&&argsP m (opAt m a).sorts a.arguments&&(decide (i=0)||ordP ((idx m.actions ((i - 1:Nat):Int)).getD default) a)&&effP m K a.effect
def actsP (m:Model) (K:Nat):Bool:=decide (m.actions.length≤256)&&allR (λi=>actP m K i ((idx m.actions (i:Int)).getD default)) 0 m.actions.length
theorem argsP_drop {m} {s x:List Int} {k:Nat} (h1:k<s.length) (h2:k<x.length):argsP m (s.drop k) (x.drop k)=(argP m s[k] x[k]&&argsP m (s.drop (k+1)) (x.drop (k+1))):=by
 rw [zn h1,zn h2];rfl
theorem opAt_idx {m a} (h:(decide (0≤a.operation)&&decide (a.operation<(m.operations.length:Int)))=true):idx m.operations a.operation=some (opAt m a)∧opAt m a∈m.operations:=by
 simp only [yc,yd] at h;obtain ⟨o,ho⟩:=za9 h.1 h.2;refine ⟨by rw [ho,opAt,ho];rfl,?_⟩;rw [opAt,ho];exact zav ho
theorem idx_sort {m:Model} {s:Int} (h0:0≤s) (h:s<(m.sorts.length:Int)):idx m.sorts s=some ((idx m.sorts s).getD default):=by
 obtain ⟨x,hx⟩:=za9 h0 h;rw [hx];rfl
theorem ziK {m} (h:opsP m=true):∀ o∈m.operations,o.sorts.length≤3∧∀ s∈o.sorts,-1≤s∧s<(m.sorts.length:Int):=by
 simp only [opsP,yc,yo] at h;intro o ho;have:=h.1 o ho;simp only [opP,yc,yd,yo] at this;exact this
theorem ord_model {b a}:((decide (a.operation<b.operation))||((b.operation==a.operation)&&(decide (0≤cmpP b.arguments a.arguments)))) = !ordP b a:=by
 rw [cmp_less];unfold ordP;cases decide (a.operation<b.operation) <;> cases (b.operation==a.operation) <;> cases lessP b.arguments a.arguments <;> rfl
theorem ord_ref {b a}:((decide (a.operation<b.operation))||((b.operation==a.operation)&&(!lessP b.arguments a.arguments))) = !ordP b a:=by
 unfold ordP;cases decide (a.operation<b.operation) <;> cases (b.operation==a.operation) <;> cases lessP b.arguments a.arguments <;> rfl
theorem model_actions_eq {n:Nat} {m} {l:List Range} (hF:Fuel n) (hS:SmallM m) (hO:opsP m=true):zx n ⟨m,l⟩=some (actsP m l.length):=by
 have hn:=hF.big;have hal:=hS.actions;unfold zx actsP;by_cases h0:m.actions.length≤256
 ·rw [if_neg (by simp;omega),decide_eq_true h0,yE];have:=zgj (body:=zx.l1 n ⟨m,l⟩) (len:=m.actions.length) (n:=n) (st:=λi=>(i:Int)) (λi=>actP m l.length i ((idx m.actions (i:Int)).getD default)) (some false) (some true) (λrec i hi=>?_) (λrec=>?_) (by omega)
  ·simp only [Int.natCast_zero] at this;rw [this];cases allR (λi=>actP m l.length i ((idx m.actions (i:Int)).getD default)) 0 m.actions.length <;> rfl
  ·have hmem:=yk hi;obtain ⟨a1,a2,a3,a4,a5⟩:=hS.act _ hmem;simp only [zx.l1,zo hi,if_true,za hi,ya,zah,yf];unfold actP;cases hop:(decide (0≤m.actions[i].operation)&&decide (m.actions[i].operation<(m.operations.length:Int))) with
   | false=>simp [grd]
   | true=>
    obtain ⟨ho,hom⟩:=opAt_idx hop;obtain ⟨o1,o2⟩:=ziK hO _ hom;simp only [ho,yj,yy,grd,if_true,yf,uf,ut,yE,ya];by_cases hlen:m.actions[i].arguments.length=(opAt m m.actions[i]).sorts.length
    ·rw [if_neg (by simp [hlen])];have hle:(m.actions[i].arguments.length==(opAt m m.actions[i]).sorts.length)=true:=by simp [hlen]
     rw [hle,yE];have inner:=zD (body:=zx.l2 n ⟨m,l⟩ i rec m.actions[i] (opAt m m.actions[i])) (len:=(opAt m m.actions[i]).sorts.length) (st:=λk=>(k:Int)) (g:=λk=>if argsP m ((opAt m m.actions[i]).sorts.drop k) (m.actions[i].arguments.drop k)=true then (if ((decide (i=0)||ordP ((idx m.actions ((i - 1:Nat):Int)).getD default) m.actions[i])&&effP m l.length m.actions[i].effect)=true then rec ((i+1:Nat):Int) else some false) else some false) (λrec' k hk hr'=>?_) (λrec'=>?_) n 0 (yp _) (by omega)
     ·simp only [Int.natCast_zero,List.drop_zero] at inner;rw [inner];cases argsP m (opAt m m.actions[i]).sorts m.actions[i].arguments <;> simp
     ·have hk2:k<m.actions[i].arguments.length:=by omega
      have hs2:=o2 _ (yk hk);simp only [zx.l2,zo hk,if_true,za hk,za hk2,ya,around4,yj,yy,grd,yf,zc (i:=k) (by omega),hr',zah];rw [argsP_drop hk hk2];unfold argP;by_cases hneg:(opAt m m.actions[i]).sorts[k]<0
      ·have hd1:decide ((opAt m m.actions[i]).sorts[k]<0)=true:=by simp [hneg]
       have hd2:decide (0≤(opAt m m.actions[i]).sorts[k])=false:=by simp;omega
       rw [hd1,hd2];cases zaP m.actions[i].arguments[k] 9999 <;> simp
      ·have hd1:decide ((opAt m m.actions[i]).sorts[k]<0)=false:=by simp;omega
       have hd2:decide (0≤(opAt m m.actions[i]).sorts[k])=true:=by simp;omega
       obtain ⟨z,hz⟩:=za9 (l:=m.sorts) (i:=(opAt m m.actions[i]).sorts[k]) (by omega) hs2.2;rw [hz,hd1,hd2];by_cases h1:0≤m.actions[i].arguments[k]
       ·by_cases h2:m.actions[i].arguments[k]<z
        ·have h2':¬ z≤m.actions[i].arguments[k]:=by omega
         simp [h1,h2,h2']
        ·have h2':z≤m.actions[i].arguments[k]:=by omega
         simp [h1,h2,h2']
       ·simp [h1]
     ·simp only [zx.l2,zap,ye,if_false,jn,List.drop_length];rw [model_effect_eq hF hS (by omega) (by omega) (by omega) (λr hr=>by have:=a5 r hr;omega)];simp only [ya,zc (i:=i) (by omega)];have hargs:argsP m [] (m.actions[i].arguments.drop (opAt m m.actions[i]).sorts.length)=true:=rfl;rw [hargs,if_pos rfl];by_cases h0i:i=0
      ·subst h0i;rw [if_neg (by simp)];cases effP m l.length m.actions[0].effect <;> simp
      ·rw [if_pos (by simp;omega),zfI (by omega) (by omega)];have hi1:i - 1<m.actions.length:=by omega
       have b1:=(hS.act _ (yk hi1)).1;simp only [za hi1,ya,ord_model,yf,Compare_eq (a:=m.actions[i - 1].arguments) (b:=m.actions[i].arguments) (show m.actions[i - 1].arguments.length<1000000 by omega) (show 1000000≤n by omega),yj,yy,if_true,h0i,decide_false,ut];cases ordP m.actions[i - 1] m.actions[i] <;> cases effP m l.length m.actions[i].effect <;> simp [grd]
    ·rw [if_pos (by simp;omega)];have hle:(m.actions[i].arguments.length==(opAt m m.actions[i]).sorts.length)=false:=by simp [hlen]
     rw [hle];simp
  ·simp [zx.l1]
 ·rw [if_pos (by simp;omega),decide_eq_false h0,uc]
theorem ref13_actions_eq {n:Nat} {m:Model} (hn:1000000≤n) (hS:SmallM m) (hL:zaf m.sorts m.tables=true):zu n m=some (opsP m&&actsP m (zQ m.sorts true m.tables).length):=by
 have hal:=hS.actions;have hol:=hS.operations;have hef:∀ a∈m.actions,zR n m a.effect=some (effP m (zQ m.sorts true m.tables).length a.effect):=λa ha=>by
  obtain ⟨a1,a2,a3,a4,a5⟩:=hS.act _ ha;exact ref_effect_eq hn hS hL (by omega) (by omega) (by omega) (λr hr=>by have:=a5 r hr;omega)
 generalize (zQ m.sorts true m.tables).length=K at hef;have T:opsP m=true→loopF (zu.l3 n m) n 0=some (allR (λi=>actP m K i ((idx m.actions (i:Int)).getD default)) 0 m.actions.length):=λhO=>by
  have:=zgj (body:=zu.l3 n m) (len:=m.actions.length) (n:=n) (st:=λi=>(i:Int)) (λi=>actP m K i ((idx m.actions (i:Int)).getD default)) (some false) (some true) (λrec i hi=>?_) (λrec=>?_) (by omega)
  ·simp only [Int.natCast_zero] at this;rw [this];cases allR (λi=>actP m K i ((idx m.actions (i:Int)).getD default)) 0 m.actions.length <;> rfl
  ·have hmem:=yk hi;obtain ⟨a1,a2,a3,a4,a5⟩:=hS.act _ hmem;simp only [zu.l3,zo hi,if_true,za hi,ya,yf];have hneg:(decide (m.actions[i].operation<0)||decide ((m.operations.length:Int)≤m.actions[i].operation)) = !(decide (0≤m.actions[i].operation)&&decide (m.actions[i].operation<(m.operations.length:Int))):=by
    rw [Bool.not_and,← decide_not,← decide_not];congr 1
    ·exact decide_eq_decide.2 (by omega)
    ·exact decide_eq_decide.2 (by omega)
   rw [hneg];unfold actP;cases hop:(decide (0≤m.actions[i].operation)&&decide (m.actions[i].operation<(m.operations.length:Int))) with
   | false=>simp [grd]
   | true=>
    obtain ⟨ho,hom⟩:=opAt_idx hop;obtain ⟨o1,o2⟩:=ziK hO _ hom;simp only [ho,yj,yy,grd,if_true,yf,uf,ut,yE];by_cases hlen:m.actions[i].arguments.length=(opAt m m.actions[i]).sorts.length
    ·rw [if_neg (by simp [hlen])];have hle:(m.actions[i].arguments.length==(opAt m m.actions[i]).sorts.length)=true:=by simp [hlen]
     rw [hle,yE];have inner:=zD (body:=zu.l4 n m i rec m.actions[i]) (len:=m.actions[i].arguments.length) (st:=λk=>(k:Int)) (g:=λk=>if argsP m ((opAt m m.actions[i]).sorts.drop k) (m.actions[i].arguments.drop k)=true then (if ((decide (i=0)||ordP ((idx m.actions ((i - 1:Nat):Int)).getD default) m.actions[i])&&effP m K m.actions[i].effect)=true then rec ((i+1:Nat):Int) else some false) else some false) (λrec' k hk2 hr'=>?_) (λrec'=>?_) n 0 (yp _) (by omega)
     ·simp only [Int.natCast_zero,List.drop_zero] at inner;rw [inner];cases argsP m (opAt m m.actions[i]).sorts m.actions[i].arguments <;> simp
     ·have hk:k<(opAt m m.actions[i]).sorts.length:=by omega
      have hs2:=o2 _ (yk hk);simp only [zu.l4,zo hk2,if_true,ho,za hk,za hk2,ya,between4,yj,yy,grd,yf,zc (i:=k) (by omega),hr'];rw [argsP_drop hk hk2];unfold argP;by_cases hneg:(opAt m m.actions[i]).sorts[k]<0
      ·have hd1:decide ((opAt m m.actions[i]).sorts[k]<0)=true:=by simp [hneg]
       have hd2:decide (0≤(opAt m m.actions[i]).sorts[k])=false:=by simp;omega
       rw [hd1,hd2];cases zaP m.actions[i].arguments[k] 9999 <;> simp
      ·have hd1:decide ((opAt m m.actions[i]).sorts[k]<0)=false:=by simp;omega
       have hd2:decide (0≤(opAt m m.actions[i]).sorts[k])=true:=by simp;omega
       rw [idx_sort (m:=m) (s:=(opAt m m.actions[i]).sorts[k]) (by omega) hs2.2,hd1,hd2];simp only [yf];generalize (idx m.sorts (opAt m m.actions[i]).sorts[k]).getD default=z;by_cases h1:m.actions[i].arguments[k]<0
       ·have h1':¬ 0≤m.actions[i].arguments[k]:=by omega
        simp [h1,h1']
       ·have h1':0≤m.actions[i].arguments[k]:=by omega
        by_cases h2:z≤m.actions[i].arguments[k]
        ·have h2':¬ m.actions[i].arguments[k]<z:=by omega
         simp [h1,h1',h2,h2']
        ·have h2':m.actions[i].arguments[k]<z:=by omega
         simp [h1,h1',h2,h2']
     ·simp only [zu.l4,zap,ye,if_false,jn,List.drop_length,hef _ hmem];simp only [ya,zc (i:=i) (by omega)];have hargs:argsP m ((opAt m m.actions[i]).sorts.drop m.actions[i].arguments.length) []=true:=by cases (opAt m m.actions[i]).sorts.drop m.actions[i].arguments.length <;> rfl
      rw [hargs,if_pos rfl];by_cases h0i:i=0
      ·subst h0i;rw [if_neg (by simp)];cases effP m K m.actions[0].effect <;> simp
      ·rw [if_pos (by simp;omega),zfI (by omega) (by omega)];have hi1:i - 1<m.actions.length:=by omega
       have b1:=(hS.act _ (yk hi1)).1;simp only [za hi1,ya,ord_ref,yf,ref_less_eq (a:=m.actions[i - 1].arguments) (b:=m.actions[i].arguments) (show m.actions[i - 1].arguments.length<1000000 by omega) (show 1000000≤n by omega),yj,yy,if_true,h0i,decide_false,ut];cases ordP m.actions[i - 1] m.actions[i] <;> cases effP m K m.actions[i].effect <;> simp [grd]
    ·rw [if_pos (by simp;omega)];have hle:(m.actions[i].arguments.length==(opAt m m.actions[i]).sorts.length)=false:=by simp [hlen]
     rw [hle];simp
  ·simp [zu.l3]
 unfold zu;have:=zay (body:=zu.l1 n m) (l:=m.operations) (n:=n) (st:=λi=>((m.operations.take i).map (·.name),(i:Int))) (opP m) (some false) (if (decide (m.operations.length≤8)&&distP [] (m.operations.map (·.name))&&decide (m.actions.length≤256))=true then loopF (zu.l3 n m) n 0 else some false) (λrec i hi=>?_) (λrec=>?_) (by omega)
 ·simp only [List.take_zero,List.map_nil,Int.natCast_zero] at this;rw [this];unfold actsP;cases hO:opsP m with
  | true=>
   have hO':=hO;simp only [opsP,yc] at hO';rw [hO'.1,hO'.2.1,hO'.2.2,T hO];cases decide (m.actions.length≤256) <;> rfl
  | false=>
   unfold opsP at hO;cases h1:m.operations.all (opP m) with
   | false=>simp
   | true=>
    rw [h1,yE] at hO;rw [hO];simp
 ·have hop:=hS.op _ (yk hi);simp only [zu.l1,zo hi,if_true,za hi,ya];rw [zW (by simp;omega),ya,zd7 hi];generalize hX:(m.operations.take (i+1)).map (·.name)=X;have inner:=zay (body:=zu.l2 n m i rec m.operations[i] X) (l:=m.operations[i].sorts) (n:=n) (st:=λk=>(k:Int)) (λs=>decide (-1≤s)&&decide (s<(m.sorts.length:Int))) (some false) (if decide (m.operations[i].sorts.length≤3)=true then rec (X,((i+1:Nat):Int)) else some false) (λrec' k hk=>?_) (λrec'=>?_) (by omega)
  ·simp only [Int.natCast_zero] at inner;rw [inner];unfold opP;cases decide (m.operations[i].sorts.length≤3) <;> cases (m.operations[i].sorts.all λs=>decide (-1≤s)&&decide (s<(m.sorts.length:Int))) <;> simp
  ·simp only [zu.l2,zo hk,if_true,za hk,ya,yj,yy,grd,yf,zc (i:=k) (by omega)];have e1:decide (m.operations[i].sorts[k] < -1) = !decide (-1≤m.operations[i].sorts[k]):=by rw [← decide_not];exact decide_eq_decide.2 (by omega)
   have e2:decide ((m.sorts.length:Int)≤m.operations[i].sorts[k]) = !decide (m.operations[i].sorts[k]<(m.sorts.length:Int)):=by rw [← decide_not];exact decide_eq_decide.2 (by omega)
   rw [e1,e2];cases decide (-1≤m.operations[i].sorts[k]) <;> cases decide (m.operations[i].sorts[k]<(m.sorts.length:Int)) <;> simp
  ·simp only [zu.l2,zap,ye,if_false,zc (i:=i) (by omega)];by_cases h3:m.operations[i].sorts.length≤3
   ·rw [if_neg (by simp;omega),if_pos (by simp [h3])]
   ·rw [if_pos (by simp;omega),if_neg (by simp [h3])]
 ·simp only [zu.l1,zap,ye,if_false,List.take_length];rw [zfi hn (by simp;omega) (λw hw=>by
   simp only [yU] at hw;obtain ⟨o,ho,rfl⟩:=hw;have:=(hS.op o ho).1;omega)]
  simp only [yj,yy,grd,if_true,yf];have e1:decide (8<(m.operations.length:Int)) = !decide (m.operations.length≤8):=by rw [← decide_not];exact decide_eq_decide.2 (by omega)
  have e2:decide (256<(m.actions.length:Int)) = !decide (m.actions.length≤256):=by rw [← decide_not];exact decide_eq_decide.2 (by omega)
  rw [e1,e2];cases decide (m.operations.length≤8) <;> cases distP [] (m.operations.map (·.name)) <;> cases decide (m.actions.length≤256) <;> simp
def zaF (hs:List Hide):Nat→Int→Int→Bool
 | 0,a,b=>a==b
 | k+1,a,b=>a==b||hs.any λh=>h.table==a&&zaF hs k h.to b
def hideP (m:Model) (h:Hide):Bool:=
 (((decide (0≤h.table)&&decide (h.table<(m.tables.length:Int)))&&(decide (0≤h.to)&&decide (h.to<(m.tables.length:Int))))&&(h.table != h.to)) &&
 (((((idx m.tables h.table).getD default).kind==0)&&(((idx m.tables h.to).getD default).kind==0))&&((decide (0≤h.column)&&decide (h.column<(((idx m.tables h.table).getD default).columns.length:Int)))&&(((((idx m.tables h.to).getD default).columns.length:Int)==1)&&((idx ((idx m.tables h.to).getD default).columns 0).getD default==(idx ((idx m.tables h.table).getD default).columns h.column).getD default))))
def hidesP (m:Model):Bool:=decide (m.hides.length≤12)&&(m.hides.all (hideP m)&&m.hides.all λh=>!zaF m.hides m.tables.length h.to h.table)
theorem leads_loop {m n self a b k} (hl:m.hides.length<n) (hl2:m.hides.length<1000000) (hk:k+1<1000000) (hself:∀ x,self m x b (k:Int)=some (zaF m.hides k x b)) :
  loopF (zao.l1 n self m a b ((k+1:Nat):Int)) n 0=some (m.hides.any λh=>h.table==a&&zaF m.hides k h.to b):=by
 have:=zD (body:=zao.l1 n self m a b ((k+1:Nat):Int)) (len:=m.hides.length) (st:=λi=>(i:Int)) (g:=λi=>some ((m.hides.drop i).any λh=>h.table==a&&zaF m.hides k h.to b)) (λrec i hi hr=>?_) (λrec=>?_) n 0 (yp _) (by omega)
 ·simpa using this
 ·have h0:decide (0<((k+1:Nat):Int))=true:=by simp
  have hsub:sub64 ((k+1:Nat):Int) 1=(k:Int):=by rw [zfI (by omega) (by omega)];simp
  simp only [zao.l1,zo hi,h0,uQ,if_true,za hi,ya,yj,yy,grd,yf,hsub,hself,zc (i:=i) (by omega),hr];rw [zn hi,List.any_cons];cases (m.hides[i].table==a&&zaF m.hides k m.hides[i].to b) <;> simp
 ·simp [zao.l1]
theorem ref_leads {m} (hl:m.hides.length<1000000):∀ (k n:Nat) (a b:Int),k<1000000→1000000+k<n→zao n m a b (k:Int)=some (zaF m.hides k a b)
 | 0,0,_,_,_,h=>by omega
 | 0,n+1,a,b,_,h=>by
  simp only [zao,zao.body,zaF];by_cases e:a=b
  ·simp [e]
  ·rw [if_neg (by simpa using e)];have hh:(a==b)=false:=by simpa using e
   rw [zhv (by omega),hh];simp [zao.l1]
 | k+1,0,_,_,_,h=>by omega
 | k+1,n+1,a,b,hk,h=>by
  simp only [zao,zao.body,zaF];by_cases e:a=b
  ·simp [e]
  ·rw [if_neg (by simpa using e),leads_loop (by omega) hl hk λx=>ref_leads hl k n x b (by omega) (by omega)];have hh:(a==b)=false:=by simpa using e
   rw [hh,ut]
theorem hide_idx {m:Model} {h:Hide} (h0:0≤h.table∧h.table<(m.tables.length:Int)) (h1:0≤h.to∧h.to<(m.tables.length:Int)):∃ t u,idx m.tables h.table=some t∧idx m.tables h.to=some u:=by
 obtain ⟨t,ht⟩:=za9 h0.1 h0.2;obtain ⟨u,hu⟩:=za9 h1.1 h1.2;exact ⟨t,u,ht,hu⟩
theorem ref13_hidden_eq {n:Nat} {m:Model} (hn:4294967296≤n) (hS:SmallM m):zam n m=some (hidesP m):=by
 have hhl:=hS.hides;have htl:=hS.tables;unfold zam hidesP;rw [if_neg (by simp;omega),decide_eq_true hhl,yE];have T:loopF (zam.l2 n m) n 0=some (m.hides.all λh=>!zaF m.hides m.tables.length h.to h.table):=by
  have:=zay (body:=zam.l2 n m) (l:=m.hides) (n:=n) (st:=λi=>(i:Int)) (λh=>!zaF m.hides m.tables.length h.to h.table) (some false) (some true) (λrec i hi=>?_) (λrec=>?_) (by omega)
  ·simp only [Int.natCast_zero] at this;rw [this];cases (m.hides.all λh=>!zaF m.hides m.tables.length h.to h.table) <;> rfl
  ·simp only [zam.l2,zo hi,if_true,za hi,ya,ref_leads (m:=m) (by omega) m.tables.length n m.hides[i].to m.hides[i].table (by omega) (by omega),zc (i:=i) (by omega)];cases zaF m.hides m.tables.length m.hides[i].to m.hides[i].table <;> simp
  ·simp [zam.l2]
 have:=zay (body:=zam.l1 n m) (l:=m.hides) (n:=n) (st:=λi=>(i:Int)) (hideP m) (some false) (some (m.hides.all λh=>!zaF m.hides m.tables.length h.to h.table)) (λrec i hi=>?_) (λrec=>?_) (by omega)
 ·simp only [Int.natCast_zero] at this;rw [this];cases m.hides.all (hideP m) <;> simp
 ·simp only [zam.l1,zo hi,if_true,za hi,ya,zc (i:=i) (by omega)];generalize m.hides[i]=h;by_cases hb:(((0≤h.table∧h.table<(m.tables.length:Int))∧(0≤h.to∧h.to<(m.tables.length:Int)))∧h.table≠h.to)
  ·rw [if_neg (by simp;omega)];obtain ⟨t,u,ht,hu⟩:=hide_idx hb.1.1 hb.1.2;have hhp:hideP m h=(((t.kind==0)&&(u.kind==0))&&((decide (0≤h.column)&&decide (h.column<(t.columns.length:Int)))&&(((u.columns.length:Int)==1)&&((idx u.columns 0).getD default==(idx t.columns h.column).getD default)))):=by
    unfold hideP;rw [ht,hu];simp [hb]
   simp only [ht,hu,ya];rw [hhp];by_cases hk:(((t.kind==0)&&(u.kind==0))&&((decide (0≤h.column)&&decide (h.column<(t.columns.length:Int)))&&((u.columns.length:Int)==1)))=true
   ·have hk':=hk;simp only [yc,yd,beq_iff_eq] at hk';obtain ⟨⟨k1,k2⟩,⟨k3,k4⟩,k5⟩:=hk';obtain ⟨x,hx⟩:=za9 (l:=u.columns) (i:=0) (by omega) (by omega);obtain ⟨y,hy⟩:=za9 k3 k4;have n1:¬ h.column<0:=by omega
    have n2:¬ (t.columns.length:Int)≤h.column:=by omega
    simp only [k1,k2,k3,k4,k5,n1,n2,hx,hy,yf,decide_true,decide_false,beq_self_eq_true,uP,yj,yy,Bool.or_false,yE,grd,if_true];by_cases hxy:x=y
    ·simp [hxy]
    ·simp [hxy]
   ·have hf:(((((t.kind != 0)||(u.kind != 0))||(decide (h.column<0)))||(decide ((t.columns.length:Int)≤h.column)))||((u.columns.length:Int) != 1))=true:=by
     simp only [yc,yd,beq_iff_eq] at hk;simp only [yz,bne_iff_ne,yd];omega
    simp only [hf,uO,grd,if_true];rw [← Bool.and_assoc (decide (0≤h.column)&&decide (h.column<(t.columns.length:Int))),← Bool.and_assoc];simp only [yH] at hk;rw [hk];rfl
  ·rw [if_pos (by simp;omega)];have hhp:hideP m h=false:=by
    unfold hideP;cases hx:(((decide (0≤h.table)&&decide (h.table<(m.tables.length:Int)))&&(decide (0≤h.to)&&decide (h.to<(m.tables.length:Int))))&&(h.table != h.to)) with
    | false=>rfl
    | true=>
     simp only [yc,yd,bne_iff_ne] at hx;exact absurd hx hb
   rw [hhp];rfl
 ·simp only [zam.l1,zap,ye,if_false,T]
theorem nodup_len:∀ (T:Nat) (l:List Int),l.Nodup→(∀ x∈l,0≤x∧x<(T:Int))→l.length≤T
 | 0,l,_,h=>by
  cases l with
  | nil=>simp
  | cons x l=>have:=h x (by simp);omega
 | T+1,l,hn,h=>by
  by_cases hm:(T:Int)∈l
  ·have h1:=nodup_len T (l.erase (T:Int)) (hn.erase _) (λx hx=>by
    have:=(hn.mem_erase_iff).1 hx;have:=h x this.2;omega)
   rw [List.length_erase_of_mem hm] at h1;omega
  ·have:=nodup_len T l hn (λx hx=>by
    have:=h x hx;have:x≠(T:Int):=λe=>hm (e▸hx)
    omega)
   omega
theorem leadsP_mono {hs}:∀ {k:Nat} {a b:Int},zaF hs k a b=true→zaF hs (k+1) a b=true
 | 0,a,b,h=>by
  simp only [zaF] at h;simp only [zaF,h,uO]
 | k+1,a,b,h=>by
  rw [zaF] at h ⊢;simp only [yz,uv,yc] at h ⊢;rcases h with h | ⟨x,hx,h1,h2⟩
  ·exact .inl h
  ·exact .inr ⟨x,hx,h1,leadsP_mono h2⟩
theorem leadsP_le {hs k j a b} (h:zaF hs k a b=true) (hkj:k≤j):zaF hs j a b=true:=by
 obtain ⟨d,rfl⟩:=Nat.exists_eq_add_of_le hkj;clear hkj
 induction d with
 | zero=>exact h
 | succ d ih=>exact leadsP_mono ih
theorem zfA {hs k a}:zaF hs k a a=true:=by cases k <;> simp [zaF]
theorem leadsP_snoc {hs h} (hh:h∈hs):∀ {k:Nat} {a:Int},zaF hs k a h.table=true→zaF hs (k+1) a h.to=true
 | 0,a,e=>by
  simp only [zaF,beq_iff_eq] at e;simp only [zaF,yz,uv,yc,beq_iff_eq];exact .inr ⟨h,hh,e.symm,rfl⟩
 | k+1,a,e=>by
  rw [zaF] at e ⊢;simp only [yz,uv,yc,beq_iff_eq] at e ⊢;rcases e with e | ⟨x,hx,h1,h2⟩
  ·exact .inr ⟨h,hh,e.symm,zfA⟩
  ·exact .inr ⟨x,hx,h1,leadsP_snoc hh h2⟩
def walkP (f:Int→Hide) (s:Int):Nat→Int
 | 0=>s
 | k+1=>(f (walkP f s k)).to
theorem sink_ex {hs:List Hide} {T:Nat} {S:List Int} (hS:S≠[]) (hb:∀ t∈S,0≤t∧t<(T:Int)) (hac:∀ h∈hs,zaF hs T h.to h.table=false):∃ t∈S,∀ h∈hs,¬ (h.table=t∧h.to∈S):=by
 apply Classical.byContradiction;intro hno;have hedge:∀ t,t∈S→∃ h,h∈hs∧h.table=t∧h.to∈S:=λt ht=>by
  apply Classical.byContradiction;intro hn;exact hno ⟨t,ht,λh hh he=>hn ⟨h,hh,he.1,he.2⟩⟩
 obtain ⟨s,hs0⟩:∃ s,s∈S:=by
  cases S with
  | nil=>exact absurd rfl hS
  | cons x l=>exact ⟨x,by simp⟩
 obtain ⟨f,hf⟩:∃ f:Int→Hide,∀ t,t∈S→f t∈hs∧(f t).table=t∧(f t).to∈S:=by
  refine ⟨λt=>if ht:t∈S then Classical.choose (hedge t ht) else default,λt ht=>?_⟩;simp only [ht,dite_true];exact Classical.choose_spec (hedge t ht)
 have hw:∀ k,walkP f s k∈S:=λk=>by
  induction k with
  | zero=>exact hs0
  | succ k ih=>exact (hf _ ih).2.2
 have hlead:∀ d i,zaF hs d (walkP f s i) (walkP f s (i+d))=true:=λd=>by
  induction d with
  | zero=>intro i;exact zfA
  | succ d ih=>
   intro i;simp only [zaF,yz,uv,yc,beq_iff_eq];refine .inr ⟨f (walkP f s i),(hf _ (hw i)).1,(hf _ (hw i)).2.1,?_⟩;have:=ih (i+1);rw [show i+1+d=i+(d+1) by omega] at this;exact this
 have hne:∀ i j,i<j→j≤T→walkP f s i≠walkP f s j:=λi j hij hj e=>by
  have h1:=hlead (j - i - 1) (i+1);rw [show i+1+(j - i - 1)=j by omega,← e] at h1;have h2:=hac _ (hf _ (hw i)).1;rw [(hf _ (hw i)).2.1] at h2;have h3:zaF hs T (f (walkP f s i)).to (walkP f s i)=true:=leadsP_le h1 (by omega);rw [h3] at h2;cases h2
 have hlen:=nodup_len T ((List.range (T+1)).map (walkP f s)) (by
  rw [List.Nodup,List.pairwise_map];exact List.Pairwise.imp_of_mem (λ{a b} _ hb hab=>hne a b hab (by have:=yX.1 hb;omega)) List.pairwise_lt_range) (λx hx=>by
  simp only [yU] at hx;obtain ⟨k,-,rfl⟩:=hx;exact hb _ (hw k))
 simp at hlen;omega
def zbX (m:GMap Int Bool):List Int:=m.es.map λe=>e.2.1
structure WfM (m:GMap Int Bool):Prop where
 tru:∀ e∈m.es,e.2.2=true
 nd:(m.es.map (·.1)).Nodup
 lt:∀ e∈m.es,e.1<m.clock
theorem WfM.get {m} (h:WfM m) (k):(m.get? k).getD false=decide (k∈zbX m):=by
 unfold GMap.get?;rw [findK_get k m.es h.tru];rfl
theorem WfM.empty:WfM (GMap.empty:GMap Int Bool):=⟨λe he=>(by simp [GMap.empty] at he),by simp [GMap.empty],λe he=>(by simp [GMap.empty] at he)⟩
theorem findK_at (k):∀ (es:List (Nat×Int×Bool)) (p:Nat×Bool),findK k es=some p→∃ h:p.1<es.length,es[p.1].2.1=k
 | [],_,h=>by simp [findK] at h
 | e::es,p,h=>by
  simp only [findK] at h;split at h
  ·rename_i hk;cases h;exact ⟨by simp,hk.symm⟩
  ·simp only [Option.map_eq_some_iff] at h;obtain ⟨q,h1,rfl⟩:=h;obtain ⟨h2,h3⟩:=findK_at k es q h1;exact ⟨by simp only [yJ];omega,by simpa using h3⟩
theorem zhZ (f) (hf:∀ e,(f e).1=e.1):∀ (es:List (Nat×Int×Bool)) (i:Nat),(es.modify i f).map (·.1)=es.map (·.1)
 | [],_=>by simp
 | e::es,0=>by simp [hf]
 | e::es,i+1=>by simp [zhZ f hf es i]
theorem WfM.put {m} (h:WfM m) (k):WfM (m.put k true)∧(m.put k true).es.length≤m.es.length+1∧∀ t,t∈zbX (m.put k true)↔t∈zbX m∨t=k:=by
 unfold GMap.put zbX;cases hk:findK k m.es with
 | none=>
  simp only [];refine ⟨⟨λe he=>?_,?_,λe he=>?_⟩,by simp,λt=>by simp⟩
  ·simp only [yK,yO] at he;rcases he with he | rfl
   ·exact h.tru e he
   ·rfl
  ·simp only [ul,yM,List.map_nil];rw [List.nodup_append];refine ⟨h.nd,by simp,λa ha b hb=>?_⟩;simp only [yO] at hb;subst hb;simp only [yU] at ha;obtain ⟨e,he,rfl⟩:=ha;have:=h.lt e he;omega
  ·simp only [yK,yO] at he;rcases he with he | rfl
   ·have:=h.lt e he;simp only [];omega
   ·simp
 | some p=>
  obtain ⟨i,b⟩:=p;simp only [];have hb:=zhZ (λe:Nat×Int×Bool=>(e.1,e.2.1,true)) (λe=>rfl) m.es i;refine ⟨⟨ziJ (p:=λe=>e.2.2=true) _ (λe=>rfl) m.es i h.tru,by rw [hb];exact h.nd,λe he=>?_⟩,by simp,λt=>?_⟩
  ·have:e.1∈m.es.map (·.1):=by rw [← hb];exact List.mem_map_of_mem he
   simp only [yU] at this;obtain ⟨x,hx,e1⟩:=this;have:=h.lt x hx;simp only [];omega
  ·rw [zhx (λe:Nat×Int×Bool=>(e.1,e.2.1,true)) (λe=>rfl) m.es i];constructor
   ·exact .inl
   ·rintro (h1 | rfl)
    ·exact h1
    ·exact findK_yes _ m.es _ hk
theorem WfM.del {m} (h:WfM m) {e} (he:e∈m.es):WfM (m.del e.2.1)∧(m.del e.2.1).clock=m.clock∧(m.del e.2.1).es.length+1=m.es.length∧(m.del e.2.1).es.Sublist m.es∧∀ t,t∈zbX m→t≠e.2.1→t∈zbX (m.del e.2.1):=by
 unfold GMap.del zbX;cases hk:findK e.2.1 m.es with
 | none=>exact absurd (List.mem_map_of_mem (f:=λe:Nat×Int×Bool=>e.2.1) he) (findK_no _ m.es hk)
 | some p=>
  obtain ⟨i,b⟩:=p;obtain ⟨hi,hik⟩:=findK_at _ m.es _ hk;simp only [] at hi hik ⊢;have hsub:=List.eraseIdx_sublist m.es i;refine ⟨⟨λx hx=>h.tru x (hsub.subset hx),(hsub.map _).nodup h.nd,λx hx=>h.lt x (hsub.subset hx)⟩,trivial,?_,hsub,λt ht hne=>?_⟩
  ·rw [List.length_eraseIdx_of_lt hi];omega
  ·simp only [yU] at ht ⊢;obtain ⟨x,hx,rfl⟩:=ht;obtain ⟨j,hj,rfl⟩:=List.mem_iff_getElem.1 hx;refine ⟨_,?_,rfl⟩;rw [List.mem_eraseIdx_iff_getElem];refine ⟨j,hj,λe1=>hne ?_,rfl⟩;subst e1;exact hik
theorem left_less {m m':GMap Int Bool} {seen:List Nat} {e:Nat×Int×Bool} (he:e∈m.left seen) (hs:m'.es.Sublist m.es):(m'.left (seen++[e.1])).length<(m.left seen).length:=by
 unfold GMap.left at he ⊢;have h1:(m'.es.filter λx=>!(seen++[e.1]).contains x.1).length≤(m.es.filter λx=>!(seen++[e.1]).contains x.1).length:=(hs.filter _).length_le;have h2:(m.es.filter λx=>!(seen++[e.1]).contains x.1)=(m.es.filter λx=>!seen.contains x.1).filter λx=>!(x.1==e.1):=by
  rw [List.filter_filter];congr 1;funext x;rw [Bool.eq_iff_iff];simp;constructor
  ·rintro ⟨a,b⟩;exact ⟨b,a⟩
  ·rintro ⟨a,b⟩;exact ⟨b,a⟩
 have h3:((m.es.filter λx=>!seen.contains x.1).filter λx=>!(x.1==e.1)).length<(m.es.filter λx=>!seen.contains x.1).length:=
  List.length_filter_lt_length_iff_exists.2 ⟨e,he,by simp⟩
 rw [h2] at h1;omega
theorem hidden_round {n:Nat} {j:Judge} {m0:GMap Int Bool} {i:Int} {rec:(GMap Int Bool×Int)→Option Bool} {r:Bool} (hn:1000000≤n) (hh:j.model.hides.length<1000000) (J:GMap Int Bool→List Nat→Prop)
  (hwf:∀ m seen,J m seen→WfM m∧m.clock=m0.clock) (hover:∀ m seen,J m seen→m.left seen=[]→rec (m,add64 i 1)=some r)
  (hstep:∀ m seen e,J m seen→e∈m.left seen→J (if (j.model.hides.any λh=>h.table==e.2.1&&decide (h.to∈zbX m))=true then m else m.del e.2.1) (seen++[e.1]))
  (h0:J m0 []) (hl:m0.es.length<1000000):loopF (zf.l4 n j m0 i rec) n (m0,[],m0.clock)=some r:=by
 refine zdb (body:=zf.l4 n j m0 i rec) (λs=>(s.1.left s.2.1).length) (λs=>J s.1 s.2.1∧s.2.2=m0.clock) (λ_ o=>o=some r) (λrec' s hI hr=>?_) n _ ⟨h0,rfl⟩ ?_
 ·obtain ⟨m,seen,last⟩:=s;obtain ⟨hJ,hlast⟩:=hI;simp only [] at hJ hlast hr;subst hlast;obtain ⟨hw,hc⟩:=hwf m seen hJ;simp only [zf.l4,stepM];have hold:m.old m0.clock m0.clock=true:=by
   simp only [GMap.old,yc,yo,yd];exact ⟨λe he=>by have:=hw.lt e he;omega,yn _⟩
  rw [hold];unfold grd;rw [if_pos rfl];cases hleft:m.left seen with
  | nil=>
   simp only [List.isEmpty_nil,if_true];exact hover m seen hJ hleft
  | cons x l=>
   rw [← hleft,if_neg (by rw [hleft];simp)]
   haveI:Globs:=⟨[]⟩
   refine chooseAll_all (by rw [hleft];simp) (λe he=>?_);have hem:e∈m.es:=(List.mem_filter.1 he).1;rw [if_pos (by simpa using hw.nd),zdO (p:=λh=>h.table==e.2.1&&decide (h.to∈zbX m)) (λh _=>by
    unfold zcL;rw [hw.get]) hh hn,ya]
   have hst:=hstep m seen e hJ he;cases hb:(j.model.hides.any λh=>h.table==e.2.1&&decide (h.to∈zbX m)) with
   | true=>
    rw [hb] at hst;rw [if_neg (by simp)];exact hr (m,seen++[e.1],m.clock) ⟨hst,hc⟩ (left_less he (List.Sublist.refl _))
   | false=>
    rw [hb] at hst;rw [if_pos (by simp)];exact hr (m.del e.2.1,seen++[e.1],m.clock) ⟨hst,hc⟩ (left_less he (hw.del hem).2.2.2.1)
 ·have:(m0.left []).length≤m0.es.length:=List.length_filter_le _ _;simp only [];omega
theorem zh0 {α β:Type} {f:α→β}:∀ {l:List α},(l.map f).Nodup→∀ x∈l,∀ y∈l,f x=f y→x=y
 | [],_,x,hx,_,_,_=>by simp at hx
 | a::l,h,x,hx,y,hy,e=>by
  simp only [yM,List.nodup_cons,yU,not_exists,not_and] at h;simp only [yI] at hx hy;rcases hx with rfl | hx <;> rcases hy with rfl | hy
  ·rfl
  ·exact absurd e.symm (h.1 y hy)
  ·exact absurd e (h.1 x hx)
  ·exact zh0 h.2 x hx y hy e
theorem hidden_rounds {n:Nat} {j:Judge} {m:GMap Int Bool} (hn:1000000≤n) (hh:j.model.hides.length≤1000) (hok:∀ h∈j.model.hides,(0≤h.table∧h.table<(j.model.tables.length:Int)))
  (hw:WfM m) (hlen:m.es.length≤j.model.hides.length) (hk:∀ t,t∈zbX m↔∃ h∈j.model.hides,h.table=t) :
  loopF (zf.l3 n j) n (m,0)=some (j.model.hides.all λh=>!zaF j.model.hides j.model.tables.length h.to h.table):=by
 cases hac:(j.model.hides.all λh=>!zaF j.model.hides j.model.tables.length h.to h.table) with
 | true=>
  have hac':∀ h∈j.model.hides,zaF j.model.hides j.model.tables.length h.to h.table=false:=λh hm=>by
   have:=yo.1 hac h hm;simpa using this
  have hrange:∀ m':GMap Int Bool,(∀ t∈zbX m',∃ h∈j.model.hides,h.table=t)→m'.es≠[]→∃ e∈m'.es,∀ h∈j.model.hides,¬ (h.table=e.2.1∧h.to∈zbX m'):=λm' hm' hne=>by
   obtain ⟨t,ht,hs⟩:=sink_ex (hs:=j.model.hides) (T:=j.model.tables.length) (S:=zbX m') (by simpa [zbX] using hne) (λt ht=>by
    obtain ⟨h,hh,rfl⟩:=hm' t ht;exact hok h hh) hac'
   simp only [zbX,yU] at ht;obtain ⟨e,he,rfl⟩:=ht;exact ⟨e,he,hs⟩
  refine zbE (body:=zf.l3 n j) (len:=j.model.hides.length) (st:=λm i=>(m,(i:Int))) (g:=λ_ _=>some true) (λi m=>WfM m∧m.es.length+i≤j.model.hides.length∧∀ t∈zbX m,∃ h∈j.model.hides,h.table=t) (λrec i m hi hI hr=>?_) (λrec m hI=>?_) n 0 m (yp _) (by omega) ⟨hw,by omega,λt ht=>(hk t).1 ht⟩
  ·obtain ⟨h1,h2,h3⟩:=hI;simp only [zf.l3,zo hi,if_true];refine hidden_round (r:=true) (by omega) (by omega) (λm' seen=>(WfM m'∧m'.clock=m.clock∧∀ t∈zbX m',∃ h∈j.model.hides,h.table=t)∧(m'.es.length+i+1≤j.model.hides.length∨(m'.es.length+i≤j.model.hides.length∧∃ e∈m'.left seen,∀ h∈j.model.hides,¬ (h.table=e.2.1∧h.to∈zbX m')))) (λm' seen hJ=>⟨hJ.1.1,hJ.1.2.1⟩) (λm' seen hJ hl=>?_) (λm' seen e hJ he=>?_) ⟨⟨h1,rfl,h3⟩,?_⟩ (by omega)
   ·rw [zc (by omega)];refine hr m' ⟨hJ.1.1,?_,hJ.1.2.2⟩;rcases hJ.2 with h | ⟨-,e,he,-⟩
    ·omega
    ·rw [hl] at he;cases he
   ·obtain ⟨⟨w1,w2,w3⟩,hd⟩:=hJ;have hem:e∈m'.es:=(List.mem_filter.1 he).1;obtain ⟨d1,d2,d3,d4,-⟩:=w1.del hem;cases hb:(j.model.hides.any λh=>h.table==e.2.1&&decide (h.to∈zbX m')) with
    | true=>
     rw [if_pos rfl];refine ⟨⟨w1,w2,w3⟩,?_⟩;rcases hd with hd | ⟨hd,x,hx,hs⟩
     ·exact .inl hd
     ·refine .inr ⟨hd,x,?_,hs⟩;simp only [GMap.left,List.mem_filter] at hx ⊢;refine ⟨hx.1,?_⟩;have hne:x.1≠e.1:=λe1=>by
       have:x=e:=zh0 w1.nd x hx.1 e hem e1;subst this;simp only [uv,yc,beq_iff_eq,yd] at hb;obtain ⟨h,hh,q⟩:=hb;exact hs h hh q
      simp only [yw,List.contains_eq_mem,yF,yK,yO,not_or] at hx ⊢;exact ⟨hx.2,hne⟩
    | false=>
     rw [if_neg (by simp)];refine ⟨⟨d1,by omega,λt ht=>?_⟩,.inl ?_⟩
     ·refine w3 t ?_;simp only [zbX,yU] at ht ⊢;obtain ⟨x,hx,rfl⟩:=ht;exact ⟨x,d4.subset hx,rfl⟩
     ·rcases hd with hd | ⟨hd,-⟩ <;> omega
   ·by_cases hne:m.es=[]
    ·left;rw [hne];simp;omega
    ·right;refine ⟨h2,?_⟩;obtain ⟨e,he,hs⟩:=hrange m h3 hne;exact ⟨e,by simp [GMap.left,he],hs⟩
  ·have:m.es.length=0:=by omega
   simp [zf.l3,this]
 | false=>
  obtain ⟨h0,hm0,hl0⟩:∃ h∈j.model.hides,zaF j.model.hides j.model.tables.length h.to h.table=true:=by
   simp only [List.all_eq_false] at hac;obtain ⟨h,hm,hx⟩:=hac;exact ⟨h,hm,by simpa using hx⟩
  have hclosed:∀ t,((∃ k,zaF j.model.hides k h0.to t=true)∧∃ k,zaF j.model.hides k t h0.table=true)→∃ h∈j.model.hides,h.table=t∧((∃ k,zaF j.model.hides k h0.to h.to=true)∧∃ k,zaF j.model.hides k h.to h0.table=true):=by
   rintro t ⟨⟨a,ha⟩,b,hb⟩;have hcase:t=h0.table∨∃ h∈j.model.hides,h.table=t∧∃ k,zaF j.model.hides k h.to h0.table=true:=by
    cases b with
    | zero=>left;simpa [zaF] using hb
    | succ b=>
     simp only [zaF,yz,beq_iff_eq,uv,yc] at hb;rcases hb with hb | ⟨h,hm,e,hx⟩
     ·exact .inl hb
     ·exact .inr ⟨h,hm,e,b,hx⟩
   rcases hcase with rfl | ⟨h,hm,rfl,k,hx⟩
   ·exact ⟨h0,hm0,rfl,⟨0,zfA⟩,_,hl0⟩
   ·exact ⟨h,hm,rfl,⟨_,leadsP_snoc hm ha⟩,k,hx⟩
  generalize hC:(λt=>(∃ k,zaF j.model.hides k h0.to t=true)∧∃ k,zaF j.model.hides k t h0.table=true)=C at *;have hC':∀ t,C t→∃ h∈j.model.hides,h.table=t∧C h.to:=by
   intro t ht;rw [← hC] at ht ⊢;exact hclosed t ht
  have hCs:C h0.to:=by rw [← hC];exact ⟨⟨0,zfA⟩,_,hl0⟩
  refine zbE (body:=zf.l3 n j) (len:=j.model.hides.length) (st:=λm i=>(m,(i:Int))) (g:=λ_ _=>some false) (λi m=>WfM m∧m.es.length≤1000∧∀ t,C t→t∈zbX m) (λrec i m hi hI hr=>?_) (λrec m hI=>?_) n 0 m (yp _) (by omega) ⟨hw,by omega,λt ht=>(hk t).2 (by
   obtain ⟨h,hh,e,-⟩:=hC' t ht;exact ⟨h,hh,e⟩)⟩
  ·obtain ⟨h1,h2,h3⟩:=hI;simp only [zf.l3,zo hi,if_true];refine hidden_round (r:=false) (by omega) (by omega) (λm' seen=>WfM m'∧m'.clock=m.clock∧m'.es.length≤1000∧∀ t,C t→t∈zbX m') (λm' seen hJ=>⟨hJ.1,hJ.2.1⟩) (λm' seen hJ hl=>?_) (λm' seen e hJ he=>?_) ⟨h1,rfl,h2,h3⟩ (by omega)
   ·rw [zc (by omega)];exact hr m' ⟨hJ.1,hJ.2.2⟩
   ·obtain ⟨w1,w2,w3,w4⟩:=hJ;have hem:e∈m'.es:=(List.mem_filter.1 he).1;obtain ⟨d1,d2,d3,-,d5⟩:=w1.del hem;cases hb:(j.model.hides.any λh=>h.table==e.2.1&&decide (h.to∈zbX m')) with
    | true=>
     rw [if_pos rfl];exact ⟨w1,w2,w3,w4⟩
    | false=>
     rw [if_neg (by simp)];refine ⟨d1,by omega,by omega,λt ht=>d5 t (w4 t ht) λe1=>?_⟩;obtain ⟨h,hh,hht,hto⟩:=hC' t ht;have:=List.any_eq_false.1 hb h hh;apply this;simp only [yc,beq_iff_eq,yd];exact ⟨by omega,w4 _ hto⟩
  ·obtain ⟨-,-,h3⟩:=hI;have:=h3 _ hCs;have hne:m.es.length≠0:=λe=>by
    simp only [zbX,List.length_eq_zero_iff.1 e,List.map_nil,List.not_mem_nil] at this
   simp only [zf.l3,zap,ye,if_false,yh,ub];omega
theorem model_hidden_eq {n m l} (hn:1000000≤n) (hS:SmallM m):zf n ⟨m,l⟩=some (hidesP m):=by
 have hhl:=hS.hides;have htl:=hS.tables;unfold zf hidesP;rw [if_neg (by simp;omega),decide_eq_true hhl,yE];have:=zay (body:=zf.l1 n ⟨m,l⟩) (l:=m.hides) (n:=n) (st:=λi=>(i:Int)) (hideP m) (some false) (loopF (zf.l2 n ⟨m,l⟩) n (GMap.empty,0)) (λrec i hi=>?_) (λrec=>?_) (by omega)
 ·simp only [Int.natCast_zero] at this;rw [this];cases hall:m.hides.all (hideP m) with
  | false=>simp
  | true=>
   rw [if_pos rfl,yE];have hok:∀ h∈m.hides,(0≤h.table∧h.table<(m.tables.length:Int)):=λh hm=>by
    have:=yo.1 hall h hm;simp only [hideP,yc,yd] at this;exact this.1.1.1
   refine zbE (body:=zf.l2 n ⟨m,l⟩) (len:=m.hides.length) (st:=λg i=>(g,(i:Int))) (g:=λ_ _=>some (m.hides.all λh=>!zaF m.hides m.tables.length h.to h.table)) (λi g=>WfM g∧g.es.length≤i∧∀ t,t∈zbX g↔∃ h∈m.hides.take i,h.table=t) (λrec i g hi hI hr=>?_) (λrec g hI=>?_) n 0 GMap.empty (yp _) (by omega) ⟨WfM.empty,by simp [GMap.empty],λt=>by simp [zbX,GMap.empty]⟩
   ·obtain ⟨h1,h2,h3⟩:=hI;obtain ⟨p1,p2,p3⟩:=h1.put m.hides[i].table;simp only [zf.l2,zo hi,if_true,za hi,ya,zc (i:=i) (by omega)];refine hr _ ⟨p1,by omega,λt=>?_⟩;rw [p3,h3,yr hi];simp only [yK,yO];constructor
    ·rintro (⟨h,hm,e⟩ | e)
     ·exact ⟨h,.inl hm,e⟩
     ·exact ⟨_,.inr rfl,e.symm⟩
    ·rintro ⟨h,hm | rfl,e⟩
     ·exact .inl ⟨h,hm,e⟩
     ·exact .inr e.symm
   ·obtain ⟨h1,h2,h3⟩:=hI;simp only [zf.l2,zap,ye,if_false];exact hidden_rounds (j:=⟨m,l⟩) hn (by simp only [];omega) hok h1 h2 (λt=>by rw [h3,List.take_length])
 ·simp only [zf.l1,zah,zo hi,if_true,za hi,ya,yj,yy,yf,zc (i:=i) (by omega)];generalize m.hides[i]=h;by_cases hb:(((0≤h.table∧h.table<(m.tables.length:Int))∧(0≤h.to∧h.to<(m.tables.length:Int)))∧h.table≠h.to)
  ·simp only [grd,if_true];rw [if_neg (by simp [hb])];obtain ⟨t,u,ht,hu⟩:=hide_idx hb.1.1 hb.1.2;have hhp:hideP m h=(((t.kind==0)&&(u.kind==0))&&((decide (0≤h.column)&&decide (h.column<(t.columns.length:Int)))&&(((u.columns.length:Int)==1)&&((idx u.columns 0).getD default==(idx t.columns h.column).getD default)))):=by
    unfold hideP;rw [ht,hu];simp [hb]
   simp only [ht,hu,ya];rw [hhp];by_cases hk:(((t.kind==0)&&(u.kind==0))&&((decide (0≤h.column)&&decide (h.column<(t.columns.length:Int)))&&((u.columns.length:Int)==1)))=true
   ·have hk':=hk;simp only [yc,yd,beq_iff_eq] at hk';obtain ⟨⟨k1,k2⟩,⟨k3,k4⟩,k5⟩:=hk';obtain ⟨x,hx⟩:=za9 (l:=u.columns) (i:=0) (by omega) (by omega);obtain ⟨y,hy⟩:=za9 k3 k4;simp only [k1,k2,k3,k4,k5,hx,hy,yf,decide_true,beq_self_eq_true,uP,yj,yy,Bool.or_false,yE,uQ,uf,if_true];by_cases hxy:x=y
    ·simp [hxy]
    ·simp [hxy]
   ·have hf:(((((t.kind != 0)||(u.kind != 0))||(!(decide (0≤h.column)&&decide (h.column<(t.columns.length:Int)))))||((u.columns.length:Int) != 1)))=true:=by
     simp only [yc,yd,beq_iff_eq] at hk;simp only [yz,bne_iff_ne,yw,uo,yF];omega
    simp only [hf,uO,if_true];rw [← Bool.and_assoc (decide (0≤h.column)&&decide (h.column<(t.columns.length:Int))),← Bool.and_assoc];simp only [yH] at hk;rw [hk];rfl
  ·have hhp:hideP m h=false:=by
    unfold hideP;cases hx:(((decide (0≤h.table)&&decide (h.table<(m.tables.length:Int)))&&(decide (0≤h.to)&&decide (h.to<(m.tables.length:Int))))&&(h.table != h.to)) with
    | false=>rfl
    | true=>
     simp only [yc,yd,bne_iff_ne] at hx;exact absurd hx hb
   rw [hhp];simp only [grd,if_true];rw [if_pos (by
    simp only [yz,yw,uo,yF,beq_iff_eq];omega)]
   rfl
 ·simp [zf.l1]
def zdp (m:Model):Bool:=(zaf m.sorts m.tables&&(decide (m.families.length≤24)&&distP [] m.families))&&(consP m (zQ m.sorts true m.tables)&&(opsP m&&(actsP m (zQ m.sorts true m.tables).length&&hidesP m)))
theorem zha {n m} (hF:Fuel n) (hS:SmallM m):zcr n m=some (zdp m):=by
 have hn:=hF.big;have hs:=hS.sorts;have ht:=hS.tables;have hf:=hS.families;have hcs:∀ t∈m.tables,t.columns.length≤1000:=λt h=>by have:=hS.tab t h;omega
 unfold zcr zdp;rw [zeY hF (by omega) (by omega) hcs,zfd hF (by omega)];simp only [ya,yj,yy,grd,if_true,yf];have e1:decide (24<(m.families.length:Int)) = !decide (m.families.length≤24):=by rw [← decide_not];exact decide_eq_decide.2 (by omega)
 rw [e1];cases hL:zaf m.sorts m.tables with
 | false=>simp
 | true=>
  by_cases hd:(decide (m.families.length≤24)&&distP [] m.families)=true
  ·rw [hd];simp only [yc] at hd;rw [hd.1,hd.2,if_neg (by simp),zf6 hF (by omega) (by omega) hcs,hL];simp only [if_true,ya];obtain ⟨l1,l2,l3,l4⟩:=zag hL;have hlen:=zct (sizes:=m.sorts) (s:=true) (l:=m.tables) λx hx=>(l4 x hx).2.2.2.2
   rw [zgX hS (λt ht=>(l4 t ht).2.2.2.1) (by omega) (by omega),zhw hF hS,model_hidden_eq (by omega) hS];simp only [ya,yj,yf,yy,if_true];cases consP m (zQ m.sorts true m.tables) with
   | false=>simp
   | true=>
    cases hO:opsP m with
    | false=>simp
    | true=>
     rw [model_actions_eq hF hS hO];simp
  ·have h2:(!true||!decide (m.families.length≤24)||!distP [] m.families)=true:=by
    simp only [yc,not_and,yH] at hd;cases h1:decide (m.families.length≤24) with
    | false=>rfl
    | true=>rw [hd h1];rfl
   rw [if_pos h2];simp only [yH] at hd;rw [hd];rfl
theorem zdJ {n m} (hn:4294967296≤n) (hS:SmallM m):zcX n m=some (zdp m):=by
 have hs:=hS.sorts;have ht:=hS.tables;have hf:=hS.families;have hcs:∀ t∈m.tables,t.columns.length≤1000∧t.name.length≤4096:=λt h=>by have:=hS.tab t h;omega
 unfold zcX zdp;rw [ze3 (by omega) (by omega) (by omega) hcs,zfi (by omega) (by omega) (λw hw=>by have:=hS.fam w hw;omega)];simp only [ya,yj,yy,grd,if_true,yf];have e1:decide (24<(m.families.length:Int)) = !decide (m.families.length≤24):=by rw [← decide_not];exact decide_eq_decide.2 (by omega)
 rw [e1];cases hL:zaf m.sorts m.tables with
 | false=>simp
 | true=>
  by_cases hd:(decide (m.families.length≤24)&&distP [] m.families)=true
  ·rw [hd];simp only [yc] at hd;rw [hd.1,hd.2,if_neg (by simp),zgZ hS hL (by omega),ref13_actions_eq (by omega) hS hL,ref13_hidden_eq hn hS];simp only [ya,yj,yf,yy,if_true,yE];simp only [Bool.and_assoc]
  ·have h2:(!true||!decide (m.families.length≤24)||!distP [] m.families)=true:=by
    simp only [yc,not_and,yH] at hd;cases h1:decide (m.families.length≤24) with
    | false=>rfl
    | true=>rw [hd h1];rfl
   rw [if_pos h2];simp only [yH] at hd;rw [hd];rfl
end Go.Proofs.YtbnhmfnagdgcmaaGreatDoor
