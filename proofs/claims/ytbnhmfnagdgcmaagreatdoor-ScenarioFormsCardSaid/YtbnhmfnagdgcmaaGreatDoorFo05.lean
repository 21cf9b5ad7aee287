/- Part of the proof of one law of the seat. -/
import Derived.Test.YtbnhmfnagdgcmaaGreatDoorFo04
set_option linter.unusedVariables false
set_option linter.unusedSectionVars false
set_option linter.unusedSimpArgs false
set_option maxHeartbeats 4000000
namespace Go.Proofs.YtbnhmfnagdgcmaaGreatDoor
open Go Go.RowKit
abbrev yj:=@_root_.Option.isSome_some
abbrev yw:=@_root_.Bool.or_true
abbrev yC:=@_root_.List.take_succ_eq_append_getElem
abbrev yE:=@_root_.Bool.not_eq_true
abbrev y7:=@_root_.Bool.false_and
abbrev y9:=@_root_.Bool.or_eq_false_iff
abbrev ul:=@_root_.List.length_replicate
abbrev uq:=@_root_.Bool.not_false
abbrev ut:=@_root_.List.mem_flatMap
abbrev uv:=@_root_.Nat.mul_le_mul
abbrev uF:=@_root_.Nat.pow_le_pow_right
abbrev uK:=@_root_.Bool.and_self
abbrev uN:=@_root_.Bool.true_or
abbrev uO:=@_root_.bne_self_eq_false
section
variable [Env]
theorem ref13_less_ok (n t0 t1 r) (h:ref13_less n t0 t1=some r):Pure pg 123 [eA t0,eA t1] (.bool r):=by
 refine Pure.ot Tryz.func123 I Tryz.ntmps123 I λA w=>.sA 1 I<|.seq<|.sA 1 I<|.block<|.L [0,1] h (λv=>[(5,.d (.int v))]) (λv=>[]) I λ_ x13 h=>.seq<|.seq<|.plain 10 I<|.A 2 I<|.p I (.len I U22 I)<|.A 2 I<|.jA 4 (decide (x13<(t1.length:Int))) I (λb15=>?_) ?_
 ·refine .A 2 I<|.q I (.len I U22 I)<|.A 1 I<|.nil I
 refine .nil<|.nil<|.K [0,1,5,15] I<|.condS I h (λh=>?_) λh=>?_
 ·refine .skip<|.seq<|.block<|.seq<|.draw 9 Hm (by kernel_rfl) (by kernel_rfl)<|.A 2 I<|.X h I λx16 h=>.A 3 I<|.X h I λx17 h=>.A 2 I<|.nil<|.nil<|.condS I h (λh=>?_) λh=>?_
  ·refine .seq<|.draw 10 Hm (by kernel_rfl) (by kernel_rfl)<|.A 2 I<|.X h I λx18 h=>.A 3 I<|.X h I λx19 h=>.A 3 I<|.nil<|.nil<|.K [4] I<|.ret (rO h I)
  ·refine .skip<|.rA 3 I (ndE h I)
 ·refine .exit<|.S 1 I<|.p I (.len I U22 I)<|.A 1 I<|.p I (.len I U22 I)<|.A 2 I<|.nil<|.ret (rO h I)
theorem ref09_nth_ok (n t0 t1 t2 r) (h:ref09_nth n t0 t1 t2=some r):Pure pg 199 [eA t0,eA t1,.int t2] (eA r):=by
 refine Pure.ot Tryz.func199 I Tryz.ntmps199 I λA w=>.sr<|.p I (.nilS 1 (α:=Int) D.int I)<|.nil<|.S 1 I<|.p I (.len I U22 I)<|bK h λx1 q1 h=>.makeVec (enc:=D.int) (z:=(0:Int)) I I I I E22 I I I (.val Zv3) q1<|.A 1 I<|.nil<|.seq<|.S 1 I<|.p I (.len I U22 I)<|.A 2 I<|.nil<|.block<|.L [0,1] h (λv=>[(2,.d (.int v.2.1)),(7,.vec 0 (List.length v.1)),(8,.d (.int v.2.2))]) (λv=>[(0,.vec 3 1 (List.map D.int v.1))]) I λ_ ⟨b0_24,x25,x26⟩ h=>.seq<|.sA 2 I<|.K [0,1,2,7,8,16] I<|.condS I h (λh=>?_) λh=>?_
 ·refine .skip<|.seq<|.block<|.S 6 I<|.X h I λx28 h=>.A 1 I<|.X h I λx29 h=>.A 1 I<|bK h λx30 q30 h=>.p I (.rem6 I I I q30)<|bK h λx31 q31 h=>.p I (.idxV I I I I I U22 S3 q31)<|bK h λb0_32 hb0_32 h=>.storeEl (enc:=D.int) I I I I I I I I I C3 hb0_32<|.relen 7 I (sto_len hb0_32)<|.relen 19 I (sto_len hb0_32)<|.nil<|.region<|.A 4 I<|.X h I λx33 h=>.A 1 I<|.X h I λx34 h=>.A 1 I<|bK h λx35 q35 h=>.p I (.quo6 I I I q35)<|.A 1 I<|.nil<|.K [0,1,2,7,8] I<|.rA 3 I (ndE h I)
 ·refine .exit<|.sA 2 I<|.ret ?_
  cases h
  exact retOne I (.vec I (by simp))
theorem ref09_Tuple_ok (n t0 t1 t2 t3 r) (h:ref09_Tuple n t0 t1 t2 t3=some r):Pure pg 157 [eA t0,eB t1,.bool t2,.int t3] (.tup [.int r.1,eA r.2.1,.bool r.2.2]):=by
 refine Pure.ot Tryz.func157 I Tryz.ntmps157 I λA w=>.S 1 I<|.p I (.nilS 1 (α:=Int) D.int I)<|.A 1 I<|.nil<|.seq<|.S 2 I<|.Z h I (ref09_Valid_ok _ _ _) λx1 h=>.A 1 I<|.nil<|.condS I h (λh=>?_) λh=>?_
 ·refine .S 1 I<|.p I (.nilS 1 (α:=Int) D.int I)<|.A 1 I<|.nil<|.ret ?_
  cases h
  exact retThree I I I (.d _) (.d _) (.d _)
 ·refine .skip<|.seq<|.sA 1 I<|.block<|.L [0,1,2,3] h (λv=>[(11,.d (.int v))]) (λv=>[]) I λ_ x24 h=>.seq<|.S 2 I<|.p I (.len I U23 I)<|.A 1 I<|.nil<|.K [0,1,2,3,11,20] I<|.condS I h (λh=>?_) λh=>?_
  ·refine .skip<|.seq<|.block<|.S 3 I<|.X h I λx26 h=>.p I (.fa I (G119_4 _))<|.A 3 I<|.nil<|.seq<|.plain 27 I<|.A 2 I<|.X h I λx27 h=>.p I (.fa I (G119_1 _))<|.A 1 I<|.Z h I (ref09_strict_ok _ _) λx28 h=>.A 1 I<|.p I (.beq I U4 I I)<|.A 1 I<|.jA 2 (decide (0≤t3)) I (λb29=>?_) ?_
   ·refine .A 2 I<|.nil I
   refine .A 1 I<|.jA 2 (decide (0≤sub64 t3 x26.first)) I (λb30=>?_) ?_
   ·refine .A 2 I<|.nil I
   refine .A 1 I<|gK h λc32 h=>gK h λc33 h=>.jA 9 (decide (sub64 t3 x26.first<((ref09_number n t0 (((idx t1 x24).getD default).columns)).getD default))) I (λb31=>?_) ?_
   ·refine .A 4 I<|.q I (.ix I U23 S119 (someD (impT c32 b31)))<|.q I (.fa I (G119_2 _))<|.A 1 I<|.q I (.call I (kC I) I (ref09_number_ok _ _ _ _ (someD (impT c33 b31))))<|.A 1 I<|.nil I
   refine .nil<|.nil<|.K [0,1,2,3,11,12,56] I<|.condS I h (λh=>?_) λh=>?_
   ·refine .S 4 I<|.X h I λx34 h=>.p I (.fa I (G119_2 _))<|.A 2 I<|.Z h I (ref09_nth_ok _ _ _ _) λx35 h=>.A 3 I<|.nil<|.ret ?_
    cases h
    exact retThree I I I (.d _) (.d _) (.d _)
   ·refine .skip<|.rA 3 I (ndE h I)
  ·refine .exit<|.S 1 I<|.p I (.nilS 1 (α:=Int) D.int I)<|.A 1 I<|.nil<|.ret ?_
   cases h
   exact retThree I I I (.d _) (.d _) (.d _)
theorem ref13_set_ok (n t0 r) (h:ref13_set n t0=some r):Pure pg 158 [.int t0] (.bool r):=by
 refine Pure.ot Tryz.func158 I Tryz.ntmps158 I λA w=>.sA 1 I<|.seq<|.plain 6 I<|.A 3 I<|.jO 2 (t0==3) I (λb1=>?_) ?_
 ·refine .A 2 I<|.nil I
 refine .nil<|.A 1 I<|.nil<|.ret (rO h I)
theorem ref13_effect_ok (n t0 t1 r) (h:ref13_effect n t0 t1=some r):Pure pg 124 [Model.enc t0,Effect.enc t1] (.bool r):=by
 refine Pure.ot Tryz.func124 I Tryz.ntmps124 I λA w=>.sA 3 I<|.S 1 I<|.Z h I (ref13_strict_ok _ _) λx1 h=>.p I (.len I U82 I)<|.A 1 I<|.nil<|.seq<|.sA 1 I<|.block<|.L [2,3,5] h (λv=>[(6,.d (.int v))]) (λv=>[]) I λ_ x20 h=>.seq<|.S 1 I<|.p I (.fa I (G60_0 _))<|.A 1 I<|.p I (.len I U56 I)<|.A 1 I<|.nil<|.K [2,3,5,6,22] I<|.condS I h (λh=>?_) λh=>?_
 ·refine .skip<|.seq<|.block<|.sr<|.p I (.fa I (G60_0 _))<|.A 2 I<|.X h I λx22 h=>.A 1 I<|.allocStore I I I I I I I I (by simp) I I Z125<|.nil<|.seq<|.draw 36 Hm (by kernel_rfl) (by kernel_rfl)<|.p I (.fa I (G125_0 _))<|.A 3 I<|.jO 4 (decide ((x1.length:Int)≤x22.cell)) I (λb23=>?_) ?_
  ·refine .q I (.fa I (G125_0 _))<|.A 3 I<|.nil I
  refine .A 1 I<|gK h λc26 h=>.jO 14 ((decide (0<x20))&&(decide (x22.cell≤((idx t1.delta (sub64 x20 1)).getD default).cell))) I (λb24=>?_) ?_
  ·refine .A 3 I<|.jAnd 10 (b2:=decide (x22.cell≤((idx t1.delta (sub64 x20 1)).getD default).cell)) I I I I (.inr ⟨_,_,_,I,I,I⟩) (λ_ _ _ h1 h2=>by cases h1;cases h2;decide) I I (λb25=>?_) ?_
   ·refine .q I (.fa I (G60_0 _))<|.A 3 I<|.q I (.ix I U56 S125 (someD (impT (impF c26 b24) b25)))<|.q I (.fa I (G125_0 _))<|.A 1 I<|.q I (.fa I (G125_0 _))<|.A 2 I<|.nil I
   exact .nil I
  refine .A 1 I<|.jO 3 (x22.add==0) I (λb27=>?_) ?_
  ·refine .q I (.fa I (G125_1 _))<|.A 2 I<|.nil I
  refine .A 1 I<|gK h λc29 h=>.jO 4 (!((ref13_between n x22.add 1000000000).getD default)) I (λb28=>?_) ?_
  ·refine .q I (.fa I (G125_1 _))<|.A 1 I<|.q I (.call I (kC I) I (ref13_between_ok _ _ _ _ (someD (impF c29 b28))))<|.A 1 I<|.nil I
  refine .nil<|.nil<|.K [2,3,5,6,65] I<|.condS I h (λh=>?_) λh=>?_
  ·refine .sA 1 I<|.ret (rO h I)
  ·refine .skip<|.rA 3 I (ndE h I)
 ·refine .exit<|.seq<|.sA 1 I<|.block<|.L [2,3,5] h (λv=>[(8,.d (.int v))]) (λv=>[]) I λ_ x36 h=>.seq<|.S 1 I<|.p I (.fa I (G60_1 _))<|.A 1 I<|.p I (.len I U57 I)<|.A 1 I<|.nil<|.K [2,3,5,8,70] I<|.condS I h (λh=>?_) λh=>?_
  ·refine .skip<|.seq<|.block<|.sr<|.p I (.fa I (G60_1 _))<|.A 2 I<|.X h I λx38 h=>.A 2 I<|.Z h I (ref13_row_ok _ _ _) λx39 h=>.A 1 I<|.nil<|.condS I h (λh=>?_) λh=>?_
   ·refine .sA 1 I<|.ret (rO h I)
   ·refine .skip<|.rA 3 I (ndE h I)
  ·refine .exit<|.seq<|.sA 1 I<|.block<|.L [2,3] h (λv=>[(9,.d (.int v))]) (λv=>[]) I λ_ x70 h=>.seq<|.S 1 I<|.p I (.fa I (G60_2 _))<|.A 1 I<|.p I (.len I U58 I)<|.A 1 I<|.nil<|.K [2,3,9,85] I<|.condS I h (λh=>?_) λh=>?_
   ·refine .skip<|.seq<|.block<|.sr<|.p I (.fa I (G60_2 _))<|.A 2 I<|.X h I λx72 h=>.A 1 I<|.allocStore I I I I I I I I (by simp) I I Z184<|.nil<|.S 4 I<|.p I (.fa I (G184_1 _))<|.A 1 I<|.Z h I (ref09_Tuple_ok _ _ _ _ _) λx73 h=>.A 1 I<|.p I (.extract I I I)<|.p I (.extract I I I)<|.p I (.extract I I I)<|.A 3 I<|.nil<|.K [2,3,9,10,11,13] I<|.seq<|.seq<|.draw 18 Hm (by kernel_rfl) (by kernel_rfl)<|.A 3 I<|gK h λc76 h=>.jO 14 ((decide (0<x70))&&(decide (x72.cell≤((idx t1.updates (sub64 x70 1)).getD default).cell))) I (λb74=>?_) ?_
    ·refine .A 3 I<|.jAnd 10 (b2:=decide (x72.cell≤((idx t1.updates (sub64 x70 1)).getD default).cell)) I I I I (.inr ⟨_,_,_,I,I,I⟩) (λ_ _ _ h1 h2=>by cases h1;cases h2;decide) I I (λb75=>?_) ?_
     ·refine .q I (.fa I (G60_2 _))<|.A 3 I<|.q I (.ix I U58 S184 (someD (impT (impF c76 b74) b75)))<|.q I (.fa I (G184_1 _))<|.A 1 I<|.q I (.fa I (G184_1 _))<|.A 2 I<|.nil I
     exact .nil I
    refine .nil<|.nil<|.K [2,3,9,10,11,121] I<|.condS I h (λh=>?_) λh=>?_
    ·refine .sA 1 I<|.ret (rO h I)
    ·refine .skip<|.S 3 I<|.X h I λx77 h=>.A 1 I<|.allocStore I I I I I I I I (by simp) I I Z119<|.nil<|.seq<|.seq<|.plain 18 I<|.p I (.fa I (G119_1 _))<|.A 1 I<|.Z h I (ref13_set_ok _ _) λx78 h=>.A 1 I<|.jA 13 (((x72.kind != 0)&&(x72.kind != 1))||(x72.value != 0)) I (λb79=>?_) ?_
     ·refine .q I (.fa I (G184_0 _))<|.A 3 I<|.jAnd 3 (b2:=x72.kind != 1) I I I I (.inr ⟨_,_,_,I,I,I⟩) (λ_ _ _ h1 h2=>by cases h1;cases h2;decide) I I (λb80=>?_) ?_
      ·refine .q I (.fa I (G184_0 _))<|.A 2 I<|.nil I
      refine .A 1 I<|.jOr 3 (b2:=x72.value != 0) I I I I (.inr ⟨_,_,_,I,I,I⟩) (λ_ _ _ h1 h2=>by cases h1;cases h2;decide) I I (λb81=>?_) ?_
      ·refine .q I (.fa I (G184_2 _))<|.A 2 I<|.nil I
      exact .nil I
     refine .nil<|.nil<|.K [2,3,9,10,14,144] I<|.condS I h (λh=>?_) λh=>?_
     ·refine .sA 1 I<|.ret (rO h I)
     ·refine .skip<|.seq<|.plain 25 I<|.p I (.fa I (G119_1 _))<|.A 1 I<|.Z h I (ref13_set_ok _ _) λx82 h=>.A 2 I<|.jA 19 (((x72.kind != 2)||(decide (x72.value<x77.range.lo)))||(decide (x77.range.hi<x72.value))) I (λb83=>?_) ?_
      ·refine .q I (.fa I (G184_0 _))<|.A 3 I<|.jOr 6 (b2:=decide (x72.value<x77.range.lo)) I I I I (.inr ⟨_,_,_,I,I,I⟩) (λ_ _ _ h1 h2=>by cases h1;cases h2;decide) I I (λb84=>?_) ?_
       ·refine .q I (.fa I (G184_2 _))<|.A 1 I<|.q I (.fa I (G119_3 _))<|.q I (.fa I (G85_0 _))<|.A 2 I<|.nil I
       refine .A 1 I<|.jOr 6 (b2:=decide (x77.range.hi<x72.value)) I I I I (.inr ⟨_,_,_,I,I,I⟩) (λ_ _ _ h1 h2=>by cases h1;cases h2;decide) I I (λb85=>?_) ?_
       ·refine .q I (.fa I (G184_2 _))<|.A 1 I<|.q I (.fa I (G119_3 _))<|.q I (.fa I (G85_1 _))<|.A 2 I<|.nil I
       exact .nil I
      refine .nil<|.nil<|.K [2,3,9,169] I<|.condS I h (λh=>?_) λh=>?_
      ·refine .sA 1 I<|.ret (rO h I)
      ·refine .skip<|.rA 3 I (ndE h I)
   ·refine .exit<|.seq<|.plain 10 I<|.p I (.fa I (G60_1 _))<|.A 1 I<|.p I (.len I U57 I)<|.A 2 I<|.jA 4 (decide ((t1.updates.length:Int)≤32)) I (λb86=>?_) ?_
    ·refine .q I (.fa I (G60_2 _))<|.A 1 I<|.q I (.len I U58 I)<|.A 1 I<|.nil I
    refine .nil<|.A 1 I<|.nil<|.ret (rO h I)
theorem ref13_actions_ok (n t0 r) (h:ref13_actions n t0=some r):Pure pg 84 [Model.enc t0] (.bool r):=by
 refine Pure.ot Tryz.func84 I Tryz.ntmps84 I λA w=>.sA 2 I<|.sr<|.buildVec [] I I I I I E24 I (λ_=>I) I (enc:=D.str)<|.A 1 I<|.nil<|.seq<|.sA 1 I<|.block<|.L [1] h (λv=>[(3,.vec 0 (List.length v.1)),(4,.d (.int v.2))]) (λv=>[(0,.vec 9 1 (List.map D.str v.1))]) I λ_ ⟨b0_35,x36⟩ h=>.seq<|.S 3 I<|.p I (.len I U26 I)<|.A 1 I<|.nil<|.K [1,3,4,17] I<|.condS I h (λh=>?_) λh=>?_
 ·refine .skip<|.seq<|.block<|.S 3 I<|.X h I λx38 h=>.A 1 I<|.allocStore I I I I I I I I (by simp) I I Z123<|.nil<|.S 1 I<|.p I (.fa I (G123_0 _))<|.A 1 I<|.p I (.buildSl [_] I I E24 I (λ_=>I) I (enc:=D.str))<|bK h λx39 q39 h=>.app I I I I I I I I E24 I (λ_=>I) q39<|.A 1 I<|.nil<|.seq<|.sA 1 I<|.block<|.L [1,3,4,5] h (λv=>[(6,.d (.int v))]) (λv=>[]) I λ_ x48 h=>.seq<|.S 1 I<|.p I (.fa I (G123_2 _))<|.A 1 I<|.p I (.len I U22 I)<|.A 1 I<|.nil<|.K [1,3,4,5,6,34] I<|.condS I h (λh=>?_) λh=>?_
  ·refine .skip<|.seq<|.block<|.seq<|.draw 17 Hm (by kernel_rfl) (by kernel_rfl)<|.p I (.fa I (G123_2 _))<|.A 2 I<|.X h I λx50 h=>.A 3 I<|gK h λc52 h=>.jO 9 (decide ((t0.sorts.length:Int)≤((idx x38.sorts x48).getD default))) I (λb51=>?_) ?_
   ·refine .q I (.fa I (G123_2 _))<|.A 2 I<|.q I (.ix I U22 S3 (someD (impF c52 b51)))<|.A 3 I<|.q I (.len I U22 I)<|.A 1 I<|.nil I
   refine .nil<|.nil<|.K [1,3,4,5,6,53] I<|.condS I h (λh=>?_) λh=>?_
   ·refine .sA 1 I<|.ret (rO h I)
   ·refine .skip<|.rA 3 I (ndE h I)
  ·refine .exit<|.sr<|.p I (.fa I (G123_2 _))<|.A 1 I<|.p I (.len I U22 I)<|.A 1 I<|.nil<|.condS I h (λh=>?_) λh=>?_
   ·refine .sA 1 I<|.ret (rO h I)
   ·refine .skip<|.rA 3 I (ndE h I)
 ·refine .exit<|.seq<|.seq<|.plain 15 I<|.A 2 I<|.p I (.len I U26 I)<|.A 2 I<|gK h λc54 h=>.jO 3 (!((ref13_distinct n b0_35).getD default)) I (λb53=>?_) ?_
  ·refine .A 1 I<|.q I (.callB I (kC I) (.cons I (.vec I (by simp)) .nil) I (ref13_distinct_ok _ _ _ (someD (impF c54 b53))))<|.A 1 I<|.nil I
  refine .A 1 I<|.jO 4 (decide (256<(t0.actions.length:Int))) I (λb55=>?_) ?_
  ·refine .A 2 I<|.q I (.len I U27 I)<|.A 1 I<|.nil I
  refine .nil<|.nil<|.condS I h (λh=>?_) λh=>?_
  ·refine .sA 1 I<|.K [2] I<|.ret (rO h I)
  ·refine .skip<|.seq<|.sA 1 I<|.K [1,7] I<|.block<|.L [1] h (λv=>[(7,.d (.int v))]) (λv=>[]) I λ_ x152 h=>.seq<|.S 3 I<|.p I (.len I U27 I)<|.A 1 I<|.nil<|.K [1,7,77] I<|.condS I h (λh=>?_) λh=>?_
   ·refine .skip<|.seq<|.block<|.S 3 I<|.X h I λx154 h=>.A 1 I<|.allocStore I I I I I I I I (by simp) I I Z62<|.nil<|.seq<|.seq<|.draw 25 Hm (by kernel_rfl) (by kernel_rfl)<|.p I (.fa I (G62_0 _))<|.A 3 I<|.jO 6 (decide ((t0.operations.length:Int)≤x154.operation)) I (λb155=>?_) ?_
    ·refine .q I (.fa I (G62_0 _))<|.A 3 I<|.q I (.len I U26 I)<|.A 1 I<|.nil I
    refine .A 1 I<|gK h λc157 h=>.jO 12 ((x154.arguments.length:Int) != ((((idx t0.operations x154.operation).getD default).sorts).length:Int)) I (λb156=>?_) ?_
    ·refine .q I (.fa I (G62_1 _))<|.A 1 I<|.q I (.len I U22 I)<|.A 2 I<|.q I (.fa I (G62_0 _))<|.A 1 I<|.q I (.ix I U26 S123 (someD (impF c157 b156)))<|.q I (.fa I (G123_2 _))<|.A 1 I<|.q I (.len I U22 I)<|.A 1 I<|.nil I
    refine .nil<|.nil<|.K [1,7,8,109] I<|.condS I h (λh=>?_) λh=>?_
    ·refine .sA 1 I<|.ret (rO h I)
    ·refine .skip<|.seq<|.sA 1 I<|.block<|.L [1,7,8] h (λv=>[(9,.d (.int v))]) (λv=>[]) I λ_ x182 h=>.seq<|.S 1 I<|.p I (.fa I (G62_1 _))<|.A 1 I<|.p I (.len I U22 I)<|.A 1 I<|.nil<|.K [1,7,8,9,114] I<|.condS I h (λh=>?_) λh=>?_
     ·refine .skip<|.seq<|.block<|.S 2 I<|.p I (.fa I (G62_0 _))<|.A 1 I<|.X h I λx184 h=>.p I (.fa I (G123_2 _))<|.A 2 I<|.X h I λx185 h=>.A 2 I<|.nil<|.seq<|.draw 36 Hm (by kernel_rfl) (by kernel_rfl)<|.A 3 I<|gK h λc187 h=>gK h λc188 h=>.jA 7 (!((ref13_between n ((idx x154.arguments x182).getD default) 9999).getD default)) I (λb186=>?_) ?_
      ·refine .q I (.fa I (G62_1 _))<|.A 2 I<|.q I (.ix I U22 S3 (someD (impT c187 b186)))<|.A 1 I<|.q I (.call I (kC I) I (ref13_between_ok _ _ _ _ (someD (impT c188 b186))))<|.A 1 I<|.nil I
      refine .A 1 I<|gK h λc191 h=>gK h λc193 h=>gK h λc194 h=>.jO 23 ((decide (0≤x185))&&((decide (((idx x154.arguments x182).getD default)<0))||(decide (((idx t0.sorts x185).getD default)≤((idx x154.arguments x182).getD default))))) I (λb189=>?_) ?_
      ·refine .A 3 I<|.jAnd 19 (b2:=(decide (((idx x154.arguments x182).getD default)<0))||(decide (((idx t0.sorts x185).getD default)≤((idx x154.arguments x182).getD default)))) I I I I (.inr ⟨_,_,_,I,I,I⟩) (λ_ _ _ h1 h2=>by cases h1;cases h2;decide) I I (λb190=>?_) ?_
       ·refine .q I (.fa I (G62_1 _))<|.A 2 I<|.q I (.ix I U22 S3 (someD (impT (impF c191 b189) b190)))<|.A 3 I<|.jOr 11 (b2:=decide (((idx t0.sorts x185).getD default)≤((idx x154.arguments x182).getD default))) I I I I (.inr ⟨_,_,_,I,I,I⟩) (λ_ _ _ h1 h2=>by cases h1;cases h2;decide) I I (λb192=>?_) ?_
        ·refine .q I (.fa I (G62_1 _))<|.A 2 I<|.q I (.ix I U22 S3 (someD (impF (impT (impF c193 b189) b190) b192)))<|.A 4 I<|.q I (.ix I U22 S3 (someD (impF (impT (impF c194 b189) b190) b192)))<|.A 2 I<|.nil I
        exact .nil I
       exact .nil I
      refine .nil<|.nil<|.K [1,7,8,9,162] I<|.condS I h (λh=>?_) λh=>?_
      ·refine .sA 1 I<|.ret (rO h I)
      ·refine .skip<|.rA 3 I (ndE h I)
     ·refine .exit<|.J [1,7,8] h (λv=>[]) (λv=>[]) I (λk_195 h=>?_) (λv h=>?_)
      ·refine .sA 2 I<|.condS I h (λh=>?_) λh=>?_
       ·refine .S 4 I<|.X h I λx196 h=>.A 1 I<|.allocStore I I I I I I I I (by simp) I I Z62<|.nil<|.seq<|.plain 20 I<|.p I (.fa I (G62_0 _))<|.A 1 I<|.p I (.fa I (G62_0 _))<|.A 3 I<|gK h λc199 h=>.jO 13 ((x196.operation==x154.operation)&&(!((ref13_less n x196.arguments x154.arguments).getD default))) I (λb197=>?_) ?_
        ·refine .q I (.fa I (G62_0 _))<|.A 1 I<|.q I (.fa I (G62_0 _))<|.A 3 I<|.jAnd 6 (b2:=!((ref13_less n x196.arguments x154.arguments).getD default)) I I I I (.inr ⟨_,_,_,I,I,I⟩) (λ_ _ _ h1 h2=>by cases h1;cases h2;decide) I I (λb198=>?_) ?_
         ·refine .q I (.fa I (G62_1 _))<|.A 1 I<|.q I (.fa I (G62_1 _))<|.A 1 I<|.q I (.call I (kC I) I (ref13_less_ok _ _ _ _ (someD (impT (impF c199 b197) b198))))<|.A 1 I<|.nil I
         exact .nil I
        refine .nil<|.nil<|.K [1,7,8,190] I<|.condS I h (λh=>?_) λh=>?_
        ·refine .sA 1 I<|.ret (rO h I)
        ·refine .skip (ndE h I)
       ·refine .skip (ndE h I)
      ·refine .S 1 I<|.p I (.fa I (G62_2 _))<|.A 1 I<|.Z h I (ref13_effect_ok _ _ _) λx200 h=>.A 1 I<|.nil<|.K [1,7,195] I<|.condS I h (λh=>?_) λh=>?_
       ·refine .sA 1 I<|.ret (rO h I)
       ·refine .skip<|.rA 3 I (ndE h I)
   ·refine .exit<|.sA 1 I<|.ret (rO h I)
theorem ref13_leads_body (n:Nat) (self:Model→Int→Int→Int→Option Bool) (hself:∀ (t0:Model) (t1:Int) (t2:Int) (t3:Int) (r:Bool),self t0 t1 t2 t3=some r→Pure pg 125 [Model.enc t0,.int t1,.int t2,.int t3] (.bool r)) (t0:Model) (t1:Int) (t2:Int) (t3:Int) (r:Bool) (h:ref13_leads.body n self t0 t1 t2 t3=some r):Pure pg 125 [Model.enc t0,.int t1,.int t2,.int t3] (.bool r):=by
 refine Pure.ot Tryz.func125 I Tryz.ntmps125 I λA w=>.sA 2 I<|.seq<|.sA 3 I<|.condS I h (λh=>?_) λh=>?_
 ·refine .sA 1 I<|.ret (rO h I)
 ·refine .skip<|.seq<|.sA 1 I<|.block<|.L [1,2,3,4] h (λv=>[(9,.d (.int v))]) (λv=>[]) I λ_ x13 h=>.seq<|.seq<|.plain 9 I<|.A 3 I<|.p I (.len I U28 I)<|.A 2 I<|.jA 2 (decide (0<t3)) I (λb15=>?_) ?_
  ·refine .A 2 I<|.nil I
  refine .nil<|.nil<|.K [1,2,3,4,9,21] I<|.condS I h (λh=>?_) λh=>?_
  ·refine .skip<|.seq<|.block<|.seq<|.draw 21 Hm (by kernel_rfl) (by kernel_rfl)<|.A 3 I<|.X h I λx16 h=>.p I (.fa I (G153_0 _))<|.A 4 I<|gK h λc18 h=>gK h λc19 h=>.jA 11 (((self t0 (((idx t0.hides x13).getD default).to) t2 (sub64 t3 1)).getD default)) I (λb17=>?_) ?_
   ·refine .A 4 I<|.q I (.ix I U28 S153 (someD (impT c18 b17)))<|.q I (.fa I (G153_2 _))<|.A 4 I<|.q I (.call I (kC I) I (hself _ _ _ _ _ (someD (impT c19 b17))))<|.nil I
   refine .nil<|.nil<|.K [1,2,3,4,9,44] I<|.condS I h (λh=>?_) λh=>?_
   ·refine .sA 1 I<|.ret (rO h I)
   ·refine .skip<|.rA 3 I (ndE h I)
  ·refine .exit<|.sA 1 I<|.ret (rO h I)
theorem ref13_leads_ok  : ∀ (n:Nat) (t0:Model) (t1:Int) (t2:Int) (t3:Int) (r:Bool) (h:ref13_leads n t0 t1 t2 t3=some r),Pure pg 125 [Model.enc t0,.int t1,.int t2,.int t3] (.bool r)
 | 0,t0,t1,t2,t3,r,h=>by cases h
 | n+1,t0,t1,t2,t3,r,h=>ref13_leads_body n (ref13_leads n) (ref13_leads_ok n) t0 t1 t2 t3 r h
theorem ref13_hidden_ok (n t0 r) (h:ref13_hidden n t0=some r):Pure pg 85 [Model.enc t0] (.bool r):=by
 refine Pure.ot Tryz.func85 I Tryz.ntmps85 I λA w=>.sA 2 I<|.seq<|.S 2 I<|.p I (.len I U28 I)<|.A 1 I<|.nil<|.condS I h (λh=>?_) λh=>?_
 ·refine .sA 1 I<|.ret (rO h I)
 ·refine .skip<|.seq<|.sA 1 I<|.block<|.L [1] h (λv=>[(3,.d (.int v))]) (λv=>[]) I λ_ x31 h=>.seq<|.S 3 I<|.p I (.len I U28 I)<|.A 1 I<|.nil<|.K [1,3,16] I<|.condS I h (λh=>?_) λh=>?_
  ·refine .skip<|.seq<|.block<|.S 3 I<|.X h I λx33 h=>.A 1 I<|.allocStore I I I I I I I I (by simp) I I Z153<|.nil<|.seq<|.seq<|.plain 31 I<|.p I (.fa I (G153_0 _))<|.A 3 I<|.jO 6 (decide ((t0.tables.length:Int)≤x33.table)) I (λb34=>?_) ?_
   ·refine .q I (.fa I (G153_0 _))<|.A 3 I<|.q I (.len I U23 I)<|.A 1 I<|.nil I
   refine .A 1 I<|.jO 3 (decide (x33.to<0)) I (λb35=>?_) ?_
   ·refine .q I (.fa I (G153_2 _))<|.A 2 I<|.nil I
   refine .A 1 I<|.jO 6 (decide ((t0.tables.length:Int)≤x33.to)) I (λb36=>?_) ?_
   ·refine .q I (.fa I (G153_2 _))<|.A 3 I<|.q I (.len I U23 I)<|.A 1 I<|.nil I
   refine .A 1 I<|.jO 5 (x33.table==x33.to) I (λb37=>?_) ?_
   ·refine .q I (.fa I (G153_0 _))<|.A 1 I<|.q I (.fa I (G153_2 _))<|.A 2 I<|.nil I
   refine .nil<|.nil<|.K [1,3,4,54] I<|.condS I h (λh=>?_) λh=>?_
   ·refine .sA 1 I<|.ret (rO h I)
   ·refine .skip<|.seq<|.draw 16 Hm (by kernel_rfl) (by kernel_rfl)<|.A 2 I<|.p I (.fa I (G153_0 _))<|.A 1 I<|.X h I λx38 h=>.A 3 I<|.p I (.fa I (G153_2 _))<|.A 1 I<|.X h I λx39 h=>.A 1 I<|.alloc I I I I ZZ119<|.alloc I I I I ZZ119<|.store I I I I I I Z119<|.store I I I I I I Z119<|.nil<|.freezes [0,1] (.cons (t:=5) (d:=.ref (Table.enc x38)) I (.loc (inIds I) I (.v (.v (.v (.v (.v .v1)))))) (.cons (t:=6) (d:=.ref (Table.enc x39)) I (.loc (inIds I) I (.v (.v (.v (.v (.v .v1)))))) .nil))<|.nil<|.K [1,3,4,5,6] I<|.seq<|.draw 40 Hm (by kernel_rfl) (by kernel_rfl)<|.p I (.fa I (G119_1 _))<|.A 3 I<|.jO 3 (x39.kind != 0) I (λb40=>?_) ?_
    ·refine .q I (.fa I (G119_1 _))<|.A 2 I<|.nil I
    refine .A 1 I<|.jO 3 (decide (x33.column<0)) I (λb41=>?_) ?_
    ·refine .q I (.fa I (G153_1 _))<|.A 2 I<|.nil I
    refine .A 1 I<|.jO 6 (decide ((x38.columns.length:Int)≤x33.column)) I (λb42=>?_) ?_
    ·refine .q I (.fa I (G153_1 _))<|.A 1 I<|.q I (.fa I (G119_2 _))<|.A 1 I<|.q I (.len I U22 I)<|.A 1 I<|.nil I
    refine .A 1 I<|.jO 4 ((x39.columns.length:Int) != 1) I (λb43=>?_) ?_
    ·refine .q I (.fa I (G119_2 _))<|.A 1 I<|.q I (.len I U22 I)<|.A 1 I<|.nil I
    refine .A 1 I<|gK h λc45 h=>gK h λc46 h=>.jO 11 (((idx x39.columns 0).getD default) != ((idx x38.columns x33.column).getD default)) I (λb44=>?_) ?_
    ·refine .q I (.fa I (G119_2 _))<|.A 1 I<|.q I (.ix I U22 S3 (someD (impF c45 b44)))<|.A 1 I<|.q I (.fa I (G119_2 _))<|.A 1 I<|.q I (.fa I (G153_1 _))<|.A 1 I<|.q I (.ix I U22 S3 (someD (impF c46 b44)))<|.A 2 I<|.nil I
    refine .nil<|.nil<|.K [1,3,106] I<|.condS I h (λh=>?_) λh=>?_
    ·refine .sA 1 I<|.ret (rO h I)
    ·refine .skip<|.rA 3 I (ndE h I)
  ·refine .exit<|.seq<|.sA 1 I<|.block<|.L [1] h (λv=>[(7,.d (.int v))]) (λv=>[]) I λ_ x55 h=>.seq<|.S 3 I<|.p I (.len I U28 I)<|.A 1 I<|.nil<|.K [1,7,111] I<|.condS I h (λh=>?_) λh=>?_
   ·refine .skip<|.seq<|.block<|.seq<|.draw 17 Hm (by kernel_rfl) (by kernel_rfl)<|.A 4 I<|.X h I λx57 h=>.p I (.fa I (G153_2 _))<|.A 4 I<|.X h I λx58 h=>.p I (.fa I (G153_0 _))<|.A 3 I<|.p I (.len I U23 I)<|.Z h I (ref13_leads_ok _ _ _ _ _) λx59 h=>.nil<|.nil<|.K [1,7,130] I<|.condS I h (λh=>?_) λh=>?_
    ·refine .sA 1 I<|.ret (rO h I)
    ·refine .skip<|.rA 3 I (ndE h I)
   ·refine .exit<|.sA 1 I<|.ret (rO h I)
theorem ref13_Valid_ok (n t0 r) (h:ref13_Valid n t0=some r):Pure pg 33 [Model.enc t0] (.bool r):=by
 refine Pure.ot Tryz.func33 I Tryz.ntmps33 I λA w=>.sA 2 I<|.seq<|.seq<|.plain 18 I<|.A 4 I<|.Z h I (ref09_Valid_ok _ _ _) λx1 h=>.A 2 I<|.jO 4 (decide (24<(t0.families.length:Int))) I (λb2=>?_) ?_
 ·refine .A 2 I<|.q I (.len I U24 I)<|.A 1 I<|.nil I
 refine .A 1 I<|gK h λc4 h=>.jO 4 (!((ref13_distinct n t0.families).getD default)) I (λb3=>?_) ?_
 ·refine .A 2 I<|.q I (.call I (kC I) I (ref13_distinct_ok _ _ _ (someD (impF c4 b3))))<|.A 1 I<|.nil I
 refine .nil<|.nil<|.K [1,20] I<|.condS I h (λh=>?_) λh=>?_
 ·refine .sA 1 I<|.ret (rO h I)
 ·refine .skip<|.seq<|.plain 10 I<|.A 1 I<|.Z h I (ref13_constraints_ok _ _) λx5 h=>.A 1 I<|gK h λc7 h=>.jA 2 (((ref13_actions n t0).getD default)) I (λb6=>?_) ?_
  ·refine .A 1 I<|.q I (.call I (kC I) I (ref13_actions_ok _ _ _ (someD (impT c7 b6))))<|.nil I
  refine .A 1 I<|gK h λc9 h=>.jA 2 (((ref13_hidden n t0).getD default)) I (λb8=>?_) ?_
  ·refine .A 1 I<|.q I (.call I (kC I) I (ref13_hidden_ok _ _ _ (someD (impT c9 b8))))<|.nil I
  refine .nil<|.A 1 I<|.nil<|.ret (rO h I)
theorem ref16_Valid_ok (n t0 t1 r) (h:ref16_Valid n t0 t1=some r):Pure pg 27 [Model.enc t0,Question.enc t1] (.bool r):=by
 refine Pure.ot Tryz.func27 I Tryz.ntmps27 I λA w=>.sA 3 I<|.seq<|.seq<|.plain 35 I<|.A 1 I<|.Z h I (ref13_Valid_ok _ _) λx1 h=>.A 2 I<|.jO 3 (decide (t1.e<0)) I (λb2=>?_) ?_
 ·refine .q I (.fa I (G34_0 _))<|.A 2 I<|.nil I
 refine .A 1 I<|.jO 3 (decide (t1.f<0)) I (λb3=>?_) ?_
 ·refine .q I (.fa I (G34_1 _))<|.A 2 I<|.nil I
 refine .A 1 I<|.jO 6 (decide ((t0.actions.length:Int)≤t1.e)) I (λb4=>?_) ?_
 ·refine .q I (.fa I (G34_0 _))<|.A 3 I<|.q I (.len I U27 I)<|.A 1 I<|.nil I
 refine .A 1 I<|.jO 6 (decide ((t0.actions.length:Int)≤t1.f)) I (λb5=>?_) ?_
 ·refine .q I (.fa I (G34_1 _))<|.A 3 I<|.q I (.len I U27 I)<|.A 1 I<|.nil I
 refine .A 1 I<|.jO 4 (decide (t1.target.index<0)) I (λb6=>?_) ?_
 ·refine .q I (.fa I (G34_2 _))<|.q I (.fa I (G32_1 _))<|.A 2 I<|.nil I
 refine .nil<|.nil<|.K [2,3,39] I<|.condS I h (λh=>?_) λh=>?_
 ·refine .sA 1 I<|.ret (rO h I)
 ·refine .skip<|.seq<|.sr<|.p I (.fa I (G34_2 _))<|.p I (.fa I (G32_0 _))<|.A 1 I<|.nil<|.condS I h (λh=>?_) λh=>?_
  ·refine .seq<|.draw 14 Hm (by kernel_rfl) (by kernel_rfl)<|.p I (.fa I (G34_2 _))<|.p I (.fa I (G32_1 _))<|.A 3 I<|.p I (.fa I (G34_0 _))<|.A 1 I<|.X h I λx7 h=>.p I (.fa I (G62_2 _))<|.p I (.fa I (G60_1 _))<|.A 1 I<|.p I (.len I U57 I)<|.A 2 I<|.nil<|.nil<|.K [4] I<|.ret (rO h I)
  ·refine .skip<|.seq<|.plain 14 I<|.p I (.fa I (G34_0 _))<|.A 1 I<|.p I (.fa I (G34_1 _))<|.A 3 I<|.jA 7 (decide (t1.target.index<(t0.constraints.length:Int))) I (λb8=>?_) ?_
   ·refine .q I (.fa I (G34_2 _))<|.q I (.fa I (G32_1 _))<|.A 3 I<|.q I (.len I U25 I)<|.A 1 I<|.nil I
   refine .nil<|.A 1 I<|.nil<|.K [4] I<|.ret (rO h I)
theorem ref16_Strict_ok (n t0 r) (h:ref16_Strict n t0=some r):Pure pg 86 [.int t0] (.bool r):=by
 refine Pure.ot Tryz.func86 I Tryz.ntmps86 I λA w=>.sA 1 I<|.seq<|.plain 6 I<|.A 3 I<|.jO 2 (t0==1) I (λb1=>?_) ?_
 ·refine .A 2 I<|.nil I
 refine .nil<|.A 1 I<|.nil<|.ret (rO h I)
theorem ref16_Cells_ok (n t0 t1 r) (h:ref16_Cells n t0 t1=some r):Pure pg 87 [Model.enc t0,Table.enc t1] (.int r):=by
 refine Pure.ot Tryz.func87 I Tryz.ntmps87 I λA w=>.sA 3 I<|.sA 1 I<|.seq<|.sA 1 I<|.block<|.L [2,3] h (λv=>[(5,.d (.int v.1)),(6,.d (.int v.2))]) (λv=>[]) I λ_ ⟨x9,x10⟩ h=>.seq<|.S 1 I<|.p I (.fa I (G119_2 _))<|.A 1 I<|.p I (.len I U22 I)<|.A 1 I<|.nil<|.K [2,3,5,6,11] I<|.condS I h (λh=>?_) λh=>?_
 ·refine .skip<|.seq<|.block<|.draw 12 Hm (by kernel_rfl) (by kernel_rfl)<|.A 3 I<|.p I (.fa I (G119_2 _))<|.A 2 I<|.X h I λx12 h=>.A 1 I<|.X h I λx13 h=>.A 3 I<|.nil<|.nil<|.rA 3 I (ndE h I)
 ·refine .exit<|.sA 2 I<|.ret (rO h I)
theorem ref16_Total_ok (n t0 r) (h:ref16_Total n t0=some r):Pure pg 34 [Model.enc t0] (.int r):=by
 refine Pure.ot Tryz.func34 I Tryz.ntmps34 I λA w=>.sA 2 I<|.sA 1 I<|.seq<|.sA 1 I<|.block<|.L [1] h (λv=>[(3,.d (.int v.1)),(4,.d (.int v.2))]) (λv=>[]) I λ_ ⟨x17,x18⟩ h=>.seq<|.S 3 I<|.p I (.len I U23 I)<|.A 1 I<|.nil<|.K [1,3,4,9] I<|.condS I h (λh=>?_) λh=>?_
 ·refine .skip<|.J [1,4] h (λv=>[(3,.d (.int v))]) (λv=>[]) I (λk_21 h=>?_) (λx20 h=>?_)
  ·refine .block<|.S 3 I<|.X h I λx22 h=>.p I (.fa I (G119_1 _))<|.A 1 I<|.Z h I (ref16_Strict_ok _ _) λx23 h=>.nil<|.condS I h (λh=>?_) λh=>?_
   ·refine .draw 10 Hm (by kernel_rfl) (by kernel_rfl)<|.A 5 I<|.X h I λx24 h=>.A 1 I<|.Z h I (ref16_Cells_ok _ _ _) λx25 h=>.A 2 I<|.nil<|.nil (ndE h I)
   ·refine .skip (ndE h I)
  ·refine .rA 3 I (ndE h I)
 ·refine .exit<|.sA 2 I<|.ret (rO h I)
theorem ref22_Add_ok (n t0 t1 r) (h:ref22_Add n t0 t1=some r):Pure pg 79 [Effect.enc t0,.int t1] (.int r):=by
 refine Pure.ot Tryz.func79 I Tryz.ntmps79 I λA w=>.sA 2 I<|.sA 1 I<|.seq<|.sA 1 I<|.block<|.L [1,2] h (λv=>[(5,.d (.int v.1)),(6,.d (.int v.2))]) (λv=>[]) I λ_ ⟨x13,x14⟩ h=>.seq<|.S 1 I<|.p I (.fa I (G60_0 _))<|.A 1 I<|.p I (.len I U56 I)<|.A 1 I<|.nil<|.K [1,2,5,6,11] I<|.condS I h (λh=>?_) λh=>?_
 ·refine .skip<|.J [1,2,6] h (λv=>[(5,.d (.int v))]) (λv=>[]) I (λk_17 h=>?_) (λx16 h=>?_)
  ·refine .block<|.sr<|.p I (.fa I (G60_0 _))<|.A 2 I<|.X h I λx18 h=>.p I (.fa I (G125_0 _))<|.A 3 I<|.nil<|.condS I h (λh=>?_) λh=>?_
   ·refine .region<|.A 1 I<|.p I (.fa I (G60_0 _))<|.A 2 I<|.X h I λx19 h=>.p I (.fa I (G125_1 _))<|.A 3 I<|.nil (ndE h I)
   ·refine .skip (ndE h I)
  ·refine .rA 3 I (ndE h I)
 ·refine .exit<|.sA 2 I<|.ret (rO h I)
theorem ref22_Plus_ok (n t0 t1 r) (h:ref22_Plus n t0 t1=some r):Pure pg 30 [eA t0,Effect.enc t1] (eA r):=by
 refine Pure.ot Tryz.func30 I Tryz.ntmps30 I λA w=>.S 1 I<|.p I (.nilS 1 (α:=Int) D.int I)<|.nil<|.sr<|.buildVec [] I I I I I E22 I (λ_=>I) I (enc:=D.int)<|.A 1 I<|.nil<|.seq<|.sA 1 I<|.block<|.L [0,3] h (λv=>[(5,.vec 0 (List.length v.1)),(6,.d (.int v.2))]) (λv=>[(0,.vec 3 1 (List.map D.int v.1))]) I λ_ ⟨b0_11,x12⟩ h=>.seq<|.S 2 I<|.p I (.len I U22 I)<|.A 1 I<|.nil<|.K [0,3,5,6,11] I<|.condS I h (λh=>?_) λh=>?_
 ·refine .skip<|.seq<|.block<|.draw 10 Hm (by kernel_rfl) (by kernel_rfl)<|.A 3 I<|.X h I λx14 h=>.A 3 I<|.Z h I (ref22_Add_ok _ _ _) λx15 h=>.A 1 I<|.p I (.buildSl [_] I I E22 I (λ_=>I) I (enc:=D.int))<|.nil<|bK h λx16 q16 h=>.app I I I I I I I I E22 I (λ_=>I) q16<|.A 1 I<|.nil<|.rA 3 I (ndE h I)
 ·refine .exit<|.sA 2 I<|.ret ?_
  cases h
  exact retOne I (.vec I (by simp))
theorem ref12_inside_ok (n t0 t1 r) (h:ref12_inside n t0 t1=some r):Pure pg 138 [Constraint.enc t0,.int t1] (.bool r):=by
 refine Pure.ot Tryz.func138 I Tryz.ntmps138 I λA w=>.sA 2 I<|.seq<|.sr<|.p I (.fa I (G74_0 _))<|.A 2 I<|.nil<|.condS I h (λh=>?_) λh=>?_
 ·refine .seq<|.plain 25 I<|.p I (.fa I (G74_4 _))<|.A 3 I<|.jA 3 (decide (t0.size≤6)) I (λb1=>?_) ?_
  ·refine .q I (.fa I (G74_4 _))<|.A 2 I<|.nil I
  refine .A 1 I<|.jA 3 (decide (0≤t0.first)) I (λb2=>?_) ?_
  ·refine .q I (.fa I (G74_3 _))<|.A 2 I<|.nil I
  refine .A 1 I<|.jA 10 (decide (t0.first≤sub64 t1 (mul64 t0.size t0.size))) I (λb3=>?_) ?_
  ·refine .q I (.fa I (G74_3 _))<|.A 2 I<|.q I (.fa I (G74_4 _))<|.A 1 I<|.q I (.fa I (G74_4 _))<|.A 4 I<|.nil I
  refine .nil<|.A 1 I<|.nil<|.K [4] I<|.ret (rO h I)
 ·refine .skip<|.seq<|.sA 1 I<|.block<|.L [1,2] h (λv=>[(5,.d (.int v))]) (λv=>[]) I λ_ x12 h=>.seq<|.S 1 I<|.p I (.fa I (G74_2 _))<|.p I (.fa I (G69_0 _))<|.A 1 I<|.p I (.len I U67 I)<|.A 1 I<|.nil<|.K [1,2,5,39] I<|.condS I h (λh=>?_) λh=>?_
  ·refine .skip<|.seq<|.block<|.seq<|.plain 19 I<|.p I (.fa I (G74_2 _))<|.p I (.fa I (G69_0 _))<|.A 2 I<|.X h I λx14 h=>.p I (.fa I (G77_0 _))<|.A 3 I<|gK h λc16 h=>.jO 9 (decide (t1≤((idx t0.row.terms x12).getD default).cell)) I (λb15=>?_) ?_
   ·refine .q I (.fa I (G74_2 _))<|.q I (.fa I (G69_0 _))<|.A 2 I<|.q I (.ix I U67 S77 (someD (impF c16 b15)))<|.q I (.fa I (G77_0 _))<|.A 3 I<|.nil I
   refine .nil<|.nil<|.K [1,2,5,60] I<|.condS I h (λh=>?_) λh=>?_
   ·refine .sA 1 I<|.ret (rO h I)
   ·refine .skip<|.rA 3 I (ndE h I)
  ·refine .exit<|.sr<|.p I (.fa I (G74_0 _))<|.A 3 I<|.nil<|.ret (rO h I)
theorem ref12_edge_ok (n t0 t1 t2 t3 r) (h:ref12_edge n t0 t1 t2 t3=some r):Pure pg 215 [Constraint.enc t0,eA t1,.int t2,.int t3] (.bool r):=by
 refine Pure.ot Tryz.func215 I Tryz.ntmps215 I λA w=>.sA 2 I<|.S 1 I<|.p I (.fa I (G74_3 _))<|.A 2 I<|.p I (.fa I (G74_4 _))<|.A 5 I<|.X h I λx1 h=>.A 3 I<|.nil<|.K [8] I<|.ret (rO h I)
theorem ref12_has_ok (n t0 t1 r) (h:ref12_has n t0 t1=some r):Pure pg 216 [eA t0,.int t1] (.bool r):=by
 refine Pure.ot Tryz.func216 I Tryz.ntmps216 I λA w=>.sA 1 I<|.seq<|.sA 1 I<|.block<|.L [0,1] h (λv=>[(5,.d (.int v))]) (λv=>[]) I λ_ x5 h=>.seq<|.S 2 I<|.p I (.len I U22 I)<|.A 1 I<|.nil<|.K [0,1,5,9] I<|.condS I h (λh=>?_) λh=>?_
 ·refine .skip<|.seq<|.block<|.S 2 I<|.X h I λx7 h=>.A 3 I<|.nil<|.condS I h (λh=>?_) λh=>?_
  ·refine .sA 1 I<|.ret (rO h I)
  ·refine .skip<|.rA 3 I (ndE h I)
 ·refine .exit<|.sA 1 I<|.ret (rO h I)
theorem ref12_paths_body (n:Nat) (self:Constraint→(List Int)→(List Int)→Int→Option (List (List Int))) (hself:∀ (t0:Constraint) (t1:List Int) (t2:List Int) (t3:Int) (r:List (List Int)),self t0 t1 t2 t3=some r→Pure pg 182 [Constraint.enc t0,eA t1,eA t2,.int t3] (eN r)) (t0:Constraint) (t1:List Int) (t2:List Int) (t3:Int) (r:List (List Int)) (h:ref12_paths.body n self t0 t1 t2 t3=some r):Pure pg 182 [Constraint.enc t0,eA t1,eA t2,.int t3] (eN r):=by
 refine Pure.ot Tryz.func182 I Tryz.ntmps182 I λA w=>.S 1 I<|.p I (.nilS 1 (α:=List Int) eA I)<|.nil<|.S 2 I<|.p I (.len I U22 I)<|.A 1 I<|.X h I λx1 h=>.A 2 I<|.nil<|.seq<|.S 1 I<|.p I (.len I U22 I)<|.A 2 I<|.nil<|.condS I h (λh=>?_) λh=>?_
 ·refine .seq<|.seq<|.draw 7 Hm (by kernel_rfl) (by kernel_rfl)<|.A 4 I<|.X h I λx2 h=>.A 1 I<|.Z h I (ref12_edge_ok _ _ _ _ _) λx3 h=>.nil<|.nil<|.K [2,28] I<|.condS I h (λh=>?_) λh=>?_
  ·refine .S 1 I<|.p I (.buildSl [_] I I E142 I (λ_=>I) I (enc:=eA))<|.A 1 I<|.nil<|.ret ?_
   cases h
   exact retOne I (.d _)
  ·refine .skip<|.sr<|.p I (.nilS 1 (α:=List Int) eA I)<|.nil<|.ret ?_
   cases h
   exact retOne I (.d _)
 ·refine .skip<|.sr<|.buildVec [] I I I I I E142 I (λ_=>I) I (enc:=eA)<|.A 1 I<|.nil<|.seq<|.S 1 I<|.X h I λx4 h=>.A 3 I<|.nil<|.K [1,2,3,4,9,10,11] I<|.block<|.L [1,2,3,4,9] h (λv=>[(10,.vec 0 (List.length v.1)),(11,.d (.int v.2))]) (λv=>[(0,.vec 22 1 (List.map eA v.1))]) I λ_ ⟨b0_27,x28⟩ h=>.seq<|.S 1 I<|.p I (.fa I (G74_4 _))<|.A 2 I<|.nil<|.K [1,2,3,4,9,10,11,39] I<|.condS I h (λh=>?_) λh=>?_
  ·refine .skip<|.J [1,2,3,4,9,11] h (λv=>[(10,.vec 0 (List.length v))]) (λv=>[(0,.vec 22 1 (List.map eA v))]) I (λk_31 h=>?_) (λb0_30 h=>?_)
   ·refine .block<|.seq<|.seq<|.plain 11 I<|.A 2 I<|.Z h I (ref12_has_ok _ _ _) λx32 h=>.A 1 I<|gK h λc34 h=>.jO 6 (!((ref12_edge n t0 t1 x1 x28).getD default)) I (λb33=>?_) ?_
    ·refine .A 4 I<|.q I (.call I (kC I) I (ref12_edge_ok _ _ _ _ _ _ (someD (impF c34 b33))))<|.A 1 I<|.nil I
    refine .nil<|.nil<|.condS I h (λh=>?_) λh=>?_
    ·refine .exit (ndE h I)
    ·refine .skip<|bK h λx35 q35 h=>bK h λx36 q36 h=>bK h λx37 q37 h=>bK h λx38 q38 h=>.drawA 13 Hm I<|.first 0 I (by decide +kernel) (by decide +kernel) (by decide +kernel) I (.m I (.nil ⟨I,I⟩))<|.first 2 I (by decide +kernel) (by decide +kernel) (by decide +kernel) I (.m I (.nil ⟨I,I⟩))<|.first 4 I (by decide +kernel) (by decide +kernel) (by decide +kernel) I (.m I (.nil ⟨I,I⟩))<|.first 6 I (by decide +kernel) (by decide +kernel) (by decide +kernel) I (.m I (.nil ⟨I,I⟩))<|.first 9 I (by decide +kernel) (by decide +kernel) (by decide +kernel) I (.m I (.nil ⟨I,I⟩))<|.via 1 #[true,true,true,true,true,true,true,true,true,true,true,true,false] ⟨[(1,.d (eA t1)),(2,.d (eA t2)),(3,.d (.int t3)),(4,.d (.ref (Constraint.enc t0))),(9,.d (.int x1)),(11,.d (.int x28)),(64,.vec 0 (List.length x38))],[.vec 22 1 (List.map eA x38),.dead]⟩ ?_ λsA0=>?_
     ·refine .step 12 [] (by decide +kernel) (.cons (i:=12) I (.z I (.nil ⟨I,I⟩)) ?_ .nil)
      refine .done (by decide +kernel) (ndE h I)
     refine .via 2 #[true,true,true,true,true,true,true,true,true,true,true,false,false] ⟨[(1,.d (eA t1)),(2,.d (eA t2)),(3,.d (.int t3)),(4,.d (.ref (Constraint.enc t0))),(9,.d (.int x1)),(11,.d (.int x28)),(53,.vec 0 (List.length b0_27)),(63,.d (eN x37))],[.vec 22 1 (List.map eA b0_27),.dead]⟩ ?_ λsA1=>?_
     ·refine .step 11 [] (by decide +kernel) (.cons (i:=11) I (.app I I I I I I I I E142 I (λ_=>I) q38 (.nil ⟨I,I⟩)) ?_ .nil)
      exact .keepT [1,2,3,4,9,11,64] (.c4 I<|.c2 I<|.c I .nil) (.to #[true,true,true,true,true,true,true,true,true,true,true,true,false] (by decide +kernel) sA0)
     refine .via 3 #[true,true,true,true,true,true,true,true,true,true,false,false,false] ⟨[(1,.d (eA t1)),(2,.d (eA t2)),(3,.d (.int t3)),(4,.d (.ref (Constraint.enc t0))),(9,.d (.int x1)),(11,.d (.int x28)),(53,.vec 0 (List.length b0_27)),(54,.d (Constraint.enc t0)),(55,.d (eA t1)),(61,.vec 1 (List.length x36)),(62,.d (.int t3))],[.vec 22 1 (List.map eA b0_27),.vec 3 1 (List.map D.int x36)]⟩ ?_ λsA2=>?_
     ·refine .step 10 [] (by decide +kernel) (.cons (i:=10) I (.freezes [1] (.cons (t:=61) I (.vec (inIds I) I (yT _).symm) .nil) (.p I (.call I (kC I) I (hself _ _ _ _ _ q37)) (.nil ⟨I,I⟩))) ?_ .nil)
      exact .keepT [1,2,3,4,9,11,53,63] (.c8 I .nil) (.to #[true,true,true,true,true,true,true,true,true,true,true,false,false] (by decide +kernel) sA1)
     refine .via 4 #[true,true,true,true,true,true,true,true,false,true,false,false,false] ⟨[(1,.d (eA t1)),(2,.d (eA t2)),(3,.d (.int t3)),(4,.d (.ref (Constraint.enc t0))),(9,.d (.int x1)),(11,.d (.int x28)),(53,.vec 0 (List.length b0_27)),(54,.d (Constraint.enc t0)),(55,.d (eA t1)),(58,.vec 1 (List.length x35)),(60,.d (eA [x28])),(62,.d (.int t3))],[.vec 22 1 (List.map eA b0_27),.vec 3 1 (List.map D.int x35)]⟩ ?_ λsA3=>?_
     ·refine .step 8 [] (by decide +kernel) (.cons (i:=8) I (.app I I I I I I I I E22 I (λ_=>I) q36 (.nil ⟨I,I⟩)) ?_ .nil)
      exact .keepT [1,2,3,4,9,11,53,54,55,61,62] (.c8 I<|.c2 I<|.c I .nil) (.to #[true,true,true,true,true,true,true,true,true,true,false,false,false] (by decide +kernel) sA2)
     refine .via 4 #[true,false,true,true,true,true,true,true,true,true,false,false,false] ⟨[(1,.d (eA t1)),(2,.d (eA t2)),(3,.d (.int t3)),(4,.d (.ref (Constraint.enc t0))),(9,.d (.int x1)),(11,.d (.int x28)),(53,.vec 0 (List.length b0_27)),(55,.d (eA t1)),(61,.vec 1 (List.length x36)),(62,.d (.int t3))],[.vec 22 1 (List.map eA b0_27),.vec 3 1 (List.map D.int x36)]⟩ ?_ λsA4=>?_
     ·refine .step 1 [] (by decide +kernel) (.cons (i:=1) I (.p I (.ld Y74 I) (.nil ⟨I,I⟩)) ?_ .nil)
      exact .keepT [1,2,3,4,9,11,53,54,55,61,62] (.c8 I<|.c2 I<|.c I .nil) (.to #[true,true,true,true,true,true,true,true,true,true,false,false,false] (by decide +kernel) sA2)
     refine .via 5 #[true,true,true,true,true,true,true,false,false,true,false,false,false] ⟨[(1,.d (eA t1)),(2,.d (eA t2)),(3,.d (.int t3)),(4,.d (.ref (Constraint.enc t0))),(9,.d (.int x1)),(11,.d (.int x28)),(53,.vec 0 (List.length b0_27)),(54,.d (Constraint.enc t0)),(55,.d (eA t1)),(58,.vec 1 (List.length x35)),(59,.d (.int x28)),(62,.d (.int t3))],[.vec 22 1 (List.map eA b0_27),.vec 3 1 (List.map D.int x35)]⟩ ?_ λsA5=>?_
     ·refine .step 7 [] (by decide +kernel) (.cons (i:=7) I (.p I (.buildSl [_] I I E22 I (λ_=>I) I (enc:=D.int)) (.nil ⟨I,I⟩)) ?_ .nil)
      exact .keepT [1,2,3,4,9,11,53,54,55,58,60,62] (.c8 I<|.c4 I .nil) (.to #[true,true,true,true,true,true,true,true,false,true,false,false,false] (by decide +kernel) sA3)
     refine .via 5 #[true,true,true,true,true,false,true,true,false,true,false,false,false] ⟨[(1,.d (eA t1)),(2,.d (eA t2)),(3,.d (.int t3)),(4,.d (.ref (Constraint.enc t0))),(9,.d (.int x1)),(11,.d (.int x28)),(53,.vec 0 (List.length b0_27)),(54,.d (Constraint.enc t0)),(55,.d (eA t1)),(56,.vec 1 (List.length ([]:List Int))),(57,.d (eA t2)),(60,.d (eA [x28])),(62,.d (.int t3))],[.vec 22 1 (List.map eA b0_27),.vec 3 1 (List.map D.int ([]:List Int))]⟩ ?_ λsA6=>?_
     ·refine .step 5 [] (by decide +kernel) (.cons (i:=5) I (.app I I I I I I I I E22 I (λ_=>I) q35 (.nil ⟨I,I⟩)) ?_ .nil)
      exact .keepT [1,2,3,4,9,11,53,54,55,58,60,62] (.c8 I<|.c4 I .nil) (.to #[true,true,true,true,true,true,true,true,false,true,false,false,false] (by decide +kernel) sA3)
     refine .via 5 #[true,false,true,true,true,true,true,true,false,true,false,false,false] ⟨[(1,.d (eA t1)),(2,.d (eA t2)),(3,.d (.int t3)),(4,.d (.ref (Constraint.enc t0))),(9,.d (.int x1)),(11,.d (.int x28)),(53,.vec 0 (List.length b0_27)),(55,.d (eA t1)),(58,.vec 1 (List.length x35)),(60,.d (eA [x28])),(62,.d (.int t3))],[.vec 22 1 (List.map eA b0_27),.vec 3 1 (List.map D.int x35)]⟩ ?_ λsA7=>?_
     ·refine .step 1 [8] (by decide +kernel) (.cons (i:=1) I (.p I (.ld Y74 I) (.nil ⟨I,I⟩)) ?_ (.cons (i:=8) I (.app I I I I I I I I E22 I (λ_=>I) q36 (.nil ⟨I,I⟩)) ?_ .nil))
      ·exact .keepT [1,2,3,4,9,11,53,54,55,58,60,62] (.c8 I<|.c4 I .nil) (.to #[true,true,true,true,true,true,true,true,false,true,false,false,false] (by decide +kernel) sA3)
      ·exact .keepT [1,2,3,4,9,11,53,55,61,62] (.c8 I<|.c2 I .nil) (.to #[true,false,true,true,true,true,true,true,true,true,false,false,false] (by decide +kernel) sA4)
     refine .via 6 #[true,true,true,true,true,false,true,false,false,true,false,false,false] ⟨[(1,.d (eA t1)),(2,.d (eA t2)),(3,.d (.int t3)),(4,.d (.ref (Constraint.enc t0))),(9,.d (.int x1)),(11,.d (.int x28)),(53,.vec 0 (List.length b0_27)),(54,.d (Constraint.enc t0)),(55,.d (eA t1)),(56,.vec 1 (List.length ([]:List Int))),(57,.d (eA t2)),(59,.d (.int x28)),(62,.d (.int t3))],[.vec 22 1 (List.map eA b0_27),.vec 3 1 (List.map D.int ([]:List Int))]⟩ ?_ λsA8=>?_
     ·refine .step 5 [7] (by decide +kernel) (.cons (i:=5) I (.app I I I I I I I I E22 I (λ_=>I) q35 (.nil ⟨I,I⟩)) ?_ (.cons (i:=7) I (.p I (.buildSl [_] I I E22 I (λ_=>I) I (enc:=D.int)) (.nil ⟨I,I⟩)) ?_ .nil))
      ·exact .keepT [1,2,3,4,9,11,53,54,55,58,59,62] (.c8 I<|.c4 I .nil) (.to #[true,true,true,true,true,true,true,false,false,true,false,false,false] (by decide +kernel) sA5)
      ·exact .keepT [1,2,3,4,9,11,53,54,55,56,57,60,62] (.c8 I<|.c4 I<|.c I .nil) (.to #[true,true,true,true,true,false,true,true,false,true,false,false,false] (by decide +kernel) sA6)
     refine .via 6 #[true,true,true,false,true,false,true,true,false,true,false,false,false] ⟨[(1,.d (eA t1)),(2,.d (eA t2)),(3,.d (.int t3)),(4,.d (.ref (Constraint.enc t0))),(9,.d (.int x1)),(11,.d (.int x28)),(53,.vec 0 (List.length b0_27)),(54,.d (Constraint.enc t0)),(55,.d (eA t1)),(57,.d (eA t2)),(60,.d (eA [x28])),(62,.d (.int t3))],[.vec 22 1 (List.map eA b0_27)]⟩ ?_ λsA9=>?_
     ·refine .step 3 [] (by decide +kernel) (.cons (i:=3) I (.buildVec [] I I I I I E22 I (λ_=>I) I (enc:=D.int) (.nil ⟨I,I⟩)) ?_ .nil)
      exact .keepT [1,2,3,4,9,11,53,54,55,56,57,60,62] (.c8 I<|.c4 I<|.c I .nil) (.to #[true,true,true,true,true,false,true,true,false,true,false,false,false] (by decide +kernel) sA6)
     refine .via 6 #[true,false,true,true,true,true,true,false,false,true,false,false,false] ⟨[(1,.d (eA t1)),(2,.d (eA t2)),(3,.d (.int t3)),(4,.d (.ref (Constraint.enc t0))),(9,.d (.int x1)),(11,.d (.int x28)),(53,.vec 0 (List.length b0_27)),(55,.d (eA t1)),(58,.vec 1 (List.length x35)),(59,.d (.int x28)),(62,.d (.int t3))],[.vec 22 1 (List.map eA b0_27),.vec 3 1 (List.map D.int x35)]⟩ ?_ λsA10=>?_
     ·refine .step 1 [7] (by decide +kernel) (.cons (i:=1) I (.p I (.ld Y74 I) (.nil ⟨I,I⟩)) ?_ (.cons (i:=7) I (.p I (.buildSl [_] I I E22 I (λ_=>I) I (enc:=D.int)) (.nil ⟨I,I⟩)) ?_ .nil))
      ·exact .keepT [1,2,3,4,9,11,53,54,55,58,59,62] (.c8 I<|.c4 I .nil) (.to #[true,true,true,true,true,true,true,false,false,true,false,false,false] (by decide +kernel) sA5)
      ·exact .keepT [1,2,3,4,9,11,53,55,58,60,62] (.c8 I<|.c2 I<|.c I .nil) (.to #[true,false,true,true,true,true,true,true,false,true,false,false,false] (by decide +kernel) sA7)
     refine .via 6 #[true,false,true,true,true,false,true,true,false,true,false,false,false] ⟨[(1,.d (eA t1)),(2,.d (eA t2)),(3,.d (.int t3)),(4,.d (.ref (Constraint.enc t0))),(9,.d (.int x1)),(11,.d (.int x28)),(53,.vec 0 (List.length b0_27)),(55,.d (eA t1)),(56,.vec 1 (List.length ([]:List Int))),(57,.d (eA t2)),(60,.d (eA [x28])),(62,.d (.int t3))],[.vec 22 1 (List.map eA b0_27),.vec 3 1 (List.map D.int ([]:List Int))]⟩ ?_ λsA11=>?_
     ·refine .step 1 [5] (by decide +kernel) (.cons (i:=1) I (.p I (.ld Y74 I) (.nil ⟨I,I⟩)) ?_ (.cons (i:=5) I (.app I I I I I I I I E22 I (λ_=>I) q35 (.nil ⟨I,I⟩)) ?_ .nil))
      ·exact .keepT [1,2,3,4,9,11,53,54,55,56,57,60,62] (.c8 I<|.c4 I<|.c I .nil) (.to #[true,true,true,true,true,false,true,true,false,true,false,false,false] (by decide +kernel) sA6)
      ·exact .keepT [1,2,3,4,9,11,53,55,58,60,62] (.c8 I<|.c2 I<|.c I .nil) (.to #[true,false,true,true,true,true,true,true,false,true,false,false,false] (by decide +kernel) sA7)
     refine .via 7 #[true,true,true,false,true,false,true,false,false,true,false,false,false] ⟨[(1,.d (eA t1)),(2,.d (eA t2)),(3,.d (.int t3)),(4,.d (.ref (Constraint.enc t0))),(9,.d (.int x1)),(11,.d (.int x28)),(53,.vec 0 (List.length b0_27)),(54,.d (Constraint.enc t0)),(55,.d (eA t1)),(57,.d (eA t2)),(59,.d (.int x28)),(62,.d (.int t3))],[.vec 22 1 (List.map eA b0_27)]⟩ ?_ λsA12=>?_
     ·refine .step 3 [7] (by decide +kernel) (.cons (i:=3) I (.buildVec [] I I I I I E22 I (λ_=>I) I (enc:=D.int) (.nil ⟨I,I⟩)) ?_ (.cons (i:=7) I (.p I (.buildSl [_] I I E22 I (λ_=>I) I (enc:=D.int)) (.nil ⟨I,I⟩)) ?_ .nil))
      ·exact .keepT [1,2,3,4,9,11,53,54,55,56,57,59,62] (.c8 I<|.c4 I<|.c I .nil) (.to #[true,true,true,true,true,false,true,false,false,true,false,false,false] (by decide +kernel) sA8)
      ·exact .keepT [1,2,3,4,9,11,53,54,55,57,60,62] (.c8 I<|.c4 I .nil) (.to #[true,true,true,false,true,false,true,true,false,true,false,false,false] (by decide +kernel) sA9)
     refine .via 7 #[true,false,true,true,true,false,true,false,false,true,false,false,false] ⟨[(1,.d (eA t1)),(2,.d (eA t2)),(3,.d (.int t3)),(4,.d (.ref (Constraint.enc t0))),(9,.d (.int x1)),(11,.d (.int x28)),(53,.vec 0 (List.length b0_27)),(55,.d (eA t1)),(56,.vec 1 (List.length ([]:List Int))),(57,.d (eA t2)),(59,.d (.int x28)),(62,.d (.int t3))],[.vec 22 1 (List.map eA b0_27),.vec 3 1 (List.map D.int ([]:List Int))]⟩ ?_ λsA13=>?_
     ·refine .step 1 [5,7] (by decide +kernel) (.cons (i:=1) I (.p I (.ld Y74 I) (.nil ⟨I,I⟩)) ?_ (.cons (i:=5) I (.app I I I I I I I I E22 I (λ_=>I) q35 (.nil ⟨I,I⟩)) ?_ (.cons (i:=7) I (.p I (.buildSl [_] I I E22 I (λ_=>I) I (enc:=D.int)) (.nil ⟨I,I⟩)) ?_ .nil)))
      ·exact .keepT [1,2,3,4,9,11,53,54,55,56,57,59,62] (.c8 I<|.c4 I<|.c I .nil) (.to #[true,true,true,true,true,false,true,false,false,true,false,false,false] (by decide +kernel) sA8)
      ·exact .keepT [1,2,3,4,9,11,53,55,58,59,62] (.c8 I<|.c2 I<|.c I .nil) (.to #[true,false,true,true,true,true,true,false,false,true,false,false,false] (by decide +kernel) sA10)
      ·exact .keepT [1,2,3,4,9,11,53,55,56,57,60,62] (.c8 I<|.c4 I .nil) (.to #[true,false,true,true,true,false,true,true,false,true,false,false,false] (by decide +kernel) sA11)
     refine .via 7 #[true,false,true,false,true,false,true,true,false,true,false,false,false] ⟨[(1,.d (eA t1)),(2,.d (eA t2)),(3,.d (.int t3)),(4,.d (.ref (Constraint.enc t0))),(9,.d (.int x1)),(11,.d (.int x28)),(53,.vec 0 (List.length b0_27)),(55,.d (eA t1)),(57,.d (eA t2)),(60,.d (eA [x28])),(62,.d (.int t3))],[.vec 22 1 (List.map eA b0_27)]⟩ ?_ λsA14=>?_
     ·refine .step 1 [3] (by decide +kernel) (.cons (i:=1) I (.p I (.ld Y74 I) (.nil ⟨I,I⟩)) ?_ (.cons (i:=3) I (.buildVec [] I I I I I E22 I (λ_=>I) I (enc:=D.int) (.nil ⟨I,I⟩)) ?_ .nil))
      ·exact .keepT [1,2,3,4,9,11,53,54,55,57,60,62] (.c8 I<|.c4 I .nil) (.to #[true,true,true,false,true,false,true,true,false,true,false,false,false] (by decide +kernel) sA9)
      ·exact .keepT [1,2,3,4,9,11,53,55,56,57,60,62] (.c8 I<|.c4 I .nil) (.to #[true,false,true,true,true,false,true,true,false,true,false,false,false] (by decide +kernel) sA11)
     refine .step 1 [3,7] (by decide +kernel) (.cons (i:=1) I (.p I (.ld Y74 I) (.nil ⟨I,I⟩)) ?_ (.cons (i:=3) I (.buildVec [] I I I I I E22 I (λ_=>I) I (enc:=D.int) (.nil ⟨I,I⟩)) ?_ (.cons (i:=7) I (.p I (.buildSl [_] I I E22 I (λ_=>I) I (enc:=D.int)) (.nil ⟨I,I⟩)) ?_ .nil)))
     ·exact .keepT [1,2,3,4,9,11,53,54,55,57,59,62] (.c8 I<|.c4 I .nil) (.to #[true,true,true,false,true,false,true,false,false,true,false,false,false] (by decide +kernel) sA12)
     ·exact .keepT [1,2,3,4,9,11,53,55,56,57,59,62] (.c8 I<|.c4 I .nil) (.to #[true,false,true,true,true,false,true,false,false,true,false,false,false] (by decide +kernel) sA13)
     ·exact .keepT [1,2,3,4,9,11,53,55,57,60,62] (.c8 I<|.c2 I<|.c I .nil) (.to #[true,false,true,false,true,false,true,true,false,true,false,false,false] (by decide +kernel) sA14)
   ·refine .rA 3 I (ndE h I)
  ·refine .exit<|.sA 2 I<|.ret ?_
   cases h
   exact retOne I (.vec I (by simp))
theorem ref12_paths_ok  : ∀ (n:Nat) (t0:Constraint) (t1:List Int) (t2:List Int) (t3:Int) (r:List (List Int)) (h:ref12_paths n t0 t1 t2 t3=some r),Pure pg 182 [Constraint.enc t0,eA t1,eA t2,.int t3] (eN r)
 | 0,t0,t1,t2,t3,r,h=>by cases h
 | n+1,t0,t1,t2,t3,r,h=>ref12_paths_body n (ref12_paths n) (ref12_paths_ok n) t0 t1 t2 t3 r h
theorem ref12_Cycle_ok (n t0 t1 r) (h:ref12_Cycle n t0 t1=some r):Pure pg 139 [Constraint.enc t0,eA t1] (eA r):=by
 refine Pure.ot Tryz.func139 I Tryz.ntmps139 I λA w=>.S 1 I<|.p I (.nilS 1 (α:=Int) D.int I)<|.nil<|.seq<|.seq<|.plain 10 I<|.p I (.fa I (G74_0 _))<|.A 3 I<|gK h λc2 h=>.jO 5 (!((ref12_inside n t0 (t1.length:Int)).getD default)) I (λb1=>?_) ?_
 ·refine .A 2 I<|.q I (.len I U22 I)<|.q I (.call I (kC I) I (ref12_inside_ok _ _ _ _ (someD (impF c2 b1))))<|.A 1 I<|.nil I
 refine .nil<|.nil<|.condS I h (λh=>?_) λh=>?_
 ·refine .sr<|.p I (.nilS 1 (α:=Int) D.int I)<|.nil<|.ret ?_
  cases h
  exact retOne I (.d _)
 ·refine .skip<|.seq<|.sA 1 I<|.block<|.L [1,2] h (λv=>[(5,.d (.int v))]) (λv=>[]) I λ_ x25 h=>.seq<|.S 1 I<|.p I (.fa I (G74_4 _))<|.A 2 I<|.nil<|.K [1,2,5,21] I<|.condS I h (λh=>?_) λh=>?_
  ·refine .skip<|.seq<|.block<|.sA 1 I<|.block<|.L [1,2,5] h (λv=>[(6,.d (.int v))]) (λv=>[]) I λ_ x33 h=>.seq<|.S 1 I<|.p I (.fa I (G74_4 _))<|.A 2 I<|.nil<|.K [1,2,5,6,27] I<|.condS I h (λh=>?_) λh=>?_
   ·refine .skip<|.seq<|.block<|.S 3 I<|.p I (.buildSl [_] I I E22 I (λ_=>I) I (enc:=D.int))<|.A 1 I<|.Z h I (ref12_paths_ok _ _ _ _ _) λx35 h=>.A 1 I<|.nil<|.S 1 I<|.p I (.len I U142 I)<|.A 1 I<|.nil<|.condS I h (λh=>?_) λh=>?_
    ·refine .S 1 I<|.X h I λx36 h=>.A 2 I<|.nil<|.ret ?_
     cases h
     exact retOne I (.d _)
    ·refine .skip<|.rA 3 I (ndE h I)
   ·refine .exit<|.rA 3 I (ndE h I)
  ·refine .exit<|.sr<|.p I (.nilS 1 (α:=Int) D.int I)<|.nil<|.ret ?_
   cases h
   exact retOne I (.d _)
theorem ref12_small_ok (n t0 t1 r) (h:ref12_small n t0 t1=some r):Pure pg 140 [Row.enc t0,eA t1] (.bool r):=by
 refine Pure.ot Tryz.func140 I Tryz.ntmps140 I λA w=>.sA 2 I<|.sA 2 I<|.seq<|.sA 1 I<|.block<|.L [1,2] h (λv=>[(5,.d (.int v.1)),(6,.d (.int v.2.1)),(7,.d (.int v.2.2))]) (λv=>[]) I λ_ ⟨x17,x18,x19⟩ h=>.seq<|.S 1 I<|.p I (.fa I (G69_0 _))<|.A 1 I<|.p I (.len I U67 I)<|.A 1 I<|.nil<|.K [1,2,5,6,7,15] I<|.condS I h (λh=>?_) λh=>?_
 ·refine .skip<|.seq<|.block<|.sr<|.p I (.fa I (G69_0 _))<|.A 2 I<|.X h I λx21 h=>.A 1 I<|.allocStore I I I I I I I I (by simp) I I Z77<|.nil<|.seq<|.draw 12 Hm (by kernel_rfl) (by kernel_rfl)<|.A 1 I<|.p I (.fa I (G77_1 _))<|.A 2 I<|.p I (.fa I (G77_0 _))<|.A 1 I<|.X h I λx22 h=>.A 1 I<|bK h λx23 q23 h=>.p I (.quo6 I I I q23)<|.A 3 I<|.nil<|.nil<|.K [1,2,5,6,7,8] I<|.draw 12 Hm (by kernel_rfl) (by kernel_rfl)<|.A 1 I<|.p I (.fa I (G77_1 _))<|.A 2 I<|.p I (.fa I (G77_0 _))<|.A 1 I<|.X h I λx24 h=>.A 1 I<|bK h λx25 q25 h=>.p I (.rem6 I I I q25)<|.A 3 I<|.nil<|.nil<|.rA 3 I (ndE h I)
 ·refine .exit<|.S 2 I<|bK h λx26 q26 h=>.p I (.shr I I I q26)<|.A 2 I<|.p I (.band I I I)<|.A 2 I<|.nil<|.seq<|.draw 8 Hm (by kernel_rfl) (by kernel_rfl)<|.p I (.fa I (G69_1 _))<|.A 1 I<|bK h λx27 q27 h=>.p I (.shr I I I q27)<|.p I (.fa I (G69_1 _))<|.A 1 I<|.p I (.band I I I)<|.A 2 I<|.nil<|.nil<|.K [5,6,9,10] I<|.seq<|.plain 13 I<|.A 4 I<|.jO 8 (((add64 x17 x26)==x27)&&(decide (band .i64 x18 4294967295≤band .i64 t0.bound 4294967295))) I (λb28=>?_) ?_
  ·refine .A 4 I<|.jAnd 3 (b2:=decide (band .i64 x18 4294967295≤band .i64 t0.bound 4294967295)) I I I I (.inr ⟨_,_,_,I,I,I⟩) (λ_ _ _ h1 h2=>by cases h1;cases h2;decide) I I (λb29=>?_) ?_
   ·refine .A 3 I<|.nil I
   exact .nil I
  refine .nil<|.A 1 I<|.nil<|.ret (rO h I)
theorem ref12_Holds_ok (n t0 t1 r) (h:ref12_Holds n t0 t1=some r):Pure pg 98 [Constraint.enc t0,eA t1] (.bool r):=by
 refine Pure.ot Tryz.func98 I Tryz.ntmps98 I λA w=>.sA 2 I<|.seq<|.S 2 I<|.p I (.len I U22 I)<|.Z h I (ref12_inside_ok _ _ _) λx1 h=>.A 1 I<|.nil<|.condS I h (λh=>?_) λh=>?_
 ·refine .sA 1 I<|.ret (rO h I)
 ·refine .skip<|.seq<|.sr<|.p I (.fa I (G74_0 _))<|.A 2 I<|.nil<|.condS I h (λh=>?_) λh=>?_
  ·refine .S 2 I<|.Z h I (ref12_Cycle_ok _ _ _) λx2 h=>.p I (.len I U22 I)<|.A 2 I<|.nil<|.K [4] I<|.ret (rO h I)
  ·refine .skip<|.sr<|.p I (.fa I (G74_2 _))<|.A 2 I<|.Z h I (ref12_small_ok _ _ _) λx3 h=>.A 1 I<|.nil<|.ret (rO h I)
theorem ref14_Holds_ok (n t0 t1 r) (h:ref14_Holds n t0 t1=some r):Pure pg 51 [Constraint.enc t0,eA t1] (.bool r):=by
 refine Pure.ot Tryz.func51 I Tryz.ntmps51 I λA w=>.sA 2 I<|.S 2 I<|.Z h I (ref12_Holds_ok _ _ _) λx1 h=>.A 1 I<|.nil<|.ret (rO h I)
theorem ref22_Row_ok (n t0 t1 r) (h:ref22_Row n t0 t1=some r):Pure pg 31 [Row.enc t0,eA t1] (.bool r):=by
 refine Pure.ot Tryz.func31 I Tryz.ntmps31 I λA w=>.sA 2 I<|.S 1 I<|.p I (.castD (Constraint.enc (⟨0,0,t0,0,0⟩:Constraint)) I (.build I Pl74 (.agg Zc74 (ds':=[_,_,_,_,_,_]) (.e (.e (.e (.e (.e .e1)))))) I I))<|.A 1 I<|.Z h I (ref14_Holds_ok _ _ _) λx1 h=>.A 1 I<|.nil<|.ret (rO h I)
theorem ref22_Possible_ok (n t0 t1 t2 r) (h:ref22_Possible n t0 t1 t2=some r):Pure pg 137 [Model.enc t0,Effect.enc t1,eA t2] (.bool r):=by
 refine Pure.ot Tryz.func137 I Tryz.ntmps137 I λA w=>.sA 3 I<|.S 2 I<|.Z h I (ref22_Plus_ok _ _ _) λx1 h=>.A 1 I<|.nil<|.seq<|.sA 1 I<|.block<|.L [2,3,4,7] h (λv=>[(8,.d (.int v))]) (λv=>[]) I λ_ x14 h=>.seq<|.S 3 I<|.p I (.len I U25 I)<|.A 1 I<|.nil<|.K [2,3,4,7,8,17] I<|.condS I h (λh=>?_) λh=>?_
 ·refine .skip<|.seq<|.block<|.seq<|.plain 18 I<|.A 3 I<|.X h I λx16 h=>.A 2 I<|.Z h I (ref14_Holds_ok _ _ _) λx17 h=>.A 2 I<|gK h λc19 h=>gK h λc20 h=>.jO 8 (!((ref14_Holds n ((idx t0.constraints x14).getD default) x1).getD default)) I (λb18=>?_) ?_
  ·refine .A 3 I<|.q I (.ix I U25 S74 (someD (impF c19 b18)))<|.A 2 I<|.q I (.call I (kC I) I (ref14_Holds_ok _ _ _ _ (someD (impF c20 b18))))<|.A 1 I<|.nil I
  refine .nil<|.nil<|.K [2,3,4,7,8,37] I<|.condS I h (λh=>?_) λh=>?_
  ·refine .sA 1 I<|.ret (rO h I)
  ·refine .skip<|.rA 3 I (ndE h I)
 ·refine .exit<|.seq<|.sA 1 I<|.block<|.L [2,4] h (λv=>[(9,.d (.int v))]) (λv=>[]) I λ_ x27 h=>.seq<|.S 1 I<|.p I (.fa I (G60_1 _))<|.A 1 I<|.p I (.len I U57 I)<|.A 1 I<|.nil<|.K [2,4,9,42] I<|.condS I h (λh=>?_) λh=>?_
  ·refine .skip<|.seq<|.block<|.sr<|.p I (.fa I (G60_1 _))<|.A 2 I<|.X h I λx29 h=>.A 2 I<|.Z h I (ref22_Row_ok _ _ _) λx30 h=>.A 1 I<|.nil<|.condS I h (λh=>?_) λh=>?_
   ·refine .sA 1 I<|.ret (rO h I)
   ·refine .skip<|.rA 3 I (ndE h I)
  ·refine .exit<|.sA 1 I<|.ret (rO h I)
theorem ref22_Shows_ok (n t0 t1 t2 t3 r) (h:ref22_Shows n t0 t1 t2 t3=some r):Pure pg 97 [Model.enc t0,Question.enc t1,eA t2,eA t3] (.bool r):=by
 refine Pure.ot Tryz.func97 I Tryz.ntmps97 I λA w=>.sA 3 I<|.seq<|.S 1 I<|.p I (.len I U22 I)<|.A 1 I<|.Z h I (ref16_Total_ok _ _) λx1 h=>.A 1 I<|.nil<|.condS I h (λh=>?_) λh=>?_
 ·refine .sA 1 I<|.ret (rO h I)
 ·refine .skip<|.seq<|.sA 1 I<|.block<|.L [2,3,4,5] h (λv=>[(9,.d (.int v))]) (λv=>[]) I λ_ x10 h=>.seq<|.S 2 I<|.p I (.len I U22 I)<|.A 1 I<|.nil<|.K [2,3,4,5,9,22] I<|.condS I h (λh=>?_) λh=>?_
  ·refine .skip<|.seq<|.block<|.seq<|.draw 15 Hm (by kernel_rfl) (by kernel_rfl)<|.A 2 I<|.X h I λx12 h=>.A 3 I<|gK h λc14 h=>.jO 8 (decide ((t0.constraints.length:Int)≤((idx t2 x10).getD default))) I (λb13=>?_) ?_
   ·refine .A 2 I<|.q I (.ix I U22 S3 (someD (impF c14 b13)))<|.A 3 I<|.q I (.len I U25 I)<|.A 1 I<|.nil I
   refine .nil<|.nil<|.condS I h (λh=>?_) λh=>?_
   ·refine .sA 1 I<|.K [8] I<|.ret (rO h I)
   ·refine .skip<|.rA 3 I (ndE h I)
  ·refine .exit<|.S 2 I<|.p I (.fa I (G34_0 _))<|.A 1 I<|.X h I λx15 h=>.p I (.fa I (G62_2 _))<|.A 1 I<|.allocStore I I I I I I I I (by simp) I I Z60<|.nil<|.S 2 I<|.p I (.fa I (G34_1 _))<|.A 1 I<|.X h I λx16 h=>.p I (.fa I (G62_2 _))<|.A 1 I<|.allocStore I I I I I I I I (by simp) I I Z60<|.nil<|.K [2,3,4,5,10,11] I<|.seq<|.seq<|.plain 12 I<|.A 3 I<|.Z h I (ref22_Possible_ok _ _ _ _) λx17 h=>.A 2 I<|gK h λc19 h=>.jO 5 (!((ref22_Possible n t0 x16.effect t3).getD default)) I (λb18=>?_) ?_
   ·refine .A 3 I<|.q I (.call I (kC I) I (ref22_Possible_ok _ _ _ _ _ (someD (impF c19 b18))))<|.A 1 I<|.nil I
   refine .nil<|.nil<|.condS I h (λh=>?_) λh=>?_
   ·refine .sA 1 I<|.ret (rO h I)
   ·refine .skip<|.seq<|.draw 6 Hm (by kernel_rfl) (by kernel_rfl)<|.A 2 I<|.Z h I (ref22_Plus_ok _ _ _) λx20 h=>.A 1 I<|.Z h I (ref22_Plus_ok _ _ _) λx21 h=>.A 1 I<|.nil<|.nil<|.K [2,3,4,5,10,11,12] I<|.seq<|.sA 1 I<|.block<|.L [2,3,4,5,10,11,12] h (λv=>[(13,.d (.int v))]) (λv=>[]) I λ_ x36 h=>.seq<|.S 2 I<|.p I (.len I U22 I)<|.A 1 I<|.nil<|.K [2,3,4,5,10,11,12,13,74] I<|.condS I h (λh=>?_) λh=>?_
    ·refine .skip<|.seq<|.block<|.seq<|.draw 26 Hm (by kernel_rfl) (by kernel_rfl)<|.p I (.fa I (G34_2 _))<|.p I (.fa I (G32_0 _))<|.A 2 I<|gK h λc39 h=>.jO 8 (t1.target.index != ((idx t2 x36).getD default)) I (λb38=>?_) ?_
     ·refine .q I (.fa I (G34_2 _))<|.q I (.fa I (G32_1 _))<|.A 3 I<|.q I (.ix I U22 S3 (someD (impF c39 b38)))<|.A 2 I<|.nil I
     refine .A 1 I<|gK h λc41 h=>gK h λc42 h=>gK h λc43 h=>.jA 11 (!((ref14_Holds n ((idx t0.constraints ((idx t2 x36).getD default)).getD default) x21).getD default)) I (λb40=>?_) ?_
     ·refine .A 4 I<|.q I (.ix I U22 S3 (someD (impT c41 b40)))<|.A 1 I<|.q I (.ix I U25 S74 (someD (impT c42 b40)))<|.A 2 I<|.q I (.call I (kC I) I (ref14_Holds_ok _ _ _ _ (someD (impT c43 b40))))<|.A 1 I<|.nil I
     refine .nil<|.nil<|.K [2,3,4,5,10,11,12,13,102] I<|.condS I h (λh=>?_) λh=>?_
     ·refine .sA 1 I<|.ret (rO h I)
     ·refine .skip<|.rA 3 I (ndE h I)
    ·refine .exit<|.seq<|.sr<|.p I (.fa I (G34_2 _))<|.p I (.fa I (G32_0 _))<|.A 1 I<|.nil<|.condS I h (λh=>?_) λh=>?_
     ·refine .seq<|.draw 13 Hm (by kernel_rfl) (by kernel_rfl)<|.p I (.fa I (G60_1 _))<|.A 1 I<|.p I (.fa I (G34_2 _))<|.p I (.fa I (G32_1 _))<|.A 1 I<|.X h I λx44 h=>.A 3 I<|.Z h I (ref22_Plus_ok _ _ _) λx45 h=>.Z h I (ref22_Row_ok _ _ _) λx46 h=>.A 2 I<|.nil<|.nil<|.K [8] I<|.ret (rO h I)
     ·refine .skip<|.S 2 I<|.p I (.fa I (G34_2 _))<|.p I (.fa I (G32_1 _))<|.A 1 I<|.X h I λx47 h=>.A 2 I<|.Z h I (ref14_Holds_ok _ _ _) λx48 h=>.A 2 I<|.nil<|.ret (rO h I)
theorem ref22_Scenario_ok (n t0 t1 t2 t3 r) (h:ref22_Scenario n t0 t1 t2 t3=some r):Pure pg 50 [Model.enc t0,Question.enc t1,eA t2,eA t3] (.bool r):=by
 refine Pure.ot Tryz.func50 I Tryz.ntmps50 I λA w=>.sA 3 I<|.seq<|.S 2 I<|.Z h I (ref16_Valid_ok _ _ _) λx1 h=>.A 1 I<|.nil<|.condS I h (λh=>?_) λh=>?_
 ·refine .sA 1 I<|.ret (rO h I)
 ·refine .skip<|.S 4 I<|.Z h I (ref22_Shows_ok _ _ _ _ _) λx2 h=>.A 1 I<|.nil<|.ret (rO h I)
theorem ref24_Valid_ok (n t0 t1 t2 r) (h:ref24_Valid n t0 t1 t2=some r):Pure pg 13 [Model.enc t0,Scenario.enc t1,eA t2] (.bool r):=by
 refine Pure.ot Tryz.func13 I Tryz.ntmps13 I λA w=>.sA 3 I<|.seq<|.sA 1 I<|.block<|.L [2,3,4] h (λv=>[(7,.d (.int v))]) (λv=>[]) I λ_ x15 h=>.seq<|.S 2 I<|.p I (.len I U22 I)<|.A 1 I<|.nil<|.K [2,3,4,7,11] I<|.condS I h (λh=>?_) λh=>?_
 ·refine .skip<|.seq<|.block<|.seq<|.draw 27 Hm (by kernel_rfl) (by kernel_rfl)<|.A 2 I<|.X h I λx17 h=>.A 3 I<|gK h λc19 h=>.jO 8 (decide ((t0.constraints.length:Int)≤((idx t2 x15).getD default))) I (λb18=>?_) ?_
  ·refine .A 2 I<|.q I (.ix I U22 S3 (someD (impF c19 b18)))<|.A 3 I<|.q I (.len I U25 I)<|.A 1 I<|.nil I
  refine .A 1 I<|gK h λc21 h=>gK h λc22 h=>.jO 10 ((((idx t0.constraints ((idx t2 x15).getD default)).getD default).kind) != 0) I (λb20=>?_) ?_
  ·refine .A 4 I<|.q I (.ix I U22 S3 (someD (impF c21 b20)))<|.A 1 I<|.q I (.ix I U25 S74 (someD (impF c22 b20)))<|.q I (.fa I (G74_0 _))<|.A 2 I<|.nil I
  refine .nil<|.nil<|.K [2,3,4,7,40] I<|.condS I h (λh=>?_) λh=>?_
  ·refine .sA 1 I<|.ret (rO h I)
  ·refine .skip<|.rA 3 I (ndE h I)
 ·refine .exit<|.S 1 I<|.p I (.fa I (G36_0 _))<|.A 2 I<|.p I (.fa I (G36_1 _))<|.A 1 I<|.Z h I (ref22_Scenario_ok _ _ _ _ _) λx23 h=>.A 1 I<|.nil<|.ret (rO h I)
theorem ref24_Merged_ok (n t0 t1 r) (h:ref24_Merged n t0 t1=some r):Pure pg 16 [Model.enc t0,Scenario.enc t1] (eA r):=by
 refine Pure.ot Tryz.func16 I Tryz.ntmps16 I λA w=>.S 2 I<|.p I (.nilS 1 (α:=Int) D.int I)<|.nil<|.seq<|.seq<|.draw 13 Hm (by kernel_rfl) (by kernel_rfl)<|.A 1 I<|.p I (.fa I (G36_0 _))<|.A 1 I<|.Z h I (ref16_Valid_ok _ _ _) λx1 h=>.A 2 I<|gK h λc3 h=>.jO 6 ((t1.state.length:Int) != ((ref16_Total n t0).getD default)) I (λb2=>?_) ?_
 ·refine .q I (.fa I (G36_1 _))<|.A 1 I<|.q I (.len I U22 I)<|.A 1 I<|.q I (.call I (kC I) I (ref16_Total_ok _ _ _ (someD (impF c3 b2))))<|.A 1 I<|.nil I
 refine .nil<|.nil<|.K [2,3,17] I<|.condS I h (λh=>?_) λh=>?_
 ·refine .sr<|.p I (.nilS 1 (α:=Int) D.int I)<|.nil<|.ret ?_
  cases h
  exact retOne I (.d _)
 ·refine .skip<|.seq<|.draw 21 Hm (by kernel_rfl) (by kernel_rfl)<|.p I (.fa I (G36_1 _))<|.A 3 I<|.p I (.fa I (G36_0 _))<|.p I (.fa I (G34_0 _))<|.A 1 I<|.X h I λx4 h=>.p I (.fa I (G62_2 _))<|.A 1 I<|.Z h I (ref22_Plus_ok _ _ _) λx5 h=>.A 2 I<|.p I (.fa I (G36_0 _))<|.p I (.fa I (G34_1 _))<|.A 1 I<|.X h I λx6 h=>.p I (.fa I (G62_2 _))<|.A 1 I<|.Z h I (ref22_Plus_ok _ _ _) λx7 h=>.A 1 I<|.nil<|.nil<|.K [4] I<|.ret ?_
  cases h
  exact retOne I (.d _)
theorem ref24_Broken_ok (n t0 t1 r) (h:ref24_Broken n t0 t1=some r):Pure pg 18 [Model.enc t0,Scenario.enc t1] (eA r):=by
 refine Pure.ot Tryz.func18 I Tryz.ntmps18 I λA w=>.S 2 I<|.p I (.nilS 1 (α:=Int) D.int I)<|.nil<|.sr<|.buildVec [] I I I I I E22 I (λ_=>I) I (enc:=D.int)<|.A 1 I<|.nil<|.seq<|.seq<|.draw 13 Hm (by kernel_rfl) (by kernel_rfl)<|.A 1 I<|.p I (.fa I (G36_0 _))<|.A 1 I<|.Z h I (ref16_Valid_ok _ _ _) λx1 h=>.A 2 I<|gK h λc3 h=>.jO 6 ((t1.state.length:Int) != ((ref16_Total n t0).getD default)) I (λb2=>?_) ?_
 ·refine .q I (.fa I (G36_1 _))<|.A 1 I<|.q I (.len I U22 I)<|.A 1 I<|.q I (.call I (kC I) I (ref16_Total_ok _ _ _ (someD (impF c3 b2))))<|.A 1 I<|.nil I
 refine .nil<|.nil<|.K [2,3,5,21] I<|.condS I h (λh=>?_) λh=>?_
 ·refine .sA 2 I<|.ret ?_
  cases h
  exact retOne I (.vec I (by simp))
 ·refine .skip<|.S 2 I<|.Z h I (ref24_Merged_ok _ _ _) λx4 h=>.A 1 I<|.nil<|.seq<|.sA 1 I<|.block<|.L [2,6] h (λv=>[(5,.vec 0 (List.length v.1)),(7,.d (.int v.2))]) (λv=>[(0,.vec 3 1 (List.map D.int v.1))]) I λ_ ⟨b0_19,x20⟩ h=>.seq<|.S 3 I<|.p I (.len I U25 I)<|.A 1 I<|.nil<|.K [2,5,6,7,30] I<|.condS I h (λh=>?_) λh=>?_
  ·refine .skip<|.J [2,6,7] h (λv=>[(5,.vec 0 (List.length v))]) (λv=>[(0,.vec 3 1 (List.map D.int v))]) I (λk_23 h=>?_) (λb0_22 h=>?_)
   ·refine .block<|.S 3 I<|.X h I λx24 h=>.A 2 I<|.Z h I (ref14_Holds_ok _ _ _) λx25 h=>.A 1 I<|.nil<|.condS I h (λh=>?_) λh=>?_
    ·refine .region<|.A 2 I<|.p I (.buildSl [_] I I E22 I (λ_=>I) I (enc:=D.int))<|bK h λx26 q26 h=>.app I I I I I I I I E22 I (λ_=>I) q26<|.A 1 I<|.nil (ndE h I)
    ·refine .skip (ndE h I)
   ·refine .rA 3 I (ndE h I)
  ·refine .exit<|.sA 2 I<|.ret ?_
   cases h
   exact retOne I (.vec I (by simp))
theorem law24_ScenarioForms_ok (n t0 t1 t2 r) (h:law24_ScenarioForms n t0 t1 t2=some r):Pure pg 3 [Model.enc t0,Scenario.enc t1,eA t2] (.bool r):=by
 refine Pure.ot Tryz.func3 I Tryz.ntmps3 I λA w=>.sA 3 I<|.seq<|.sr<|.Z h I (law24_awake_ok _ ) λx1 h=>.A 1 I<|.nil<|.condS I h (λh=>?_) λh=>?_
 ·refine .sA 1 I<|.ret (rO h I)
 ·refine .skip<|.seq<|.seq<|.plain 14 I<|.A 1 I<|.Z h I (ref13_Few_ok _ _) λx2 h=>.A 2 I<|gK h λc4 h=>.jO 4 (!((law24_small n t1.state).getD default)) I (λb3=>?_) ?_
  ·refine .q I (.fa I (G36_1 _))<|.A 1 I<|.q I (.call I (kC I) I (law24_small_ok _ _ _ (someD (impF c4 b3))))<|.A 1 I<|.nil I
  refine .A 1 I<|.jO 3 (decide (50<(t2.length:Int))) I (λb5=>?_) ?_
  ·refine .A 1 I<|.q I (.len I U22 I)<|.A 1 I<|.nil I
  refine .nil<|.nil<|.K [2,3,4,22] I<|.condS I h (λh=>?_) λh=>?_
  ·refine .sA 1 I<|.ret (rO h I)
  ·refine .skip<|.seq<|.draw 28 Hm (by kernel_rfl) (by kernel_rfl)<|.A 3 I<|.Z h I (scenario_Valid_ok _ _ _ _) λx6 h=>.A 3 I<|.Z h I (ref24_Valid_ok _ _ _ _) λx7 h=>.p I (.beq I U4 I I)<|.A 1 I<|gK h λc9 h=>gK h λc10 h=>gK h λc11 h=>.jA 7 (((slices_Equal_Lint_int n ((scenario_Merged n t0 t1).getD default) ((ref24_Merged n t0 t1).getD default)).getD default)) I (λb8=>?_) ?_
   ·refine .A 2 I<|.q I (.call I (kC I) I (scenario_Merged_ok _ _ _ _ (someD (impT c9 b8))))<|.A 2 I<|.q I (.call I (kC I) I (ref24_Merged_ok _ _ _ _ (someD (impT c10 b8))))<|.q I (.call I (kC I) I (slices_Equal_Lint_int_ok _ _ _ _ (someD (impT c11 b8))))<|.nil I
   refine .A 1 I<|gK h λc13 h=>gK h λc14 h=>gK h λc15 h=>.jA 7 (((slices_Equal_Lint_int n ((scenario_Broken n t0 t1).getD default) ((ref24_Broken n t0 t1).getD default)).getD default)) I (λb12=>?_) ?_
   ·refine .A 2 I<|.q I (.call I (kC I) I (scenario_Broken_ok _ _ _ _ (someD (impT c13 b12))))<|.A 2 I<|.q I (.call I (kC I) I (ref24_Broken_ok _ _ _ _ (someD (impT c14 b12))))<|.q I (.call I (kC I) I (slices_Equal_Lint_int_ok _ _ _ _ (someD (impT c15 b12))))<|.nil I
   refine .A 1 I<|.nil<|.nil<|.K [6] I<|.ret (rO h I)
end
theorem loopF_g {σ R:Type} {body:(σ→Option R)→σ→Option R} {len:Nat} {st:Nat→σ} {g:Nat→Option R}
  (hb:∀ rec i,i<len→rec (st (i+1))=g (i+1)→body rec (st i)=g i) (he:∀ rec,body rec (st len)=g len) :
  ∀ n i,i≤len→len - i<n→loopF body n (st i)=g i
 | 0,_,_,h=>by omega
 | n+1,i,hi,h=>by
  simp only [loopF];by_cases e:i=len
  ·subst e;exact he _
  ·exact hb _ i (by omega) (loopF_g hb he n (i+1) (by omega) (by omega))
theorem add64_1 {i:Nat} (h:i<4611686018427387904):add64 (i:Int) 1=((i+1:Nat):Int):=by
 unfold add64;rw [w64_id (by omega) (by omega)];omega
theorem idx_nat {α:Type} {l:List α} {i:Nat} (h:i<l.length):idx l (i:Int)=some l[i]:=by
 unfold idx;rw [if_pos (by omega)];simp [h]
theorem lt_len {α:Type} {l:List α} {i:Nat} (h:i<l.length):decide ((i:Int)<(l.length:Int))=true:=by simp;omega
theorem ge_len {α:Type} {l:List α}:decide (((l.length:Nat):Int)<(l.length:Int))=false:=by simp
def addedP:List Change→Int→Int
 | [],_=>0
 | d::l,c=>if d.cell=c then d.add else addedP l c
theorem drop_cons {α:Type} {l:List α} {i:Nat} (h:i<l.length):l.drop i=l[i]::l.drop (i+1):=List.drop_eq_getElem_cons h
def addP (c:Int):List Change→Int→Int
 | [],s=>s
 | d::l,s=>addP c l (if d.cell=c then add64 s d.add else s)
theorem addP_append (c):∀ (l m:List Change) (s:Int),addP c (l++m) s=addP c m (addP c l s)
 | [],_,_=>rfl
 | _::l,m,s=>by simp only [y6,addP];exact addP_append c l m _
theorem ref22_Add_eq {n:Nat} {e} (c:Int) (hl:e.delta.length<4611686018427387904) (hn:e.delta.length<n):ref22_Add n e c=some (addP c e.delta 0):=by
 have:=loopF_g (body:=ref22_Add.l1 n e c) (len:=e.delta.length) (st:=λi=>(addP c (e.delta.take i) 0,(i:Int))) (g:=λ_=>some (addP c e.delta 0)) (λrec i hi hr=>?_) (λrec=>?_) n 0 (yv _) (by omega)
 ·simpa [ref22_Add,addP] using this
 ·rw [yC hi,addP_append] at hr;simp only [addP] at hr;simp only [ref22_Add.l1,lt_len hi,if_true,idx_nat hi,ya,jn,add64_1 (i:=i) (by omega),beq_iff_eq];split at hr <;> rename_i h
  ·rw [if_pos h,hr]
  ·rw [if_neg h,hr]
 ·simp [ref22_Add.l1]
theorem addP_other (c):∀ (l:List Change) (s:Int),(∀ d∈l,d.cell≠c)→addP c l s=s
 | [],_,_=>rfl
 | d::l,s,h=>by
  simp only [addP];rw [if_neg (h d (by simp))];exact addP_other c l s λx hx=>h x (by simp [hx])
theorem addP_addedP (c):∀ (l:List Change),(l.map (·.cell)).Nodup→(∀ d∈l,-9223372036854775808≤d.add∧d.add≤9223372036854775807)→addP c l 0=addedP l c
 | [],_,_=>rfl
 | d::l,hn,hb=>by
  simp only [yP,List.nodup_cons,yV,not_exists,not_and] at hn;simp only [addP,addedP];split <;> rename_i h
  ·rw [addP_other c l _ λx hx e=>hn.1 x hx (e.trans h.symm)];have:=hb d (by simp);unfold add64;rw [Int.zero_add];exact w64_id this.1 this.2
  ·exact addP_addedP c l hn.2 λx hx=>hb x (by simp [hx])
section
variable {κ:Type} [DecidableEq κ]
structure SetIs (m:GMap κ Bool) (l:List κ):Prop where
 tru:∀ e∈m.es,e.2.2=true
 mem:∀ k,k∈m.es.map (λe=>e.2.1)↔k∈l
theorem findK_get (k:κ):∀ (es:List (Nat×κ×Bool)),(∀ e∈es,e.2.2=true)→((findK k es).map (·.2)).getD false=decide (k∈es.map (λe=>e.2.1))
 | [],_=>by simp [findK]
 | e::es,h=>by
  simp only [findK,yP,yI];by_cases hk:k=e.2.1
  ·simp [hk,h e (by simp)]
  ·rw [if_neg hk];have:=findK_get k es λx hx=>h x (by simp [hx])
   simp only [hk,false_or,← this,Option.map_map];cases findK k es <;> rfl
theorem findK_no (k:κ):∀ (es:List (Nat×κ×Bool)),findK k es=none→k∉es.map (λe=>e.2.1)
 | [],_=>by simp
 | e::es,h=>by
  simp only [findK] at h;split at h
  ·cases h
  ·rename_i hk;simp only [Option.map_eq_none_iff] at h;simp only [yP,yI,not_or];exact ⟨hk,findK_no k es h⟩
theorem findK_yes (k:κ):∀ (es:List (Nat×κ×Bool)) (p:Nat×Bool),findK k es=some p→k∈es.map (λe=>e.2.1)
 | [],_,h=>by simp [findK] at h
 | e::es,p,h=>by
  simp only [findK] at h;split at h
  ·rename_i hk;simp [hk]
  ·simp only [Option.map_eq_some_iff] at h;obtain ⟨q,h1,_⟩:=h;exact uf _ (findK_yes k es q h1)
theorem SetIs.get {m:GMap κ Bool} {l:List κ} (h:SetIs m l) (k:κ):(m.get? k).getD false=decide (k∈l):=by
 unfold GMap.get?;rw [findK_get k m.es h.tru];exact decide_eq_decide.2 (h.mem k)
theorem SetIs.empty:SetIs (GMap.empty:GMap κ Bool) []:=⟨λe he=>(by simp [GMap.empty] at he),λk=>by simp [GMap.empty]⟩
theorem modify_keys (f:Nat×κ×Bool→Nat×κ×Bool) (hf:∀ e,(f e).2.1=e.2.1):∀ (es:List (Nat×κ×Bool)) (i:Nat),(es.modify i f).map (λe=>e.2.1)=es.map (λe=>e.2.1)
 | [],_=>by simp
 | e::es,0=>by simp [hf]
 | e::es,i+1=>by simp [modify_keys f hf es i]
theorem modify_all {p:Nat×κ×Bool→Prop} (f:Nat×κ×Bool→Nat×κ×Bool) (hf:∀ e,p (f e)):∀ (es:List (Nat×κ×Bool)) (i:Nat),(∀ e∈es,p e)→∀ e∈es.modify i f,p e
 | [],_,_=>by simp
 | e::es,0,h=>by
  intro x hx;simp only [List.modify_zero_cons,yI] at hx;rcases hx with rfl | hx
  ·exact hf e
  ·exact h x (by simp [hx])
 | e::es,i+1,h=>by
  intro x hx;simp only [List.modify_succ_cons,yI] at hx;rcases hx with rfl | hx
  ·exact h x (by simp)
  ·exact modify_all f hf es i (λy hy=>h y (by simp [hy])) x hx
theorem SetIs.put {m:GMap κ Bool} {l:List κ} (h:SetIs m l) (k:κ):SetIs (m.put k true) (l++[k]):=by
 unfold GMap.put;cases hk:findK k m.es with
 | none=>
  simp only [];refine ⟨λe he=>?_,λx=>?_⟩
  ·simp only [yG,yL] at he;rcases he with he | rfl
   ·exact h.tru e he
   ·rfl
  ·simp only [ur,yP,List.map_nil,yG,yL,h.mem x]
 | some p=>
  obtain ⟨i,b⟩:=p;simp only [];have hkl:k∈l:=(h.mem k).1 (findK_yes k m.es _ hk);refine ⟨modify_all (p:=λe=>e.2.2=true) _ (λe=>rfl) m.es i h.tru,λx=>?_⟩;rw [modify_keys (λe:Nat×κ×Bool=>(e.1,e.2.1,true)) (λe=>rfl) m.es i,h.mem x];simp only [yG,yL];exact ⟨.inl,λhx=>hx.elim id λe=>by rw [e];exact hkl⟩
end
def ixP {α:Type} (p:α→Bool):List α→Nat→Int
 | [],_=>-1
 | x::l,i=>if p x=true then (i:Int) else ixP p l (i+1)
theorem ixP_iff {α:Type} (p):∀ (l:List α) (i:Nat),0≤ixP p l i↔l.any p=true
 | [],_=>by simp [ixP]
 | x::l,i=>by
  have ih:=ixP_iff p l (i+1);rw [ixP,List.any_cons];by_cases h:p x=true
  ·rw [if_pos h,h];simp
  ·rw [if_neg h,ih];simp only [yE] at h;rw [h,uh]
theorem ixP_any {α:Type} (p:α→Bool) (l:List α) (i:Nat):decide (0≤ixP p l i)=l.any p:=by
 have:=ixP_iff p l i;cases h:l.any p with
 | true=>exact decide_eq_true (this.2 h)
 | false=>exact decide_eq_false λhc=>by rw [this.1 hc] at h;cases h
theorem IndexFunc_Lint_eq {n l f p} (hf:∀ x∈l,f x=some (p x)) (hl:l.length<4611686018427387904) (hn:l.length<n):slices_IndexFunc_Lint_int n l f=some (ixP p l 0):=by
 have:=loopF_g (body:=slices_IndexFunc_Lint_int.l1 n l f) (len:=l.length) (st:=λi=>(i:Int)) (g:=λi=>some (ixP p (l.drop i) i)) (λrec i hi hr=>?_) (λrec=>?_) n 0 (yv _) (by omega)
 ·simpa [slices_IndexFunc_Lint_int] using this
 ·simp only [slices_IndexFunc_Lint_int.l1,lt_len hi,if_true,idx_nat hi,ya,hf _ (ym hi),add64_1 (i:=i) (by omega),hr];rw [drop_cons hi];simp only [ixP];split <;> rfl
 ·simp [slices_IndexFunc_Lint_int.l1,ixP]
theorem ContainsFunc_Lint_eq {n:Nat} {l:List Int} {f:Int→Option Bool} {p:Int→Bool} (hf:∀ x∈l,f x=some (p x)) (hl:l.length<4611686018427387904) (hn:l.length<n):slices_ContainsFunc_Lint_int n l f=some (l.any p):=by
 unfold slices_ContainsFunc_Lint_int;rw [IndexFunc_Lint_eq hf hl hn,ya,ixP_any]
def sizeOK (x:Int):Bool:=decide (1≤x)&&decide (x≤6)
def colOK (sizes:List Int) (c:Int):Bool:=decide (0≤c)&&decide (c<(sizes.length:Int))
theorem any_not {α:Type} (p:α→Bool) (l:List α):(!l.any λx=>!p x)=l.all p:=by
 induction l with
 | nil=>rfl
 | cons x l ih=>simp only [List.any_cons,ui,← ih];cases p x <;> simp
theorem cells_sized_eq {n:Nat} {l:List Int} (hl:l.length<4611686018427387904) (hn:l.length<n):cells_sized n l=some (l.all sizeOK):=by
 unfold cells_sized;rw [ContainsFunc_Lint_eq (p:=λx=>!sizeOK x) (λx _=>by simp [cells_sized_1,cells_within,sizeOK]) hl hn,ya,any_not]
theorem cells_columned_eq {n:Nat} {sizes cols:List Int} (hl:cols.length<4611686018427387904) (hn:cols.length<n):cells_columned n sizes cols=some (decide (cols.length≤3)&&cols.all (colOK sizes)):=by
 unfold cells_columned;rw [ContainsFunc_Lint_eq (p:=λx=>!colOK sizes x) (λx _=>by
  simp only [cells_columned_1,colOK,yg,Bool.not_and];congr 1
  ·rw [← decide_not];exact decide_eq_decide.2 (by omega)
  ·rw [← decide_not];exact decide_eq_decide.2 (by omega)) hl hn]
 simp only [yj,yw,grd,if_true,yf,any_not,yg];congr 1;exact decide_eq_decide.2 (by omega)
theorem ref09_sound_eq {n l} (hl:l.length<4611686018427387904) (hn:l.length<n):ref09_sound n l=some (l.all sizeOK):=by
 have:=loopF_g (body:=ref09_sound.l1 n l) (len:=l.length) (st:=λi=>(i:Int)) (g:=λi=>some ((l.drop i).all sizeOK)) (λrec i hi hr=>?_) (λrec=>?_) n 0 (yv _) (by omega)
 ·simpa [ref09_sound] using this
 ·simp only [ref09_sound.l1,lt_len hi,if_true,idx_nat hi,ya,yj,yw,grd,yf,add64_1 (i:=i) (by omega),hr];rw [drop_cons hi];simp only [ui,sizeOK];by_cases h:1≤l[i]∧l[i]≤6
  ·rw [if_neg (by simp;omega)];simp [h.1,h.2]
  ·rw [if_pos (by simp;omega)];have:(decide (1≤l[i])&&decide (l[i]≤6))=false:=by
    simp only [uk,yF];omega
   rw [this,y7]
 ·simp [ref09_sound.l1]
def widthP (sizes:List Int):List Int→Int→Int
 | [],s=>s
 | c::l,s=>widthP sizes l (mul64 s (sizes.getD c.toNat 0))
theorem widthP_append (sizes):∀ (l m:List Int) (s:Int),widthP sizes (l++m) s=widthP sizes m (widthP sizes l s)
 | [],_,_=>rfl
 | _::l,m,s=>by simp only [y6,widthP];exact widthP_append sizes l m _
theorem idx_col {sizes c} (h:colOK sizes c=true):idx sizes c=some (sizes.getD c.toNat 0):=by
 simp only [colOK,yc,yd] at h;obtain ⟨n,rfl⟩:=yW h.1;have:n<sizes.length:=by omega
 rw [idx_nat this];simp [List.getD,this]
theorem cells_width_eq {n sizes cols} (hc:cols.all (colOK sizes)=true) (hl:cols.length<4611686018427387904) (hn:cols.length<n):cells_width n sizes cols=some (widthP sizes cols 1):=by
 have:=loopF_g (body:=cells_width.l1 n sizes cols) (len:=cols.length) (st:=λi=>(widthP sizes (cols.take i) 1,(i:Int))) (g:=λ_=>some (widthP sizes cols 1)) (λrec i hi hr=>?_) (λrec=>?_) n 0 (yv _) (by omega)
 ·simpa [cells_width,widthP] using this
 ·rw [yC hi,widthP_append] at hr;simp only [widthP] at hr;simp only [cells_width.l1,lt_len hi,if_true,idx_nat hi,ya,idx_col (yo.1 hc _ (ym hi)),add64_1 (i:=i) (by omega),hr]
 ·simp [cells_width.l1]
theorem number_loop {n sizes cols} (hl:cols.length<4611686018427387904) (hn:cols.length<n):loopF (ref09_number.l1 n sizes cols) n (1,0)=some (if cols.all (colOK sizes)=true then widthP sizes cols 1 else 0):=by
 by_cases hc:cols.all (colOK sizes)=true
 ·rw [if_pos hc];have:=loopF_g (body:=ref09_number.l1 n sizes cols) (len:=cols.length) (st:=λi=>(widthP sizes (cols.take i) 1,(i:Int))) (g:=λ_=>some (widthP sizes cols 1)) (λrec i hi hr=>?_) (λrec=>?_) n 0 (yv _) (by omega)
  ·simpa [widthP] using this
  ·rw [yC hi,widthP_append] at hr;simp only [widthP] at hr;have hcol:=yo.1 hc _ (ym hi);have h2:=idx_col hcol;simp only [colOK,yc,yd] at hcol;have hif:((decide (cols[i]<0))||(decide ((sizes.length:Int)≤cols[i])))=false:=by
    simp only [y9,yF];omega
   simp only [ref09_number.l1,lt_len hi,if_true,idx_nat hi,ya,yj,yw,grd,yf,hif,yh,if_false,h2,add64_1 (i:=i) (by omega),hr]
  ·simp [ref09_number.l1]
 ·rw [if_neg hc];have:=loopF_g (body:=ref09_number.l1 n sizes cols) (len:=cols.length) (st:=λi=>(widthP sizes (cols.take i) 1,(i:Int))) (g:=λi=>some (if (cols.drop i).all (colOK sizes)=true then widthP sizes cols 1 else 0)) (λrec i hi hr=>?_) (λrec=>?_) n 0 (yv _) (by omega)
  ·simpa [widthP,hc] using this
  ·rw [yC hi,widthP_append] at hr;simp only [widthP] at hr;rw [drop_cons hi,ui];by_cases hcol:colOK sizes cols[i]=true
   ·have h2:=idx_col hcol;rw [hcol,yB];simp only [colOK,yc,yd] at hcol;have hif:((decide (cols[i]<0))||(decide ((sizes.length:Int)≤cols[i])))=false:=by
     simp only [y9,yF];omega
    simp only [ref09_number.l1,lt_len hi,if_true,idx_nat hi,ya,yj,yw,grd,yf,hif,yh,if_false,h2,add64_1 (i:=i) (by omega),hr]
   ·have hif:((decide (cols[i]<0))||(decide ((sizes.length:Int)≤cols[i])))=true:=by
     simp only [colOK,yc,yd] at hcol;simp only [yy,yd];omega
    simp only [yE] at hcol;rw [hcol,y7,if_neg (by simp)];simp only [ref09_number.l1,lt_len hi,if_true,idx_nat hi,ya,yj,yw,grd,yf,hif]
  ·simp [ref09_number.l1]
theorem ref09_number_eq {n sizes cols} (hl:cols.length<4611686018427387904) (hn:cols.length<n) (hs:sizes.length<4611686018427387904) (hsn:sizes.length<n) :
  ref09_number n sizes cols=some (if (decide (cols.length≤3)&&sizes.all sizeOK&&cols.all (colOK sizes))=true then widthP sizes cols 1 else 0):=by
 unfold ref09_number;rw [ref09_sound_eq hs hsn,number_loop hl hn];simp only [yj,yw,grd,if_true,yf];by_cases h3:cols.length≤3
 ·cases h4:sizes.all sizeOK with
  | true=>rw [if_neg (by simp;omega)];simp [h3]
  | false=>rw [if_pos (by simp)];simp
 ·rw [if_pos (by simp;left;omega)];simp [h3]
theorem loopF_M {S R:Type} {body:(S→Option R)→S→Option R} (μ:S→Nat) (I:S→Prop) (Q:S→Option R→Prop)
  (hb:∀ rec s,I s→(∀ s',I s'→μ s'<μ s→Q s' (rec s'))→Q s (body rec s)):∀ n s,I s→μ s<n→Q s (loopF body n s)
 | 0,_,_,h=>by omega
 | n+1,s,hI,h=>hb _ s hI λs' hI' hlt=>loopF_M μ I Q hb n s' hI' (by omega)
theorem loopF_I {σ S R:Type} {body:(S→Option R)→S→Option R} {len:Nat} {st:σ→Nat→S} {g:Nat→σ→Option R} (I:Nat→σ→Prop)
  (hb:∀ rec i s,i<len→I i s→(∀ s',I (i+1) s'→rec (st s' (i+1))=g (i+1) s')→body rec (st s i)=g i s) (he:∀ rec s,I len s→body rec (st s len)=g len s) :
  ∀ n i s,i≤len→len - i<n→I i s→loopF body n (st s i)=g i s
 | 0,_,_,_,h,_=>by omega
 | n+1,i,s,hi,h,hI=>by
  simp only [loopF];by_cases e:i=len
  ·subst e;exact he _ _ hI
  ·exact hb _ i s (by omega) hI λs' hI'=>loopF_I I hb he n (i+1) s' (by omega) (by omega) hI'
theorem loopF_1 {S R:Type} {body:(S→Option R)→S→Option R} {n:Nat} (h:0<n) (s:S):loopF body n s=body (loopF body (n - 1)) s:=by
 obtain ⟨m,rfl⟩:∃ m,n=m+1:=⟨n - 1,by omega⟩
 rfl
theorem add64_nat {a b:Nat} (h:a+b<9223372036854775808):add64 (a:Int) (b:Int)=((a+b:Nat):Int):=by
 unfold add64;rw [w64_id (by omega) (by omega)];omega
theorem sidx_nat {l:List UInt8} {i} (h:i<l.length):sidx l (i:Int)=some ((l[i].toNat:Nat):Int):=by
 unfold sidx;rw [if_pos (by omega)];simp [h]
theorem cut_nat {α:Type} {l:List α} {a b:Nat} (h1:a≤b) (h2:b≤l.length):cut l (a:Int) (b:Int)=some ((l.drop a).take (b - a)):=by
 unfold cut;rw [if_pos (by omega)];simp
theorem cut_end {α:Type} {l:List α} {a:Nat} (h1:a≤l.length):cut l (a:Int) (l.length:Int)=some (l.drop a):=by
 rw [cut_nat h1 (yn _),List.take_of_length_le (by simp)]
theorem cut_all {α:Type} {l:List α}:cut l 0 (l.length:Int)=some l:=by
 have:=cut_end (l:=l) (a:=0) (by omega);simpa using this
theorem lt_nat {i k:Nat} (h:i<k):decide ((i:Int)<(k:Int))=true:=by simp;omega
theorem ge_nat {i k:Nat} (h:k≤i):decide ((i:Int)<(k:Int))=false:=by simp;omega
def runP (p:Int→Bool):List UInt8→Nat
 | []=>0
 | b::l=>if p (b.toNat:Nat)=true then runP p l+1 else 0
theorem runP_le (p):∀ l,runP p l≤l.length
 | []=>yn _
 | b::l=>by
  simp only [runP,yN];split
  ·exact Nat.succ_le_succ (runP_le p l)
  ·omega
theorem lexer_run_eq {n} {l:List UInt8} {f p} (hf:∀ q,f q=some (p q)) (hl:l.length<4611686018427387904) (hn:l.length<n):lexer_run n l f=some ((runP p l:Nat):Int):=by
 have:=loopF_g (body:=lexer_run.l1 n l f) (len:=l.length) (st:=λi=>(i:Int)) (g:=λi=>some ((i+runP p (l.drop i):Nat):Int)) (λrec i hi hr=>?_) (λrec=>?_) n 0 (yv _) (by omega)
 ·simpa [lexer_run] using this
 ·simp only [lexer_run.l1,lt_len hi,sidx_nat hi,yj,y8,uh,grd,if_true,yf,hf,yB,add64_1 (i:=i) (by omega),hr];rw [drop_cons hi];simp only [runP];split <;> simp <;> omega
 ·simp [lexer_run.l1,runP,grd]
def letterP (q:Int):Bool:=decide (97≤q)&&decide (q≤122)
def digitP (q:Int):Bool:=decide (48≤q)&&decide (q≤57)
def partP (q:Int):Bool:=(letterP q||digitP q)||(q==95)
theorem lexer_letter_eq {n q}:lexer_letter n q=some (letterP q):=rfl
theorem lexer_digit_eq {n q}:lexer_digit n q=some (digitP q):=rfl
theorem ref_letter_eq {n q}:ref02_letter n q=some (letterP q):=rfl
theorem ref_digit_eq {n q}:ref02_digit n q=some (digitP q):=rfl
def blackP (q:Int):Bool:=!(q==9||q==10||q==13||q==32||q==35)
theorem letter_black {q} (h:letterP q=true):blackP q=true:=by
 simp only [letterP,yc,yd] at h;simp only [blackP,yA,y9,ub];omega
theorem lexer_skip_tt {n:Nat} {l:List UInt8} (hl:l.length<1000000) (hn:1000000≤n) :
  ∃ k:Nat,lexer_skip n l=some (k:Int)∧k≤l.length∧(∀ h:0<l.length,blackP (l[0].toNat:Nat)=true→k=0)∧(∀ h:0<l.length,blackP (l[0].toNat:Nat)=false→0<k):=by
 have:=loopF_M (body:=lexer_skip.l1 n l) (λs:Int=>l.length - s.toNat) (λs=>∃ i:Nat,s=i∧i≤l.length) (λs o=>∃ k:Nat,o=some (k:Int)∧k≤l.length∧s.toNat≤k∧∀ h:s.toNat<l.length,(blackP (l[s.toNat].toNat:Nat)=true→k=s.toNat)∧(blackP (l[s.toNat].toNat:Nat)=false→s.toNat<k))
  (λrec s hI hr=>by
   obtain ⟨i,rfl,hi⟩:=hI;by_cases hlt:i<l.length
   ·simp only [lexer_skip.l1,lt_len hlt,if_true,sidx_nat hlt,ya,lexer_white,yp];by_cases hw:((((((l[i].toNat:Nat):Int)==32)||(((l[i].toNat:Nat):Int)==9))||(((l[i].toNat:Nat):Int)==10))||(((l[i].toNat:Nat):Int)==13))=true
    ·rw [if_pos hw,add64_1 (i:=i) (by omega)];obtain ⟨k,e,k1,k2,-⟩:=hr ((i+1:Nat):Int) ⟨i+1,rfl,by omega⟩ (by simp only [yp];omega);simp only [yp] at k2;refine ⟨k,e,k1,by omega,λh=>⟨λhb=>?_,λhb=>by omega⟩⟩;exfalso;simp only [yy,beq_iff_eq] at hw;simp only [blackP,yA,y9,ub] at hb;omega
    ·rw [if_neg hw];by_cases hh:((l[i].toNat:Nat):Int)=35
     ·rw [if_pos (by simp [hh]),cut_end hi,ya,lexer_run_eq (f:=λq=>lexer_skip_1 n q) (p:=λq=>q != 10) (λq=>rfl) (by rw [y0];omega) (by rw [y0];omega),ya];have hrun:1≤runP (λq=>q != 10) (l.drop i):=by
       rw [drop_cons hlt,runP,hh];simp
      have hle:=runP_le (λq=>q != 10) (l.drop i);simp only [y0] at hle;rw [add64_nat (by omega)];obtain ⟨k,e,k1,k2,-⟩:=hr ((i+runP (λq=>q != 10) (l.drop i):Nat):Int) ⟨_,rfl,by omega⟩ (by simp only [yp];omega);simp only [yp] at k2;refine ⟨k,e,k1,by omega,λh=>⟨λhb=>?_,λhb=>by omega⟩⟩;rw [hh] at hb;exact absurd hb (by decide)
     ·rw [if_neg (by simpa using hh)];refine ⟨i,rfl,hi,yn _,λh=>⟨λ_=>rfl,λhb=>?_⟩⟩;exfalso;simp only [yy,beq_iff_eq,not_or] at hw;simp only [blackP,Bool.not_eq_false',yy,beq_iff_eq] at hb;omega
   ·have:i=l.length:=by omega
    subst this;refine ⟨l.length,by simp [lexer_skip.l1],yn _,by simp,λh=>by simp at h⟩) n 0 ⟨0,rfl,by omega⟩ (by simp;omega)
 obtain ⟨k,e,k1,-,k2⟩:=this;exact ⟨k,by simpa [lexer_skip] using e,k1,λh hb=>(k2 h).1 hb,λh hb=>(k2 h).2 hb⟩
theorem lexer_symbol_tt {n:Nat} {l:List UInt8} (hn:1000000≤n):∃ k:Int,lexer_symbol n l=some k:=by
 have:=loopF_M (body:=lexer_symbol.l1 n l) (λs:Int=>5 - s.toNat) (λs=>∃ i:Nat,s=i∧i≤5) (λ_ o=>∃ k:Int,o=some k) (λrec s hI hr=>by
  obtain ⟨i,rfl,hi⟩:=hI;simp only [lexer_symbol.l1];generalize hL:([[61,61],[33,61],[60,61],[62,61],[46,46]]:List (List UInt8))=L;have hLl:L.length=5:=by rw [← hL];rfl
  by_cases hlt:i<L.length
  ·have hp:∃ b,strings_HasPrefix n l L[i]=some b:=by
    simp only [strings_HasPrefix,internal_stringslite_HasPrefix];by_cases h:L[i].length≤l.length
    ·have:cut l 0 (L[i].length:Int)=some ((l.drop 0).take (L[i].length - 0)):=cut_nat (a:=0) (by omega) (by omega)
     simp [this,grd]
    ·simp [h,grd]
   obtain ⟨b,hp⟩:=hp;have hd:decide ((i:Int)<(([[61,61],[33,61],[60,61],[62,61],[46,46]]:List (List Nat)).length:Int))=true:=by simp;omega
   simp only [hd,if_true,idx_nat hlt,ya,hp,add64_1 (i:=i) (by omega)];split
   ·exact ⟨_,rfl⟩
   ·exact hr _ ⟨i+1,rfl,by omega⟩ (by simp only [yp];omega)
  ·have hd:decide ((i:Int)<(([[61,61],[33,61],[60,61],[62,61],[46,46]]:List (List Nat)).length:Int))=false:=by simp;omega
   rw [hd,if_neg (by simp)];cases l with
   | nil=>simp [grd]
   | cons b l=>
    have h0:sidx (b::l) 0=some ((b.toNat:Nat):Int):=sidx_nat (l:=b::l) (i:=0) (by simp)
    simp only [h0,strings_IndexByte,internal_stringslite_IndexByte,ya,yj,yw,grd,if_true,yf];split <;> exact ⟨_,rfl⟩) n 0 ⟨0,rfl,by omega⟩ (by simp;omega)
 simpa [lexer_symbol] using this
theorem lexer_begins_tt {n} {l:List UInt8} (hn:1000000≤n) (h:0<l.length):∃ b,lexer_begins n l=some b:=by
 obtain ⟨k,hk⟩:=lexer_symbol_tt (n:=n) (l:=l) hn;have h0:sidx l 0=some ((l[0].toNat:Nat):Int):=sidx_nat (i:=0) h;simp [lexer_begins,h0,lexer_letter,lexer_digit,hk,grd]
theorem lexer_wrong_tt {n:Nat} {l:List UInt8} {k:(Int×Int)→Option Token} (hl:l.length<1000000) (hn:1000000≤n) (h1:0<l.length):∃ e,loopF (lexer_tokens_1.l2 n l k) n 1=k (5,e):=by
 refine loopF_M (body:=lexer_tokens_1.l2 n l k) (λs:Int=>l.length - s.toNat) (λs=>∃ i:Nat,s=i∧i≤l.length) (λ_ o=>∃ e,o=k (5,e)) (λrec s hI hr=>?_) n 1 ⟨1,rfl,h1⟩ (by simp;omega);obtain ⟨i,rfl,hi⟩:=hI;by_cases hlt:i<l.length
 ·obtain ⟨b,hb⟩:=lexer_begins_tt (n:=n) (l:=l.drop i) hn (by simp;omega);simp only [lexer_tokens_1.l2,lt_len hlt,sidx_nat hlt,lexer_white,cut_end hi,hb,yj,yw,grd,if_true,yf,add64_1 (i:=i) (by omega)];split
  ·exact hr _ ⟨i+1,rfl,by omega⟩ (by simp only [yp];omega)
  ·exact ⟨_,rfl⟩
 ·have:i=l.length:=by omega
  subst this;exact ⟨(l.length:Int),by simp [lexer_tokens_1.l2,grd]⟩
def wordP (w:List UInt8):Bool:=(match w with | []=>false | b::_=>letterP (b.toNat:Nat))&&decide (runP partP w=w.length)
theorem wordP_cons (w:List UInt8) (h:0<w.length):wordP w=(letterP (w[0].toNat:Nat)&&decide (runP partP w=w.length)):=by
 cases w with
 | nil=>simp at h
 | cons b l=>rfl
theorem lexer_first {n:Nat} {w:List UInt8} {kw:GMap (List UInt8) Bool} (hl:w.length<1000000) (hn:1000000≤n) (h0:0<w.length) :
  ∃ t,lexer_tokens_1 n w kw=some t∧(t.at_=0∧t.end_=(w.length:Int)∧t.kind=1↔wordP w=true∧(kw.get? w).getD false=false):=by
 obtain ⟨k,e,k1,k2,k3⟩:=lexer_skip_tt (n:=n) (l:=w) hl hn;unfold lexer_tokens_1;rw [loopF_1 (by omega)];have hz:add64 0 (k:Int)=(k:Int):=by have:=add64_nat (a:=0) (b:=k) (by omega);simpa using this
 simp only [lexer_tokens_1.l1,cut_all,ya,e,hz,cut_end k1,jn];by_cases hk:k=w.length
 ·subst hk;rw [if_pos (by simp)];refine ⟨_,rfl,?_⟩;simp only [];constructor
  ·rintro ⟨-,-,h⟩;simp at h
  ·rintro ⟨h,-⟩;exfalso;rw [wordP_cons w h0,yc] at h;have:=k2 h0 (letter_black h.1);omega
 ·have hd:0<(w.drop k).length:=by simp;omega
  rw [if_neg (by simp;omega)];have hs:sidx (w.drop k) 0=some (((w.drop k)[0].toNat:Nat):Int):=sidx_nat (i:=0) hd;simp only [hs,ya,lexer_letter_eq];rw [wordP_cons w h0];by_cases hlet:letterP (((w.drop k)[0].toNat:Nat):Int)=true
  ·rw [if_pos hlet,lexer_run_eq (p:=partP) (λq=>by simp [lexer_part,lexer_letter,lexer_digit,grd,partP,letterP,digitP]) (by simp;omega) (by simp;omega)];have hle:=runP_le partP (w.drop k);have hc:=cut_nat (l:=w.drop k) (a:=0) (b:=runP partP (w.drop k)) (by omega) hle;simp only [ya,Int.natCast_zero] at hc ⊢;rw [hc];simp only [y0] at hle;have ha:add64 (k:Int) (runP partP (w.drop k):Nat)=((k+runP partP (w.drop k):Nat):Int):=add64_nat (by omega)
   simp only [ya,ha,List.drop_zero,Nat.sub_zero];by_cases hk0:k=0
   ·subst hk0;simp only [List.drop_zero] at hlet ⊢;by_cases hrun:runP partP w=w.length
    ·rw [hrun,List.take_of_length_le (yn _)];by_cases hkw:(kw.get? w).getD false=true
     ·rw [if_pos hkw];refine ⟨_,rfl,?_⟩;simp [hkw]
     ·rw [if_neg hkw];refine ⟨_,rfl,?_⟩;simp only [yE] at hkw;simp [hkw,hlet]
    ·split
     all_goals
      refine ⟨_,rfl,?_⟩;simp [hrun]
      try omega
   ·have hbl:blackP (w[0].toNat:Nat)=false:=by
     cases hb:blackP (w[0].toNat:Nat) with
     | false=>rfl
     | true=>exact absurd (k2 h0 hb) hk0
    have hnl:letterP (w[0].toNat:Nat)=false:=by
     cases hb:letterP (w[0].toNat:Nat) with
     | false=>rfl
     | true=>rw [letter_black hb] at hbl;cases hbl
    split
    all_goals
     refine ⟨_,rfl,?_⟩;simp [hnl,hk0]
  ·rw [if_neg hlet];have hno:k=0→letterP (w[0].toNat:Nat)=false:=by
    intro hk0;subst hk0;simp only [List.drop_zero,yE] at hlet;exact hlet
   have hno':letterP (w[0].toNat:Nat)=false:=by
    by_cases hk0:k=0
    ·exact hno hk0
    ·cases hb:letterP (w[0].toNat:Nat) with
     | false=>rfl
     | true=>exact absurd (k2 h0 (letter_black hb)) hk0
   simp only [lexer_digit_eq,ya,hno',y7,yh,false_and,iff_false];split
   ·rw [lexer_run_eq (p:=digitP) (λq=>rfl) (by simp;omega) (by simp;omega)];exact ⟨_,rfl,by simp⟩
   ·obtain ⟨v,hv⟩:=lexer_symbol_tt (n:=n) (l:=w.drop k) hn;simp only [hv,ya];split
    ·exact ⟨_,rfl,by simp⟩
    ·obtain ⟨e,he⟩:=lexer_wrong_tt (n:=n) (l:=w.drop k) (k:=λv=>some (⟨v.1,0,(k:Int),add64 (k:Int) v.2⟩:Token)) (by simp;omega) hn hd;rw [he];exact ⟨_,rfl,by simp⟩
def kwL:List (List UInt8):=[[115,111,114,116],[114,101,108,97,116,105,111,110],[99,111,117,110,116,101,114],[115,101,116],[114,101,103,105,115,116,101,114],[105,110,118,97,114,105,97,110,116],[111,112,101,114,97,116,105,111,110],[107,101,121],[114,101,102,101,114,101,110,99,101],[116,111],[99,111,117,110,116],[97,99,121,99,108,105,99],[97,108,108],[115,117,109],[105,110],[97,100,100,119,105,110,115],[114,101,109,111,118,101,119,105,110,115],[108,97,115,116],[109,117,108,116,105],[104,105,100,101],[111,114,100,101,114,101,100],[114,101,113,117,105,114,101],[104,111,108,100],[105,110,115,101,114,116],[100,101,108,101,116,101],[97,100,100],[102,114,111,109],[112,117,116],[100,114,111,112],[97,115,115,105,103,110],[102,111,114],[119,104,101,114,101],[97,110,100],[111,114],[110,111,116]]
structure Fuel (n:Nat):Prop where
 big:4294967296≤n
 kw:∃ m,lexer_keywords n=some m∧SetIs m kwL
def nameP (w:List UInt8):Bool:=decide (w.length≤16)&&(wordP w&&!decide (w∈kwL))
theorem lexer_Name_eq {n} {w:List UInt8} (hF:Fuel n):lexer_Name n w=some (nameP w):=by
 have hn:=hF.big;unfold lexer_Name nameP;by_cases h16:w.length≤16
 ·have hd:decide ((w.length:Int)≤16)=true:=by simp;omega
  simp only [hd,h16,decide_true,yB,y8,uh];unfold lexer_Kind;obtain ⟨m,hm,hs⟩:=hF.kw;cases hw:w with
  | nil=>simp [grd,wordP]
  | cons b l=>
   rw [← hw];have h0:0<w.length:=by rw [hw];simp
   rw [if_neg (by simp;exact ⟨by rw [hw];simp,by omega⟩),hm,ya];obtain ⟨t,ht,hiff⟩:=lexer_first (n:=n) (w:=w) (kw:=m) (by omega) (by omega) h0;rw [hs.get] at hiff;simp only [ht,ya];by_cases hc:t.at_=0∧t.end_=(w.length:Int)∧t.kind=1
   ·have:=hiff.1 hc;rw [if_neg (by simp [hc.1,hc.2.1])];simp only [yF] at this;simp [grd,hc.2.2,this.1,this.2]
   ·have hr:(wordP w&&!decide (w∈kwL))=false:=by
     cases hx:(wordP w&&!decide (w∈kwL)) with
     | false=>rfl
     | true=>
      simp only [yc,yA,yF] at hx;exact absurd (hiff.2 ⟨hx.1,by simp [hx.2]⟩) hc
    rw [hr];split
    ·simp [grd]
    ·rename_i hne;simp only [yy,bne_iff_ne,ne_eq,not_or,Decidable.not_not] at hne;have:t.kind≠1:=λe=>hc ⟨hne.1,hne.2,e⟩
     simp [grd,this]
 ·have hd:decide ((w.length:Int)≤16)=false:=by simp;omega
  simp [hd,h16,grd]
theorem ref_comment {n} {t:List UInt8} {rec x} (hx:x≤t.length) (hl:t.length<1000000) (hn:1000000≤n) :
  ∃ y:Nat,x≤y∧y≤t.length∧loopF (ref02_skip.l2 n t rec) n x=rec (y:Int)∧∀ h:x<t.length,(t[x].toNat:Nat)=35→x<y:=by
 have:=loopF_M (body:=ref02_skip.l2 n t rec) (λs:Int=>t.length - s.toNat) (λs=>∃ i:Nat,s=i∧i≤t.length) (λs o=>∃ y:Nat,s.toNat≤y∧y≤t.length∧o=rec (y:Int)∧∀ h:s.toNat<t.length,(t[s.toNat].toNat:Nat)=35→s.toNat<y) (λr s hI hr=>by
  obtain ⟨i,rfl,hi⟩:=hI;by_cases hlt:i<t.length
  ·simp only [ref02_skip.l2,lt_len hlt,sidx_nat hlt,yj,yw,grd,if_true,yf,yB,add64_1 (i:=i) (by omega),yp];by_cases h10:((((t[i].toNat:Nat):Int) != 10))=true
   ·rw [if_pos h10];obtain ⟨y,y1,y2,y3,-⟩:=hr ((i+1:Nat):Int) ⟨_,rfl,by omega⟩ (by simp only [yp];omega);simp only [yp] at y1;exact ⟨y,by omega,y2,y3,λ_ _=>by omega⟩
   ·rw [if_neg h10];refine ⟨i,yn _,hi,rfl,λ_ h=>?_⟩;rw [h] at h10;exact absurd h10 (by decide)
  ·have:i=t.length:=by omega
   subst this;exact ⟨t.length,by simp,yn _,by simp [ref02_skip.l2,grd],λh=>by simp at h⟩) n x ⟨x,rfl,hx⟩ (by simp;omega)
 simpa using this
theorem ref_skip_ok {n} {t:List UInt8} {a} (ha:a≤t.length) (hl:t.length<1000000) (hn:1000000≤n) :
  ∃ k:Nat,ref02_skip n t a=some (k:Int)∧a≤k∧k≤t.length∧(∀ h:k<t.length,blackP (t[k].toNat:Nat)=true)∧(∀ h:a<t.length,blackP (t[a].toNat:Nat)=true→k=a):=by
 have:=loopF_M (body:=ref02_skip.l1 n t) (λs:Int=>t.length - s.toNat) (λs=>∃ i:Nat,s=i∧i≤t.length)
  (λs o=>∃ k:Nat,o=some (k:Int)∧s.toNat≤k∧k≤t.length∧(∀ h:k<t.length,blackP (t[k].toNat:Nat)=true)∧(∀ h:s.toNat<t.length,blackP (t[s.toNat].toNat:Nat)=true→k=s.toNat)) (λr s hI hr=>by
  obtain ⟨i,rfl,hi⟩:=hI;by_cases hlt:i<t.length
  ·simp only [ref02_skip.l1,lt_len hlt,sidx_nat hlt,ref02_white,yj,yw,grd,if_true,yf,yB,ya,add64_1 (i:=i) (by omega),yp];by_cases hb:blackP (t[i].toNat:Nat)=true
   ·rw [if_neg (by
     simp only [blackP,yA,y9,ub] at hb;simp only [yy,beq_iff_eq];omega)]
    exact ⟨i,rfl,yn _,hi,λ_=>hb,λ_ _=>rfl⟩
   ·rw [if_pos (by
     simp only [blackP,yA,y9,ub] at hb;simp only [yy,beq_iff_eq];omega)]
    by_cases hh:(t[i].toNat:Nat)=35
    ·rw [if_pos (by simp [hh])];obtain ⟨y,y1,y2,y3,y4⟩:=ref_comment (n:=n) (rec:=r) hi hl hn;have y5:=y4 hlt hh;rw [y3];obtain ⟨k,e,k1,k2,k3,-⟩:=hr (y:Int) ⟨y,rfl,y2⟩ (by simp only [yp];omega);simp only [yp] at k1;exact ⟨k,e,by omega,k2,k3,λ_ h=>absurd h hb⟩
    ·rw [if_neg (by simp;omega)];obtain ⟨k,e,k1,k2,k3,-⟩:=hr ((i+1:Nat):Int) ⟨_,rfl,by omega⟩ (by simp only [yp];omega);simp only [yp] at k1;exact ⟨k,e,by omega,k2,k3,λ_ h=>absurd h hb⟩
  ·have:i=t.length:=by omega
   subst this;exact ⟨t.length,by simp [ref02_skip.l1,grd],by simp,yn _,λh=>absurd h (by omega),λh=>by simp at h⟩) n a ⟨a,rfl,ha⟩ (by simp;omega)
 simpa [ref02_skip] using this
theorem ref_symbol_ok {n} {t:List UInt8} {a} (ha:a≤t.length) (hl:t.length<1000000) (hn:1000000≤n):∃ v:Nat,ref02_symbol n t a=some (v:Int)∧a+v≤t.length:=by
 unfold ref02_symbol;simp only [ref02_Symbols,ya];generalize hL:([[61,61],[33,61],[60,61],[62,61],[46,46],[60],[62],[61],[43],[45],[42],[40],[41],[123],[125],[44],[58],[59]]:List (List UInt8))=L;have hLl:L.length=18:=by rw [← hL];rfl
 have hL2:∀ x∈L,x.length≤2:=by rw [← hL];decide
 refine loopF_M (body:=ref02_symbol.l1 n t a L) (λs:Int=>18 - s.toNat) (λs=>∃ i:Nat,s=i∧i≤18) (λs o=>∃ v:Nat,o=some (v:Int)∧a+v≤t.length) (λr s hI hr=>?_) n 0 ⟨0,rfl,by omega⟩ (by simp;omega);obtain ⟨i,rfl,hi⟩:=hI;by_cases hlt:i<L.length
 ·have h2:=hL2 _ (ym hlt);simp only [ref02_symbol.l1,lt_len hlt,if_true,idx_nat hlt,ya,yj,yf,yw,add64_1 (i:=i) (by omega),add64_nat (show a+L[i].length<9223372036854775808 by omega)];by_cases hle:a+L[i].length≤t.length
  ·simp only [cut_nat (l:=t) (a:=a) (b:=a+L[i].length) (by omega) hle,yj,yw,grd,if_true];split
   ·exact ⟨_,rfl,hle⟩
   ·exact hr _ ⟨i+1,rfl,by omega⟩ (by simp only [yp];omega)
  ·have hd:decide (((a+L[i].length:Nat):Int)≤(t.length:Int))=false:=by simp;omega
   simp only [hd,uq,uN,grd,if_true,y7,yh,if_false];exact hr _ ⟨i+1,rfl,by omega⟩ (by simp only [yp];omega)
 ·have:i=L.length:=by omega
  subst this;exact ⟨0,by simp [ref02_symbol.l1],by omega⟩
theorem ref_Has_eq {n} {L:List (List UInt8)} {w:List UInt8} (hl:L.length<1000000) (hn:1000000≤n):ref02_Has n L w=some (decide (w∈L)):=by
 have:=loopF_g (body:=ref02_Has.l1 n L w) (len:=L.length) (st:=λi=>(i:Int)) (g:=λi=>some (decide (w∈L.drop i))) (λrec i hi hr=>?_) (λrec=>?_) n 0 (yv _) (by omega)
 ·simpa [ref02_Has] using this
 ·simp only [ref02_Has.l1,lt_len hi,if_true,idx_nat hi,ya,add64_1 (i:=i) (by omega),hr];rw [drop_cons hi];by_cases h:L[i]=w
  ·rw [if_pos (by simpa using h)];simp only [yI,h,true_or,decide_true]
  ·have h':¬ w=L[i]:=λe=>h e.symm
   rw [if_neg (by simpa using h)];simp only [yI,h',false_or]
 ·simp [ref02_Has.l1]
theorem ref_keywords_eq {n}:ref02_Keywords n=some kwL:=rfl
theorem ref_token_ok {n} {t:List UInt8} {a} (ha:a<t.length) (hb:blackP (t[a].toNat:Nat)=true) (hl:t.length<1000000) (hn:1000000≤n) :
  ∃ (k:Int) (e:Nat),ref02_token n t a=some (k,(e:Int))∧a<e∧e≤t.length∧(letterP (t[a].toNat:Nat)=true→e=a+runP partP (t.drop a))∧(k=1↔letterP (t[a].toNat:Nat)=true∧(t.drop a).take (e - a)∉kwL):=by
 unfold ref02_token;simp only [sidx_nat ha,ya,ref_letter_eq,ref_digit_eq];by_cases hlet:letterP ((t[a].toNat:Nat):Int)=true
 ·rw [if_pos hlet];have hlp:letterP (t[a].toNat:Nat)=true:=hlet;have hrun1:1≤runP partP (t.drop a):=by
   rw [drop_cons ha,runP,if_pos (by simp [partP,hlp])];omega
  have hle:=runP_le partP (t.drop a);simp only [y0] at hle;have:=loopF_I (body:=ref02_token.l1 n t a) (len:=t.length) (st:=λ(_:Unit) i=>(i:Int)) (g:=λi _=>some (if decide ((t.drop a).take (i+runP partP (t.drop i) - a)∈kwL)=true then (2,((i+runP partP (t.drop i):Nat):Int)) else (1,((i+runP partP (t.drop i):Nat):Int)))) (λi _=>a≤i) (λrec i _ hi hai hr=>?_) (λrec _ hai=>?_) n a () (by omega) (by omega) (yn _)
  ·rw [this];refine ⟨if decide ((t.drop a).take (a+runP partP (t.drop a) - a)∈kwL)=true then 2 else 1,a+runP partP (t.drop a),?_,by omega,by omega,λ_=>rfl,?_⟩
   ·split <;> rfl
   ·rw [hlp];by_cases hk:(t.drop a).take (a+runP partP (t.drop a) - a)∈kwL
    ·simp [hk]
    ·simp [hk]
  ·have hr:=hr () (by omega);have hle':=runP_le partP (t.drop i);simp only [y0] at hle';simp only [ref02_token.l1,lt_len hi,sidx_nat hi,ref_letter_eq,ref_digit_eq,yj,yw,grd,if_true,yf,yB,add64_1 (i:=i) (by omega),hr];rw [drop_cons hi,runP];have hpe:(letterP ((t[i].toNat:Nat):Int)||digitP ((t[i].toNat:Nat):Int)||((t[i].toNat:Nat):Int)==95)=partP ((t[i].toNat:Nat):Int):=rfl;rw [hpe];by_cases hp:partP (t[i].toNat:Nat)=true
   ·rw [if_pos hp,if_pos hp,show i+(runP partP (t.drop (i+1))+1)=i+1+runP partP (t.drop (i+1)) by omega]
   ·rw [if_neg hp,if_neg hp];simp only [uo,ref_keywords_eq,ya,cut_nat hai (Nat.le_of_lt hi)];rw [ref_Has_eq (by decide) hn,ya];cases decide ((t.drop a).take (i - a)∈kwL) <;> rfl
  ·simp only [ref02_token.l1,ge_len,uq,uN,grd,if_true,y7,yh,if_false,ref_keywords_eq,ya,cut_nat hai (yn _)];rw [ref_Has_eq (by decide) hn,ya];simp only [List.drop_length,runP,uo];cases decide ((t.drop a).take (t.length - a)∈kwL) <;> rfl
 ·rw [if_neg hlet];have hlp:letterP (t[a].toNat:Nat)=false:=by simpa using hlet
  simp only [hlp,yh,false_implies,false_and,iff_false,true_and];by_cases hdig:digitP ((t[a].toNat:Nat):Int)=true
  ·rw [if_pos hdig];have:=loopF_M (body:=ref02_token.l2 n t) (λs:Int=>t.length - s.toNat) (λs=>∃ i:Nat,s=i∧i≤t.length) (λs o=>∃ e:Nat,o=some (3,(e:Int))∧s.toNat≤e∧e≤t.length∧∀ h:s.toNat<t.length,digitP (t[s.toNat].toNat:Nat)=true→s.toNat<e) (λr s hI hr=>by
    obtain ⟨i,rfl,hi⟩:=hI;by_cases hlt:i<t.length
    ·simp only [ref02_token.l2,lt_len hlt,sidx_nat hlt,ref_digit_eq,yj,yw,grd,if_true,yf,yB,add64_1 (i:=i) (by omega),yp];split
     ·obtain ⟨e,e1,e2,e3,-⟩:=hr ((i+1:Nat):Int) ⟨_,rfl,by omega⟩ (by simp only [yp];omega);simp only [yp] at e2;exact ⟨e,e1,by omega,e3,λ_ _=>by omega⟩
     ·rename_i hno;exact ⟨i,rfl,yn _,hi,λ_ h=>absurd h hno⟩
    ·have:i=t.length:=by omega
     subst this;exact ⟨t.length,by simp [ref02_token.l2,grd],by simp,yn _,λh=>by simp at h⟩) n a ⟨a,rfl,Nat.le_of_lt ha⟩ (by simp;omega)
   obtain ⟨e,e1,-,e3,e4⟩:=this;exact ⟨3,e,e1,e4 ha hdig,e3,by decide⟩
  ·rw [if_neg hdig];obtain ⟨v,hv,hv2⟩:=ref_symbol_ok (n:=n) (t:=t) (a:=a) (Nat.le_of_lt ha) hl hn;rw [hv,ya];by_cases hv0:0<v
   ·rw [if_pos (by simpa using hv0),add64_nat (by omega)];exact ⟨4,a+v,rfl,by omega,hv2,by decide⟩
   ·have hv0:v=0:=by omega
    subst hv0;rw [if_neg (by simp)];have:=loopF_M (body:=ref02_token.l3 n t) (λs:Int=>t.length - s.toNat) (λs=>∃ i:Nat,s=i∧i≤t.length) (λs o=>∃ e:Nat,o=some (5,(e:Int))∧s.toNat≤e∧e≤t.length∧(s=a→a<e)) (λr s hI hr=>by
     obtain ⟨i,rfl,hi⟩:=hI;by_cases hlt:i<t.length
     ·obtain ⟨u,hu,-⟩:=ref_symbol_ok (n:=n) (t:=t) (a:=i) hi hl hn;simp only [ref02_token.l3,lt_len hlt,sidx_nat hlt,ref02_white,ref_letter_eq,ref_digit_eq,hu,yj,yw,grd,if_true,yf,yB,add64_1 (i:=i) (by omega),yp];split
      ·obtain ⟨e,e1,e2,e3,-⟩:=hr ((i+1:Nat):Int) ⟨_,rfl,by omega⟩ (by simp only [yp];omega);simp only [yp] at e2;exact ⟨e,e1,by omega,e3,λh=>by omega⟩
      ·rename_i hno;refine ⟨i,rfl,yn _,hi,λh=>?_⟩;have hia:i=a:=by omega
       subst hia;exfalso;apply hno;rw [hv] at hu;simp only [yg,Int.natCast_inj] at hu;subst hu;simp only [blackP,yA,y9,ub] at hb;simp only [yc,bne_iff_ne,ne_eq,yA,y9,ub];simp only [yE] at hlet hdig;exact ⟨⟨⟨⟨by omega,by omega⟩,hlet⟩,hdig⟩,by simp⟩
     ·have:i=t.length:=by omega
      subst this;exact ⟨t.length,by simp [ref02_token.l3,grd],by simp,yn _,λh=>by omega⟩) n a ⟨a,rfl,Nat.le_of_lt ha⟩ (by simp;omega)
    obtain ⟨e,e1,-,e3,e4⟩:=this;exact ⟨5,e,e1,e4 rfl,e3,by decide⟩
theorem app_some {α:Type} {b:Nat} {xs ys:List α} (h:(xs.length+ys.length)*b≤140737488355328):Go.Proofs.YtbnhmfnagdgcmaaGreatDoor.app b xs ys=some (xs++ys):=by
 unfold Go.Proofs.YtbnhmfnagdgcmaaGreatDoor.app;rw [if_pos h]
theorem ref_Scan_ok {n:Nat} {t:List UInt8} (hl:t.length<1000000) (hn:1000000≤n):∀ (m:Nat) (b:List Token) (a:Nat),a≤t.length→b.length≤a→t.length - a<m→∃ r,r≠[]∧loopF (ref02_Scan.l1 n t) m (b,(a:Int))=some (b++r,0)
 | 0,_,_,_,_,h=>by omega
 | m+1,b,a,ha,hb,h=>by
  obtain ⟨k,e,k1,k2,k3,-⟩:=ref_skip_ok (n:=n) ha hl hn;simp only [loopF,ref02_Scan.l1,e,ya];by_cases hlt:k<t.length
  ·obtain ⟨q,z,hz,z1,z2,-,-⟩:=ref_token_ok (n:=n) hlt (k3 hlt) hl hn;simp only [lt_len hlt,if_true,hz,ya];rw [app_some (by simp;omega),ya];obtain ⟨r,-,hr⟩:=ref_Scan_ok hl hn m (b++[(⟨q,(a:Int),(k:Int),(z:Int)⟩:Token)]) z z2 (by simp;omega) (by omega);rw [hr];exact ⟨_::r,by simp,by rw [yQ];rfl⟩
  ·rw [ge_nat (by omega),if_neg (by simp),app_some (by simp;omega),ya];exact ⟨_,by simp,rfl⟩
theorem ref_Kind_ok {n:Nat} {w:List UInt8} (hl:w.length≤4096) (hn:1000000≤n):∃ k,ref02_Kind n w=some k∧(k=1↔wordP w=true∧w∉kwL):=by
 unfold ref02_Kind ref02_Scan;rw [if_neg (by simp;omega),loopF_1 (by omega)];obtain ⟨k,e,-,k2,k3,k4⟩:=ref_skip_ok (n:=n) (t:=w) (a:=0) (by omega) (by omega) hn;simp only [Int.natCast_zero] at e;simp only [ref02_Scan.l1,e,ya];by_cases hlt:k<w.length
 ·obtain ⟨q,z,hz,z1,z2,z3,z4⟩:=ref_token_ok (n:=n) hlt (k3 hlt) (by omega) hn;simp only [lt_len hlt,if_true,hz,ya,yZ];rw [app_some (by simp),ya];obtain ⟨r,r0,hr⟩:=ref_Scan_ok (n:=n) (t:=w) (by omega) hn (n - 1) [(⟨q,0,(k:Int),(z:Int)⟩:Token)] z z2 (by simp;omega) (by omega);simp only [yZ];rw [hr];have h0:idx ([(⟨q,0,(k:Int),(z:Int)⟩:Token)]++r) 0=some ⟨q,0,(k:Int),(z:Int)⟩:=by simp [idx]
  simp only [ya,h0,yj,yw,grd,if_true,yf];rw [wordP_cons w (by omega)];have hw0:k=0→z=w.length→(letterP (w[k].toNat:Nat)=true∧(w.drop k).take (z - k)∉kwL↔(letterP (w[0].toNat:Nat)&&decide (runP partP w=w.length))=true∧w∉kwL):=by
   intro e1 e2;subst e1;rw [e2];simp only [List.drop_zero,Nat.sub_zero,List.take_length,yc,yd];constructor
   ·rintro ⟨h1,h2⟩;have:=z3 h1;simp only [List.drop_zero] at this;exact ⟨⟨h1,by omega⟩,h2⟩
   ·rintro ⟨⟨h1,-⟩,h2⟩;exact ⟨h1,h2⟩
  by_cases hc:((((((0:Int) != 0)||((([(⟨q,0,(k:Int),(z:Int)⟩:Token)]++r).length:Int) != 2))||((k:Int) != 0))||((z:Int) != (w.length:Int))))=true
  ·rw [if_pos hc];refine ⟨0,rfl,?_⟩;constructor
   ·intro h;exact absurd h (by decide)
   ·rintro ⟨h1,h2⟩;exfalso;simp only [yc,yd] at h1;have hk0:k=0:=k4 (by omega) (letter_black h1.1);subst hk0;have hzw:=z3 h1.1;simp only [List.drop_zero] at hzw;have hzl:z=w.length:=by omega
    subst hzl;rw [loopF_1 (by omega)] at hr;obtain ⟨k',e',p1,p2,-,-⟩:=ref_skip_ok (n:=n) (t:=w) (a:=w.length) (yn _) (by omega) hn;have:k'=w.length:=by omega
    subst this;simp only [ref02_Scan.l1,e',ya,ge_len,yh,if_false] at hr;rw [app_some (by simp),ya] at hr;simp only [yg,yu,and_true,List.append_cancel_left_eq] at hr;subst hr;simp at hc
  ·rw [if_neg hc];refine ⟨q,rfl,?_⟩;simp only [yy,bne_iff_ne,ne_eq,not_or,Decidable.not_not] at hc;rw [z4];exact hw0 (by omega) (by omega)
 ·rw [ge_nat (by omega),if_neg (by simp),app_some (by simp),ya];simp only [yZ,ya];refine ⟨0,by simp [grd,idx],?_⟩;constructor
  ·intro h;exact absurd h (by decide)
  ·rintro ⟨h1,-⟩;exfalso;cases w with
   | nil=>simp [wordP] at h1
   | cons x l=>
    simp only [wordP,yc] at h1;have:=k4 (by simp) (letter_black h1.1);simp at hlt;omega
theorem ref02_Name_eq {n} {w:List UInt8} (hl:w.length≤4096) (hn:1000000≤n):ref02_Name n w=some (nameP w):=by
 unfold ref02_Name nameP;obtain ⟨k,hk,hiff⟩:=ref_Kind_ok (n:=n) hl hn;rw [hk,ya];have h16:decide ((w.length:Int)≤16)=decide (w.length≤16):=decide_eq_decide.2 (by omega);rw [h16,Bool.and_comm];congr 2;rw [Bool.eq_iff_iff];simp only [beq_iff_eq,hiff,yc,yA,yF]
theorem SetIs.getS {m:GMap (List UInt8) Bool} {l:List (List UInt8)} (h:SetIs m l) (k:List UInt8):(m.get? k).getD false=decide (k∈l):=(h.get k).trans (decide_eq_decide.2 Iff.rfl)
def distP:List (List UInt8)→List (List UInt8)→Bool
 | _,[]=>true
 | seen,s::l=>nameP s&&!decide (s∈seen)&&distP (seen++[s]) l
theorem model_distinct_eq {n} {l:List (List UInt8)} (hF:Fuel n) (hl:l.length<1000000):model_distinct n l=some (distP [] l):=by
 have hn:=hF.big;have:=loopF_I (body:=model_distinct.l1 n l) (len:=l.length) (st:=λm i=>(m,(i:Int))) (g:=λi _=>some (distP (l.take i) (l.drop i))) (λi m=>SetIs m (l.take i)) (λrec i m hi hm hr=>?_) (λrec m _=>?_) n 0 (GMap.empty) (yv _) (by omega) (by simpa using SetIs.empty)
 ·simpa [model_distinct] using this
 ·simp only [model_distinct.l1,lt_len hi,if_true,idx_nat hi,ya,lexer_Name_eq hF,hm.getS,add64_1 (i:=i) (by omega)];rw [hr _ (by rw [yC hi];exact hm.put _),drop_cons hi,distP,yC hi];cases nameP l[i] <;> cases hd:decide (l[i]∈l.take i) <;> simp
 ·simp [model_distinct.l1,distP]
theorem ref13_distinct_eq {n} {l:List (List UInt8)} (hn:1000000≤n) (hl:l.length<1000000) (hw:∀ w∈l,w.length≤4096):ref13_distinct n l=some (distP [] l):=by
 have:=loopF_g (body:=ref13_distinct.l1 n l) (len:=l.length) (st:=λi=>(i:Int)) (g:=λi=>some (distP (l.take i) (l.drop i))) (λrec i hi hr=>?_) (λrec=>?_) n 0 (yv _) (by omega)
 ·simpa [ref13_distinct] using this
 ·have hc:=cut_nat (l:=l) (a:=0) (b:=i) (by omega) (Nat.le_of_lt hi)
  simp only [Int.natCast_zero,List.drop_zero,Nat.sub_zero] at hc;simp only [ref13_distinct.l1,lt_len hi,if_true,idx_nat hi,ya,ref02_Name_eq (hw _ (ym hi)) hn,hc,yj,yf,yw,grd,ref_Has_eq (show (l.take i).length<1000000 by simp;omega) hn,add64_1 (i:=i) (by omega),hr];rw [drop_cons hi,distP,yC hi];cases nameP l[i] <;> cases hd:decide (l[i]∈l.take i) <;> simp
 ·simp [ref13_distinct.l1,distP]
theorem IndexB_eq {n l v} (hl:l.length<1000000) (hn:1000000≤n):slices_Index_Lbool_bool n l v=some (ixP (λx=>v==x) l 0):=by
 have:=loopF_g (body:=slices_Index_Lbool_bool.l1 n l v) (len:=l.length) (st:=λi=>(i:Int)) (g:=λi=>some (ixP (λx=>v==x) (l.drop i) i)) (λrec i hi hr=>?_) (λrec=>?_) n 0 (yv _) (by omega)
 ·simpa [slices_Index_Lbool_bool] using this
 ·simp only [slices_Index_Lbool_bool.l1,lt_len hi,if_true,idx_nat hi,ya,add64_1 (i:=i) (by omega),hr];rw [drop_cons hi];simp only [ixP];split <;> rfl
 ·simp [slices_Index_Lbool_bool.l1,ixP]
theorem cells_all_eq {n l} (hl:l.length<1000000) (hn:1000000≤n):cells_all n l=some (l.all id):=by
 unfold cells_all slices_Contains_Lbool_bool;rw [IndexB_eq hl hn];simp only [ya,ixP_any,yg];rw [← any_not];congr 2;funext x;cases x <;> rfl
def b6:Nat→Int→Int
 | 0,A=>A
 | k+1,A=>b6 k (A*6)
theorem b6_le:∀ (k:Nat) (A:Int),1≤A→A≤b6 k A
 | 0,_,_=>Int.le_refl _
 | k+1,A,h=>Int.le_trans (by omega) (b6_le k (A*6) (by omega))
theorem mul_small {a b A:Int} (h1:1≤a) (h2:a≤A) (h3:1≤b) (h4:b≤6):1≤a*b∧a*b≤A*6:=by
 have e1:1*1≤a*b:=Int.mul_le_mul h1 h3 (by omega) (by omega);have e2:a*b≤A*6:=Int.mul_le_mul h2 h4 (by omega) (by omega);omega
theorem widthP_b6 (sizes:List Int) (hs:sizes.all sizeOK=true):∀ (cols:List Int) (s A:Int),cols.all (colOK sizes)=true→1≤s→s≤A→b6 cols.length A≤1000000→1≤widthP sizes cols s∧widthP sizes cols s≤b6 cols.length A
 | [],s,A,_,h1,h2,_=>by simpa [widthP,b6] using ⟨h1,h2⟩
 | c::l,s,A,hc,h1,h2,h3=>by
  simp only [ui,yc] at hc;have hcol:=hc.1;simp only [colOK,yc,yd] at hcol;obtain ⟨k,rfl⟩:=yW hcol.1;have hk:k<sizes.length:=by omega
  have hz:=yo.1 hs _ (ym hk);simp only [sizeOK,yc,yd] at hz;have hg:sizes.getD (k:Int).toNat 0=sizes[k]:=by simp [List.getD,hk]
  have hm:=mul_small h1 h2 hz.1 hz.2;simp only [yN,b6] at h3 ⊢;have hb:=b6_le l.length (A*6) (by omega);simp only [widthP,hg];unfold mul64;rw [w64_id (by omega) (by omega)];exact widthP_b6 sizes hs l _ _ hc.2 hm.1 hm.2 h3
theorem widthP_bound {sizes cols} (hs:sizes.all sizeOK=true) (hc:cols.all (colOK sizes)=true) (h3:cols.length≤3):1≤widthP sizes cols 1∧widthP sizes cols 1≤216:=by
 have h:b6 cols.length 1≤216:=by
  match cols,h3 with
  | [],_=>decide
  | [_],_=>simp [b6]
  | [_,_],_=>simp [b6]
  | [_,_,_],_=>simp [b6]
  | _::_::_::_::_,h=>simp at h
 have:=widthP_b6 sizes hs cols 1 1 hc (by decide) (by decide) (by omega);omega
def strictP (k:Int):Bool:=k==0||k==1
def rangedP (t:Table):Bool:=if (t.kind==1||t.kind==4||t.kind==5)=true then (decide (t.range.lo≤t.range.hi)&&decide (-9999≤t.range.lo))&&decide (t.range.hi≤9999) else decide (t.range=(⟨0,1⟩:Range))
def tabP (sizes:List Int) (t:Table):Bool:=nameP t.name&&(decide (0≤t.kind)&&decide (t.kind≤5))&&(decide (t.columns.length≤3)&&t.columns.all (colOK sizes))&&rangedP t
def layP (sizes:List Int):List (List UInt8)→Int→Int→List Table→Bool
 | _,a,b,[]=>decide (a≤128)&&decide (b≤64)
 | seen,a,b,t::l=>(tabP sizes t&&!decide (t.name∈seen))&&(if strictP t.kind=true then t.first==a&&layP sizes (seen++[t.name]) (add64 a (widthP sizes t.columns 1)) b l else t.first==b&&layP sizes (seen++[t.name]) a (add64 b (widthP sizes t.columns 1)) l)
def layoutP (sizes:List Int) (tables:List Table):Bool:=decide (sizes.length≤4)&&decide (tables.length≤12)&&sizes.all sizeOK&&layP sizes [] 0 0 tables
theorem cells_ranged_eq {n t}:cells_ranged n t=some (rangedP t):=by
 unfold cells_ranged rangedP jn;by_cases h1:t.kind=1
 ·simp [h1]
 ·by_cases h4:t.kind=4
  ·simp [h4]
  ·by_cases h5:t.kind=5
   ·simp [h5]
   ·simp [h1,h4,h5]
theorem cells_Valid_eq {n sizes tables} (hF:Fuel n) (hs:sizes.length≤1000) (ht:tables.length≤1000) (hc:∀ t∈tables,t.columns.length≤1000):cells_Valid n sizes tables=some (layoutP sizes tables):=by
 have hn:=hF.big;unfold cells_Valid layoutP;rw [cells_sized_eq (by omega) (by omega),ya,cells_all_eq (by simp) (by omega),ya];simp only [ui,List.all_nil,id,uC];have e1:decide ((sizes.length:Int)≤4)=decide (sizes.length≤4):=decide_eq_decide.2 (by omega);have e2:decide ((tables.length:Int)≤12)=decide (tables.length≤12):=decide_eq_decide.2 (by omega);rw [e1,e2,← Bool.and_assoc];by_cases h:(decide (sizes.length≤4)&&decide (tables.length≤12)&&sizes.all sizeOK)=true
 ·rw [h,if_neg (by simp),yB];have:=loopF_I (body:=cells_Valid.l1 n sizes tables) (len:=tables.length) (st:=λ(s:GMap (List UInt8) Bool×Int×Int) i=>(s.1,s.2.1,s.2.2,(i:Int))) (g:=λi s=>some (layP sizes ((tables.take i).map (·.name)) s.2.1 s.2.2 (tables.drop i))) (λi s=>SetIs s.1 ((tables.take i).map (·.name))) (λrec i s hi hm hr=>?_) (λrec s _=>?_) n 0 (GMap.empty,0,0) (yv _) (by omega) (by simpa using SetIs.empty)
  ·simpa using this
  ·obtain ⟨m,a,b⟩:=s;simp only [] at hm;have hmem:=ym hi;have hcols:=hc _ hmem;simp only [cells_Valid.l1,jn,lt_len hi,if_true,idx_nat hi,ya,lexer_Name_eq hF,hm.getS,cells_within,cells_columned_eq (show tables[i].columns.length<4611686018427387904 by omega) (show tables[i].columns.length<n by omega),cells_ranged_eq,cells_isStrict,add64_1 (i:=i) (by omega)];rw [cells_all_eq (by simp) (by omega),ya];simp only [ui,List.all_nil,id,uC];have hput:=hm.put tables[i].name;have htk:((tables.take (i+1)).map (·.name))=(tables.take i).map (·.name)++[tables[i].name]:=by rw [yC hi,ur];rfl
   rw [← htk] at hput;have hT:(nameP tables[i].name&&(!decide (tables[i].name∈(tables.take i).map (·.name))&&(decide (0≤tables[i].kind)&&decide (tables[i].kind≤5)&&(decide (tables[i].columns.length≤3)&&tables[i].columns.all (colOK sizes)&&rangedP tables[i]))))=(tabP sizes tables[i]&&!decide (tables[i].name∈(tables.take i).map (·.name))):=by
    unfold tabP;cases nameP tables[i].name <;> cases decide (tables[i].name∈(tables.take i).map (·.name)) <;> simp [Bool.and_assoc]
   rw [hT,drop_cons hi,layP];by_cases hv:(tabP sizes tables[i]&&!decide (tables[i].name∈(tables.take i).map (·.name)))=true
   ·rw [hv,if_neg (by simp),yB];have hcol:tables[i].columns.all (colOK sizes)=true:=by
     simp only [tabP,yc] at hv;exact hv.1.1.2.2
    simp only [cells_width_eq hcol (show tables[i].columns.length<4611686018427387904 by omega) (show tables[i].columns.length<n by omega),ya,← htk];unfold strictP;by_cases hk:(tables[i].kind==0||tables[i].kind==1)=true
    ·rw [if_pos hk,if_pos hk];by_cases hf:tables[i].first=a
     ·rw [if_neg (by simp [hf]),hr (m.put tables[i].name true,add64 a (widthP sizes tables[i].columns 1),b) hput];simp [hf]
     ·rw [if_pos (by simp [hf])];simp [hf]
    ·rw [if_neg hk,if_neg hk];by_cases hf:tables[i].first=b
     ·rw [if_neg (by simp [hf]),hr (m.put tables[i].name true,a,add64 b (widthP sizes tables[i].columns 1)) hput];simp [hf]
     ·rw [if_pos (by simp [hf])];simp [hf]
   ·simp only [yE] at hv;rw [hv,if_pos (by simp),y7]
  ·simp [cells_Valid.l1,layP]
 ·simp only [yE] at h;rw [h,if_pos (by simp),y7]
theorem ref09_Valid_eq {n sizes tables} (hn:1000000≤n) (hs:sizes.length≤1000) (ht:tables.length≤1000) (hc:∀ t∈tables,t.columns.length≤1000∧t.name.length≤4096):ref09_Valid n sizes tables=some (layoutP sizes tables):=by
 unfold ref09_Valid layoutP;have e1:decide (4<(sizes.length:Int)) = !decide (sizes.length≤4):=by rw [← decide_not];exact decide_eq_decide.2 (by omega)
 have e2:decide (12<(tables.length:Int)) = !decide (tables.length≤12):=by rw [← decide_not];exact decide_eq_decide.2 (by omega)
 rw [ref09_sound_eq (by omega) (by omega),e1,e2];simp only [yj,yw,grd,if_true,yf];by_cases h:(decide (sizes.length≤4)&&decide (tables.length≤12)&&sizes.all sizeOK)=true
 ·rw [h,yB];simp only [yc] at h;obtain ⟨⟨h1,h2⟩,h3⟩:=h;rw [h1,h2,h3,if_neg (by simp)];have:=loopF_I (body:=ref09_Valid.l1 n sizes tables) (len:=tables.length) (st:=λ(s:Int×Int) i=>(s.1,s.2,(i:Int))) (g:=λi s=>some (layP sizes ((tables.take i).map (·.name)) s.1 s.2 (tables.drop i))) (λ_ _=>True) (λrec i s hi _ hr=>?_) (λrec s _=>?_) n 0 (0,0) (yv _) (by omega) trivial
  ·simpa using this
  ·obtain ⟨a,b⟩:=s;have hmem:=ym hi;obtain ⟨hcols,hname⟩:=hc _ hmem;simp only [ref09_Valid.l1,jn,lt_len hi,if_true,idx_nat hi,ya];generalize hK:(λ(v:Int×Int)=>rec (v.1,v.2,add64 (i:Int) 1))=K;have inner:=loopF_g (body:=ref09_Valid.l2 n sizes tables a b i K tables[i]) (len:=i) (st:=λk=>(k:Int)) (g:=λk=>if decide (tables[i].name∈((tables.take i).drop k).map (·.name))=true then some false else ref09_Valid.l2 n sizes tables a b i K tables[i] (λ_=>none) (i:Int)) (λrec' k hk hr'=>?_) (λrec'=>?_) n 0 (yv _) (by omega)
   ·rw [show ((0:Nat):Int)=0 from rfl] at inner;rw [inner,drop_cons hi,layP,List.drop_zero];have htk:((tables.take (i+1)).map (·.name))=(tables.take i).map (·.name)++[tables[i].name]:=by rw [yC hi,ur];rfl
    cases hseen:decide (tables[i].name∈(tables.take i).map (·.name)) with
    | true=>simp
    | false=>
     simp only [yh,if_false,uq,uC];have hnum:=ref09_number_eq (n:=n) (sizes:=sizes) (cols:=tables[i].columns) (by omega) (by omega) (by omega) (by omega);rw [h3,uC] at hnum;simp only [ref09_Valid.l2,ge_nat (yn i),yh,if_false,hnum,ya,ref02_Name_eq hname hn,ref09_strict];unfold tabP;by_cases hcol:(decide (tables[i].columns.length≤3)&&tables[i].columns.all (colOK sizes))=true
     ·simp only [hcol,if_true,uC];have hcol':=hcol;simp only [yc,yd] at hcol';have hw:=widthP_bound h3 hcol'.2 hcol'.1;have hw0:(widthP sizes tables[i].columns 1==0)=false:=by simp;omega
      rw [hw0,Bool.or_false];by_cases hnk:(nameP tables[i].name&&(decide (0≤tables[i].kind)&&decide (tables[i].kind≤5)))=true
      ·rw [hnk,yB];simp only [yc,yd] at hnk;rw [if_neg (by simp [hnk.1];omega)];by_cases hrg:rangedP tables[i]=true
       ·rw [hrg,yB];unfold rangedP at hrg;rw [if_neg (by
         split at hrg
         ·simp only [yc,yd] at hrg;simp only [yy,yd];omega
         ·simp only [yd] at hrg;rw [hrg];decide),if_neg (by
         split at hrg
         ·rename_i hk;simp only [yy,beq_iff_eq] at hk;simp only [yc,yy,beq_iff_eq];omega
         ·simp only [yd] at hrg;rw [hrg];simp)]
        unfold strictP;by_cases hk:(tables[i].kind==0||tables[i].kind==1)=true
        ·rw [if_pos hk,if_pos hk];by_cases hf:tables[i].first=a
         ·rw [if_neg (by simp [hf]),← hK];simp only [add64_1 (i:=i) (by omega)];have:=hr (add64 a (widthP sizes tables[i].columns 1),b) trivial;simp only [] at this;rw [this,htk];simp [hf]
         ·rw [if_pos (by simp [hf])];simp [hf]
        ·rw [if_neg hk,if_neg hk];by_cases hf:tables[i].first=b
         ·rw [if_neg (by simp [hf]),← hK];simp only [add64_1 (i:=i) (by omega)];have:=hr (a,add64 b (widthP sizes tables[i].columns 1)) trivial;simp only [] at this;rw [this,htk];simp [hf]
         ·rw [if_pos (by simp [hf])];simp [hf]
       ·simp only [yE] at hrg;rw [hrg,y7];unfold rangedP at hrg;split at hrg
        ·rename_i hk;rw [if_pos (by
          simp only [uk,yF] at hrg;simp only [yy,yd];omega)]
        ·rename_i hk;simp only [yy,beq_iff_eq,not_or] at hk;have hr01:¬ (tables[i].range.lo=0∧tables[i].range.hi=1):=by
          rintro ⟨q1,q2⟩;simp only [yF] at hrg;apply hrg;cases hrr:tables[i].range;rw [hrr] at q1 q2;simp only [] at q1 q2;rw [q1,q2]
         split
         ·rfl
         ·rw [if_pos (by
           simp only [yc,yy,beq_iff_eq,bne_iff_ne,ne_eq];omega)]
      ·simp only [yE] at hnk;rw [hnk,y7,y7];rw [if_pos (by
        simp only [uk,yF] at hnk;simp only [yy,yA,yd];rcases hnk with h | h | h
        ·exact .inl (.inl h)
        ·exact .inl (.inr (by omega))
        ·exact .inr (by omega))]
     ·simp only [yE] at hcol;simp only [hcol,Bool.and_false,y7,yh,if_false];rw [if_pos (by simp)]
   ·have hk':k<tables.length:=by omega
    simp only [ref09_Valid.l2,lt_nat hk,if_true,idx_nat hk',ya,add64_1 (i:=k) (by omega),hr'];have hk2:k<(tables.take i).length:=by simp;omega
    rw [drop_cons hk2];simp only [List.getElem_take,yP,yI];by_cases hnm:tables[k].name=tables[i].name
    ·rw [if_pos (by simpa using hnm),if_pos (by simp [hnm])]
    ·rw [if_neg (by simpa using hnm)];have hnm':¬ tables[i].name=tables[k].name:=λe=>hnm e.symm
     simp only [hnm',false_or]
   ·rw [if_neg (by simp)];simp only [ref09_Valid.l2,ge_nat (yn i),yh,if_false]
  ·simp [ref09_Valid.l1,layP]
 ·simp only [yE] at h;rw [h,y7];rw [if_pos (by
   simp only [uk] at h;simp only [yy,yA];rcases h with (h | h) | h
   ·exact .inl (.inl h)
   ·exact .inr h
   ·exact .inl (.inr h))]
def rangesP (sizes:List Int) (s:Bool):List Table→List Range
 | []=>[]
 | t::l=>if (strictP t.kind==s)=true then List.replicate (widthP sizes t.columns 1).toNat t.range++rangesP sizes s l else rangesP sizes s l
theorem layP_tab {sizes}:∀ {l:List Table} {seen:List (List UInt8)} {a b:Int},layP sizes seen a b l=true→∀ t∈l,tabP sizes t=true
 | [],_,_,_,_,_,ht=>by simp at ht
 | x::l,seen,a,b,h,t,ht=>by
  simp only [layP,yc] at h;simp only [yI] at ht;rcases ht with rfl | ht
  ·exact h.1.1
  ·have h2:=h.2;split at h2
   ·simp only [yc] at h2;exact layP_tab h2.2 t ht
   ·simp only [yc] at h2;exact layP_tab h2.2 t ht
theorem layoutP_tab {sizes tables} (h:layoutP sizes tables=true):sizes.length≤4∧tables.length≤12∧sizes.all sizeOK=true∧∀ t∈tables,nameP t.name=true∧(0≤t.kind∧t.kind≤5)∧t.columns.length≤3∧t.columns.all (colOK sizes)=true∧1≤widthP sizes t.columns 1∧widthP sizes t.columns 1≤216:=by
 simp only [layoutP,yc,yd] at h;obtain ⟨⟨⟨h1,h2⟩,h3⟩,h4⟩:=h;refine ⟨h1,h2,h3,λt ht=>?_⟩;have:=layP_tab h4 t ht;simp only [tabP,yc,yd] at this;obtain ⟨⟨⟨p1,p2⟩,p3⟩,-⟩:=this;exact ⟨p1,p2,p3.1,p3.2,widthP_bound h3 p3.2 p3.1⟩
theorem rangesP_len {sizes s}:∀ {l:List Table},(∀ t∈l,1≤widthP sizes t.columns 1∧widthP sizes t.columns 1≤216)→(rangesP sizes s l).length≤l.length*216
 | [],_=>by simp [rangesP]
 | t::l,h=>by
  have ih:=rangesP_len (s:=s) (l:=l) λx hx=>h x (by simp [hx])
  have ht:=h t (by simp);simp only [rangesP,yN];split
  ·simp only [yK,ul];omega
  ·omega
theorem Mul_eq {n}:∀ w:Fin 217,math_bits_Mul n 1 ((w.1:Nat):Int)=some (0,((w.1:Nat):Int)):=by
 intro w;unfold math_bits_Mul math_bits_Mul64;revert w;decide +kernel
theorem wk_small:∀ w:Fin 217,wk .u64 ((w.1:Nat):Int)=((w.1:Nat):Int)∧wk .i64 ((w.1:Nat):Int)=((w.1:Nat):Int):=by decide +kernel
theorem Repeat_eq {n x w} (h1:1≤w) (h2:w≤216) (hn:1000000≤n):slices_Repeat_LRange_api_Range n [x] w=some (List.replicate w.toNat x):=by
 obtain ⟨W,rfl⟩:=yW (show 0≤w by omega);have hW:W<217:=by omega
 have hwk:=wk_small ⟨W,hW⟩;simp only [] at hwk;have h1k:wk .u64 (([x]:List Range).length:Int)=1:=(wk_small ⟨1,by decide⟩).1;unfold slices_Repeat_LRange_api_Range;rw [if_neg (by simp),h1k,hwk.1,Mul_eq ⟨W,hW⟩];simp only [ya];rw [if_neg (by simp;omega),hwk.2];have hm:mkl 16 (W:Int) (⟨0,0⟩:Range)=some (List.replicate W ⟨0,0⟩):=by
  unfold mkl;rw [if_pos (by omega)];simp
 rw [hm,ya];simp only [ul,List.length_singleton,Nat.sub_zero,yp];rw [show min W 1=1 by omega];refine loopF_M (body:=slices_Repeat_LRange_api_Range.l1 n) (λs=>W - s.2.toNat) (λs=>∃ k:Nat,s.2=(k:Int)∧1≤k∧k≤W∧s.1.length=W∧s.1.take k=List.replicate k x) (λ_ o=>o=some (List.replicate W x)) (λrec s hI hr=>?_) n _ ⟨1,rfl,by omega,by omega,?_,?_⟩ (by simp;omega)
 ·obtain ⟨b,kk⟩:=s;obtain ⟨k,rfl,k1,k2,hb,hk⟩:=hI;simp only [] at hb hk;simp only [slices_Repeat_LRange_api_Range.l1];by_cases hlt:k<W
  ·have hcE:cut b (k:Int) (W:Int)=some (b.drop k):=by rw [← hb];exact cut_end (by omega)
   have hc:=cut_nat (l:=b) (a:=0) (b:=k) (by omega) (by omega)
   simp only [Int.natCast_zero] at hc;simp only [hb,lt_nat hlt,if_true,hcE,hc,ya,yp,List.drop_zero,Nat.sub_zero,hk,ul];rw [add64_nat (by omega)];refine hr (_,((k+min (W - k) k:Nat):Int)) ⟨k+min (W - k) k,rfl,by omega,by omega,?_,?_⟩ (by simp only [yp];omega)
   ·simp only [];rw [copyTo_length (by omega) (by omega),hb]
   ·simp only [copyTo,hk,List.take_replicate,ul];rw [show min (W - k) k=min (W - k) k from rfl,← yQ,List.replicate_append_replicate];rw [List.take_append_of_le_length (by simp)];simp
  ·have:k=W:=by omega
   subst this;have hd:decide ((k:Int)<(b.length:Int))=false:=by rw [hb];exact ge_nat (yn _)
   simp only [hd,yh,if_false];rw [← hk,List.take_of_length_le (by omega)]
 ·rw [copyTo_length (by omega) (by simp)];simp
 ·simp [copyTo,List.take_append];rw [List.take_of_length_le (l:=[x]) (by simp;omega),show min W 1=1 by omega];simp
theorem rangesP_append (sizes s):∀ (l m:List Table),rangesP sizes s (l++m)=rangesP sizes s l++rangesP sizes s m
 | [],_=>rfl
 | t::l,m=>by
  simp only [y6,rangesP,rangesP_append sizes s l m];split <;> simp
theorem rangesP_snoc {sizes:List Int} {s:Bool} {l:List Table} {i:Nat} (hi:i<l.length):rangesP sizes s (l.take (i+1))=if (strictP l[i].kind==s)=true then rangesP sizes s (l.take i)++List.replicate (widthP sizes l[i].columns 1).toNat l[i].range else rangesP sizes s (l.take i):=by
 rw [yC hi,rangesP_append];simp only [rangesP];split <;> simp
theorem cells_Ranges_eq {n:Nat} {sizes:List Int} {tables:List Table} {s:Bool} (hF:Fuel n) (hs:sizes.length≤1000) (ht:tables.length≤1000) (hc:∀ t∈tables,t.columns.length≤1000) :
  cells_Ranges n sizes tables s=some (if layoutP sizes tables=true then rangesP sizes s tables else []):=by
 have hn:=hF.big;unfold cells_Ranges;rw [cells_Valid_eq hF hs ht hc,ya];cases hL:layoutP sizes tables with
 | false=>simp
 | true=>
  obtain ⟨l1,l2,l3,l4⟩:=layoutP_tab hL;have:=loopF_g (body:=cells_Ranges.l1 n sizes tables s) (len:=tables.length) (st:=λi=>(rangesP sizes s (tables.take i),(i:Int))) (g:=λ_=>some (rangesP sizes s tables)) (λrec i hi hr=>?_) (λrec=>?_) n 0 (yv _) (by omega)
  ·simpa [rangesP] using this
  ·obtain ⟨-,-,c1,c2,c3,c4⟩:=l4 _ (ym hi);have hlen:=rangesP_len (sizes:=sizes) (s:=s) (l:=tables.take i) λx hx=>(l4 x (List.mem_of_mem_take hx)).2.2.2.2
   simp only [yO] at hlen;rw [rangesP_snoc hi] at hr;simp only [cells_Ranges.l1,jn,lt_len hi,if_true,idx_nat hi,ya,cells_isStrict,add64_1 (i:=i) (by omega)];unfold strictP at hr;by_cases hk:((tables[i].kind==0||tables[i].kind==1)==s)=true
   ·rw [if_pos hk] at hr ⊢;rw [cells_width_eq c2 (by omega) (by omega),ya,Repeat_eq c3 c4 (by omega),ya,app_some (by simp only [ul];omega),ya,hr]
   ·rw [if_neg hk] at hr ⊢;rw [hr]
  ·simp [cells_Ranges.l1]
theorem ref09_Ranges_eq {n:Nat} {sizes:List Int} {tables:List Table} {s:Bool} (hn:1000000≤n) (hs:sizes.length≤1000) (ht:tables.length≤1000) (hc:∀ t∈tables,t.columns.length≤1000∧t.name.length≤4096) :
  ref09_Ranges n sizes tables s=some (if layoutP sizes tables=true then rangesP sizes s tables else []):=by
 unfold ref09_Ranges;rw [ref09_Valid_eq hn hs ht hc,ya];cases hL:layoutP sizes tables with
 | false=>simp
 | true=>
  obtain ⟨l1,l2,l3,l4⟩:=layoutP_tab hL;have:=loopF_g (body:=ref09_Ranges.l1 n sizes tables s) (len:=tables.length) (st:=λi=>(rangesP sizes s (tables.take i),(i:Int))) (g:=λ_=>some (rangesP sizes s tables)) (λrec i hi hr=>?_) (λrec=>?_) n 0 (yv _) (by omega)
  ·simpa [rangesP] using this
  ·obtain ⟨-,-,c1,c2,c3,c4⟩:=l4 _ (ym hi);have hlen:=rangesP_len (sizes:=sizes) (s:=s) (l:=tables.take i) λx hx=>(l4 x (List.mem_of_mem_take hx)).2.2.2.2
   simp only [yO] at hlen;rw [rangesP_snoc hi] at hr;simp only [ref09_Ranges.l1,lt_len hi,if_true];obtain ⟨W,hW⟩:=yW (show 0≤widthP sizes tables[i].columns 1 by omega);have hnum:=ref09_number_eq (n:=n) (sizes:=sizes) (cols:=tables[i].columns) (by omega) (by omega) (by omega) (by omega);simp only [l3,c2,c1,decide_true,uC,if_true] at hnum;have inner:=loopF_g (body:=ref09_Ranges.l2 n sizes tables s i rec) (len:=if (strictP tables[i].kind==s)=true then W else 0) (st:=λk=>(rangesP sizes s (tables.take i)++List.replicate k tables[i].range,(k:Int))) (g:=λ_=>some (rangesP sizes s tables)) (λrec' k hk hr'=>?_) (λrec'=>?_) n 0 (yv _) (by split <;> omega)
   ·simpa using inner
   ·split at hk
    ·rename_i hst;simp only [strictP] at hst;simp only [ref09_Ranges.l2,idx_nat hi,ya,ref09_strict,hst,yj,yw,grd,if_true,yf,hnum,yB,hW,lt_nat hk,add64_1 (i:=k) (by omega)];rw [app_some (by simp only [yK,ul,List.length_singleton];omega),ya,yQ,← List.replicate_succ',hr']
    ·omega
   ·by_cases hst:((tables[i].kind==0||tables[i].kind==1)==s)=true
    ·have hst':(strictP tables[i].kind==s)=true:=hst;rw [if_pos hst'] at hr ⊢;simp only [ref09_Ranges.l2,idx_nat hi,ya,ref09_strict,hst,yj,yw,grd,if_true,yf,hnum,yB,hW,ge_nat (yn W),yh,if_false,add64_1 (i:=i) (by omega)];rw [hW] at hr;simpa using hr
    ·have hst':¬ (strictP tables[i].kind==s)=true:=hst;rw [if_neg hst'] at hr ⊢;simp only [yE] at hst;simp only [ref09_Ranges.l2,idx_nat hi,ya,ref09_strict,hst,uq,uN,grd,if_true,y7,yh,if_false,add64_1 (i:=i) (by omega)];simpa using hr
  ·simp [ref09_Ranges.l1]
def raisedP (p:Int→Bool) (i:Nat):Nat→List Int
 | 0=>[]
 | m+1=>if p (i:Int)=true then (i:Int)::raisedP p (i+1) m else raisedP p (i+1) m
theorem raisedP_len (p):∀ (m i:Nat),(raisedP p i m).length≤m
 | 0,_=>yn _
 | m+1,i=>by
  simp only [raisedP];split
  ·simp only [yN];exact Nat.succ_le_succ (raisedP_len p m (i+1))
  ·exact Nat.le_succ_of_le (raisedP_len p m (i+1))
structure Good (n:Nat) (m:Model):Prop where
 acts:∀ a∈m.actions,a.effect.delta.length<4611686018427387904∧a.effect.delta.length<n∧(∀ k,addP k a.effect.delta 0=addedP a.effect.delta k)∧∀ r∈a.effect.hold,r.terms.length<4611686018427387904∧r.terms.length<n
 cons:∀ c∈m.constraints,(c.kind=0∨c.kind=1)∧c.row.terms.length<4611686018427387904∧c.row.terms.length<n∧∃ K:Nat,mul64 c.size c.size=(K:Int)∧K<17592186044416∧K<n
theorem idx_mem {α:Type} {l:List α} {i:Int} {x:α} (h:idx l i=some x):x∈l:=by
 obtain ⟨n,rfl,hn,rfl⟩:=idxS h;exact ym hn
theorem idx_some {α:Type} {l:List α} {i:Int} (h0:0≤i) (h1:i<(l.length:Int)):∃ x,idx l i=some x:=by
 obtain ⟨n,rfl⟩:=yW h0;exact ⟨_,idx_nat (by omega)⟩
def allR (p:Nat→Bool) (i:Nat):Nat→Bool
 | 0=>true
 | k+1=>p i&&allR p (i+1) k
theorem allR_iff {p}:∀ {k i:Nat},allR p i k=true↔∀ j,i≤j→j<i+k→p j=true
 | 0,i=>by simp [allR];omega
 | k+1,i=>by
  simp only [allR,yc,allR_iff (k:=k) (i:=i+1)];constructor
  ·rintro ⟨h1,h2⟩ j hj hk;by_cases e:j=i
   ·rw [e];exact h1
   ·exact h2 j (by omega) (by omega)
  ·intro h;exact ⟨h i (yn _) (by omega),λj hj hk=>h j (by omega) (by omega)⟩
theorem allR_0 {p k}:allR p 0 k=true↔∀ j,j<k→p j=true:=by
 rw [allR_iff];simp
theorem loopF_all {S R:Type} {body:(S→Option R)→S→Option R} {len n:Nat} {st:Nat→S} (p:Nat→Bool) (F T:Option R)
  (hb:∀ rec i,i<len→body rec (st i)=if p i=true then rec (st (i+1)) else F) (he:∀ rec,body rec (st len)=T) (hn:len<n):loopF body n (st 0)=if allR p 0 len=true then T else F:=by
 have:=loopF_g (body:=body) (len:=len) (st:=st) (g:=λi=>if allR p i (len - i)=true then T else F) (λrec i hi hr=>?_) (λrec=>?_) n 0 (yv _) (by omega)
 ·simpa using this
 ·rw [hb rec i hi,show len - i=(len - (i+1))+1 by omega,allR,hr];cases p i <;> simp
 ·rw [he];simp [allR]
theorem IndexFunc_LTable_api_Table_eq {n l f p} (hf:∀ x∈l,f x=some (p x)) (hl:l.length<1000000) (hn:1000000≤n):slices_IndexFunc_LTable_api_Table n l f=some (ixP p l 0):=by
 have:=loopF_g (body:=slices_IndexFunc_LTable_api_Table.l1 n l f) (len:=l.length) (st:=λi=>(i:Int)) (g:=λi=>some (ixP p (l.drop i) i)) (λrec i hi hr=>?_) (λrec=>?_) n 0 (yv _) (by omega)
 ·simpa [slices_IndexFunc_LTable_api_Table] using this
 ·simp only [slices_IndexFunc_LTable_api_Table.l1,lt_len hi,if_true,idx_nat hi,ya,hf _ (ym hi),add64_1 (i:=i) (by omega),hr];rw [drop_cons hi];simp only [ixP];split <;> rfl
 ·simp [slices_IndexFunc_LTable_api_Table.l1,ixP]
theorem ContainsFunc_LTable_api_Table_eq {n l f p} (hf:∀ x∈l,f x=some (p x)) (hl:l.length<1000000) (hn:1000000≤n):slices_ContainsFunc_LTable_api_Table n l f=some (l.any p):=by
 unfold slices_ContainsFunc_LTable_api_Table;rw [IndexFunc_LTable_api_Table_eq hf hl hn,ya,ixP_any]
theorem IndexFunc_LRow_api_Row_eq {n l f p} (hf:∀ x∈l,f x=some (p x)) (hl:l.length<1000000) (hn:1000000≤n):slices_IndexFunc_LRow_api_Row n l f=some (ixP p l 0):=by
 have:=loopF_g (body:=slices_IndexFunc_LRow_api_Row.l1 n l f) (len:=l.length) (st:=λi=>(i:Int)) (g:=λi=>some (ixP p (l.drop i) i)) (λrec i hi hr=>?_) (λrec=>?_) n 0 (yv _) (by omega)
 ·simpa [slices_IndexFunc_LRow_api_Row] using this
 ·simp only [slices_IndexFunc_LRow_api_Row.l1,lt_len hi,if_true,idx_nat hi,ya,hf _ (ym hi),add64_1 (i:=i) (by omega),hr];rw [drop_cons hi];simp only [ixP];split <;> rfl
 ·simp [slices_IndexFunc_LRow_api_Row.l1,ixP]
theorem ContainsFunc_LRow_api_Row_eq {n l f p} (hf:∀ x∈l,f x=some (p x)) (hl:l.length<1000000) (hn:1000000≤n):slices_ContainsFunc_LRow_api_Row n l f=some (l.any p):=by
 unfold slices_ContainsFunc_LRow_api_Row;rw [IndexFunc_LRow_api_Row_eq hf hl hn,ya,ixP_any]
theorem IndexFunc_LHide_api_Hide_eq {n l f p} (hf:∀ x∈l,f x=some (p x)) (hl:l.length<1000000) (hn:1000000≤n):slices_IndexFunc_LHide_api_Hide n l f=some (ixP p l 0):=by
 have:=loopF_g (body:=slices_IndexFunc_LHide_api_Hide.l1 n l f) (len:=l.length) (st:=λi=>(i:Int)) (g:=λi=>some (ixP p (l.drop i) i)) (λrec i hi hr=>?_) (λrec=>?_) n 0 (yv _) (by omega)
 ·simpa [slices_IndexFunc_LHide_api_Hide] using this
 ·simp only [slices_IndexFunc_LHide_api_Hide.l1,lt_len hi,if_true,idx_nat hi,ya,hf _ (ym hi),add64_1 (i:=i) (by omega),hr];rw [drop_cons hi];simp only [ixP];split <;> rfl
 ·simp [slices_IndexFunc_LHide_api_Hide.l1,ixP]
theorem ContainsFunc_LHide_api_Hide_eq {n l f p} (hf:∀ x∈l,f x=some (p x)) (hl:l.length<1000000) (hn:1000000≤n):slices_ContainsFunc_LHide_api_Hide n l f=some (l.any p):=by
 unfold slices_ContainsFunc_LHide_api_Hide;rw [IndexFunc_LHide_api_Hide_eq hf hl hn,ya,ixP_any]
def aroundP (x most:Int):Bool:=decide (-most≤x)&&decide (x≤most)
theorem around3 {n x}:model_around n x 1000=some (aroundP x 1000):=rfl
theorem around9 {n x}:model_around n x 1000000000=some (aroundP x 1000000000):=rfl
theorem around4 {n x}:model_around n x 9999=some (aroundP x 9999):=rfl
theorem between3 {n x}:ref13_between n x 1000=some (aroundP x 1000):=rfl
theorem between9 {n x}:ref13_between n x 1000000000=some (aroundP x 1000000000):=rfl
theorem between4 {n x}:ref13_between n x 9999=some (aroundP x 9999):=rfl
def rowP (K:Nat):Int→List Term→Bool
 | _,[]=>true
 | last,t::l=>(decide (last<t.cell)&&decide (t.cell<(K:Int))&&(t.factor != 0)&&aroundP t.factor 1000)&&rowP K t.cell l
def rowOK (K:Nat) (r:Row):Bool:=rowP K (-1) r.terms&&aroundP r.bound 1000000000
theorem sub64_1 {i:Nat} (h0:0<i) (h:i<4611686018427387904):sub64 (i:Int) 1=((i - 1:Nat):Int):=by
 unfold sub64;rw [w64_id (by omega) (by omega)];omega
theorem model_row_eq {n} {j:Judge} {r} (hl:r.terms.length<1000000) (hn:1000000≤n):model_judge_row n j r=some (rowOK j.strict.length r):=by
 have:=loopF_I (body:=model_judge_row.l1 n j r) (len:=r.terms.length) (st:=λ(s:Int) i=>(s,(i:Int))) (g:=λi s=>some (rowP j.strict.length s (r.terms.drop i)&&aroundP r.bound 1000000000)) (λ_ _=>True) (λrec i s hi _ hr=>?_) (λrec s _=>?_) n 0 (-1) (yv _) (by omega) trivial
 ·simpa [model_judge_row,rowOK] using this
 ·simp only [model_judge_row.l1,lt_len hi,if_true,idx_nat hi,ya,around3,yj,yw,grd,yf,add64_1 (i:=i) (by omega),hr r.terms[i].cell trivial];rw [drop_cons hi,rowP];by_cases h:(decide (s<r.terms[i].cell)&&decide (r.terms[i].cell<(j.strict.length:Int))&&(r.terms[i].factor != 0)&&aroundP r.terms[i].factor 1000)=true
  ·rw [h,yB];simp only [yc,yd,bne_iff_ne] at h;rw [if_neg (by simp [h.2,h.1.2];omega)]
  ·rw [if_pos (by
    simp only [yc,yd,bne_iff_ne,ne_eq] at h;simp only [yy,yd,beq_iff_eq,yA,← yE];by_cases ha:aroundP r.terms[i].factor 1000=true
    ·left;simp only [ha,and_true] at h;omega
    ·exact .inr ha)]
   simp only [yE] at h;rw [h];rfl
 ·simp [model_judge_row.l1,around9,rowP]
theorem ref_row_eq {n K:Nat} {r} (hl:r.terms.length<1000000) (hn:1000000≤n):ref13_row n r (K:Int)=some (rowOK K r):=by
 have:=loopF_I (body:=ref13_row.l1 n r (K:Int)) (len:=r.terms.length) (st:=λ(_:Int) i=>(i:Int)) (g:=λi s=>some (rowP K s (r.terms.drop i)&&aroundP r.bound 1000000000)) (λi s=>-1≤s∧((i=0∧s = -1)∨(0<i∧∃ x,idx r.terms (sub64 (i:Int) 1)=some x∧x.cell=s))) (λrec i s hi hI hr=>?_) (λrec s _=>?_) n 0 (-1) (yv _) (by omega) ⟨by omega,.inl ⟨rfl,rfl⟩⟩
 ·simpa [ref13_row,rowOK] using this
 ·obtain ⟨h1,h2⟩:=hI;have hprev:(decide (0<(i:Int))&&decide (r.terms[i].cell≤((idx r.terms (sub64 (i:Int) 1)).getD default).cell))=(decide (0<i)&&decide (r.terms[i].cell≤s))∧(!(decide (0<(i:Int)))||(idx r.terms (sub64 (i:Int) 1)).isSome)=true:=by
   rcases h2 with ⟨h2,h3⟩ | ⟨h2,x,h3,h4⟩
   ·subst h2;simp
   ·rw [h3];simp [h4,h2]
  simp only [ref13_row.l1,lt_len hi,if_true,idx_nat hi,ya,between3,yj,yw,grd,yf,hprev.1,hprev.2,add64_1 (i:=i) (by omega)];rw [drop_cons hi,rowP];by_cases h:(decide (s<r.terms[i].cell)&&decide (r.terms[i].cell<(K:Int))&&(r.terms[i].factor != 0)&&aroundP r.terms[i].factor 1000)=true
  ·rw [h,yB];simp only [yc,yd,bne_iff_ne] at h;rw [if_neg (by simp [h.2,h.1.2];omega),hr r.terms[i].cell ⟨by omega,.inr ⟨by omega,r.terms[i],by
    rw [sub64_1 (by omega) (by omega),show i+1 - 1=i by omega,idx_nat hi],rfl⟩⟩]
  ·rw [if_pos (by
    simp only [yc,yd,bne_iff_ne,ne_eq] at h;simp only [yy,yc,yd,beq_iff_eq,yA,← yE];by_cases ha:aroundP r.terms[i].factor 1000=true
    ·left;simp only [ha,and_true] at h;rcases h2 with ⟨h2,h3⟩ | ⟨h2,-⟩ <;> omega
    ·exact .inr ha)]
   simp only [yE] at h;rw [h];rfl
 ·simp [ref13_row.l1,between9,rowP]
def graphT (sorts:List Int) (c:Constraint) (t:Table):Bool:=(t.kind==0&&((t.columns.length:Int)==2))&&(((idx t.columns 0).getD default==(idx t.columns 1).getD default)&&t.first==c.first&&((idx sorts ((idx t.columns 0).getD default)).getD default==c.size))
def graphP (m:Model) (c:Constraint):Bool:=(((c.row.terms.length:Int)==0)&&(c.row.bound==0))&&m.tables.any (graphT m.sorts c)
theorem graph_cols {sorts:List Int} {t:Table} (hc:t.columns.all (colOK sorts)=true) (h2:(t.columns.length:Int)=2):(∃ x,idx t.columns 0=some x)∧(∃ x,idx t.columns 1=some x)∧∃ x,idx sorts ((idx t.columns 0).getD default)=some x:=by
 obtain ⟨x,hx⟩:=idx_some (l:=t.columns) (i:=0) (by omega) (by omega);obtain ⟨y,hy⟩:=idx_some (l:=t.columns) (i:=1) (by omega) (by omega);refine ⟨⟨x,hx⟩,⟨y,hy⟩,?_⟩;rw [hx];exact ⟨_,idx_col (yo.1 hc x (idx_mem hx))⟩
theorem graph_1_eq {n} {j:Judge} {c t} (hc:t.columns.all (colOK j.model.sorts)=true):model_judge_graph_1 n t c j=some (graphT j.model.sorts c t):=by
 unfold model_judge_graph_1 graphT;by_cases h2:(t.kind==0&&((t.columns.length:Int)==2))=true
 ·have h2':=h2;simp only [yc,beq_iff_eq] at h2';obtain ⟨⟨x,hx⟩,⟨y,hy⟩,z,hz⟩:=graph_cols hc h2'.2;rw [hx] at hz;simp only [yf] at hz;simp [h2,hx,hy,hz,grd,Bool.and_assoc]
 ·simp only [yE] at h2;simp [h2,grd]
theorem model_graph_eq {n} {j:Judge} {c} (hc:∀ t∈j.model.tables,t.columns.all (colOK j.model.sorts)=true) (hl:j.model.tables.length<1000000) (hn:1000000≤n):model_judge_graph n j c=some (graphP j.model c):=by
 unfold model_judge_graph graphP;rw [ContainsFunc_LTable_api_Table_eq (p:=graphT j.model.sorts c) (λt ht=>graph_1_eq (hc t ht)) hl hn];simp [grd]
theorem ref_graph_eq {n m c} (hc:∀ t∈m.tables,t.columns.all (colOK m.sorts)=true) (hl:m.tables.length<1000000) (hn:1000000≤n):ref13_graph n m c=some (graphP m c):=by
 unfold ref13_graph graphP;by_cases h:(((c.row.terms.length:Int)==0)&&(c.row.bound==0))=true
 ·rw [h,yB];simp only [yc,beq_iff_eq] at h;rw [if_neg (by rw [h.1,h.2];decide)];have:=loopF_g (body:=ref13_graph.l1 n m c) (len:=m.tables.length) (st:=λi=>(i:Int)) (g:=λi=>some ((m.tables.drop i).any (graphT m.sorts c))) (λrec i hi hr=>?_) (λrec=>?_) n 0 (yv _) (by omega)
  ·simpa using this
  ·simp only [ref13_graph.l1,lt_len hi,if_true,idx_nat hi,ya,add64_1 (i:=i) (by omega),hr];rw [drop_cons hi,List.any_cons];have hcol:=hc _ (ym hi);by_cases h2:(m.tables[i].kind==0&&((m.tables[i].columns.length:Int)==2))=true
   ·have h2':=h2;simp only [yc,beq_iff_eq] at h2';obtain ⟨⟨x,hx⟩,⟨y,hy⟩,z,hz⟩:=graph_cols hcol h2'.2;rw [hx] at hz;simp only [yf] at hz;simp only [h2,hx,hy,hz,grd,yj,yw,if_true,yf,yB,graphT];cases (x==y&&m.tables[i].first==c.first&&z==c.size) <;> simp
   ·simp only [yE] at h2;simp [h2,grd,graphT]
  ·simp [ref13_graph.l1]
 ·simp only [yE] at h;rw [h,y7,if_pos (by
   simp only [uk,ub] at h;simp only [yy,yd,bne_iff_ne];omega)]
theorem EqualTerm_eq {n a b} (hl:a.length<1000000) (hn:1000000≤n):slices_Equal_LTerm_api_Term n a b=some (decide (a=b)):=by
 unfold slices_Equal_LTerm_api_Term;by_cases h:a.length=b.length
 ·rw [if_neg (by simp [h])];have:=loopF_g (body:=slices_Equal_LTerm_api_Term.l1 n a b) (len:=a.length) (st:=λi=>(i:Int)) (g:=λi=>some (decide (a.drop i=b.drop i))) (λrec i hi hr=>?_) (λrec=>?_) n 0 (yv _) (by omega)
  ·simpa using this
  ·have hib:i<b.length:=by omega
   simp only [slices_Equal_LTerm_api_Term.l1,lt_len hi,if_true,idx_nat hi,idx_nat hib,ya,add64_1 (i:=i) (by omega),hr];rw [drop_cons hi,drop_cons hib];by_cases e:a[i]=b[i]
   ·simp only [e,decide_true,y8,yh,if_false,List.cons.injEq,true_and]
   ·simp only [e,decide_false,uq,if_true,List.cons.injEq,false_and]
  ·simp [slices_Equal_LTerm_api_Term.l1,h]
 ·rw [if_pos (by simp;omega)];have:¬ a=b:=λe=>h (by rw [e])
  simp [this]
theorem SameTerms_eq {n a b} (hl:a.length<1000000) (hn:1000000≤n):ref11_SameTerms n a b=some (decide (a=b)):=by
 unfold ref11_SameTerms;by_cases h:a.length=b.length
 ·rw [if_neg (by simp [h])];have:=loopF_g (body:=ref11_SameTerms.l1 n a b) (len:=a.length) (st:=λi=>(i:Int)) (g:=λi=>some (decide (a.drop i=b.drop i))) (λrec i hi hr=>?_) (λrec=>?_) n 0 (yv _) (by omega)
  ·simpa using this
  ·have hib:i<b.length:=by omega
   simp only [ref11_SameTerms.l1,lt_len hi,if_true,idx_nat hi,idx_nat hib,ya,add64_1 (i:=i) (by omega),hr];rw [drop_cons hi,drop_cons hib];by_cases e:a[i]=b[i]
   ·simp only [e,decide_true,y8,yh,if_false,List.cons.injEq,true_and]
   ·simp only [e,decide_false,uq,if_true,List.cons.injEq,false_and]
  ·simp [ref11_SameTerms.l1,h]
 ·rw [if_pos (by simp;omega)];have:¬ a=b:=λe=>h (by rw [e])
  simp [this]
theorem single_eq {n r c f b} (hl:r.terms.length<1000000) (hn:1000000≤n):model_single n r c f b=some (decide (r=(⟨[⟨c,f⟩],b⟩:Row))):=by
 unfold model_single;rw [EqualTerm_eq hl hn,ya];congr 1;rw [Bool.eq_iff_iff];cases r;simp
theorem SameRow_eq {n a b} (hl:a.terms.length<1000000) (hn:1000000≤n):ref11_SameRow n a b=some (decide (a=b)):=by
 unfold ref11_SameRow;rw [SameTerms_eq hl hn];simp only [yj,yw,grd,if_true,yf];congr 1;rw [Bool.eq_iff_iff];cases a;cases b;simp [and_comm]
structure SmallM (m:Model):Prop where
 sorts:m.sorts.length≤8
 tables:m.tables.length≤6
 tab:∀ t∈m.tables,t.name.length≤40∧t.columns.length≤12
 families:m.families.length≤20
 fam:∀ s∈m.families,s.length≤40
 constraints:m.constraints.length≤60
 con:∀ c∈m.constraints,c.row.terms.length≤20
 operations:m.operations.length≤8
 op:∀ o∈m.operations,o.name.length≤40∧o.sorts.length≤6
 actions:m.actions.length≤30
 act:∀ a∈m.actions,a.arguments.length≤6∧a.effect.delta.length≤20∧a.effect.hold.length≤10∧a.effect.updates.length≤40∧∀ r∈a.effect.hold,r.terms.length≤20
 hides:m.hides.length≤12
def boundRow (l:List Range) (i:Nat):Row:=⟨[⟨((i / 2:Nat):Int),if i % 2=0 then -1 else 1⟩],if i % 2=0 then neg64 ((idx l ((i / 2:Nat):Int)).getD default).lo else ((idx l ((i / 2:Nat):Int)).getD default).hi⟩
def famP (m:Model) (c:Constraint):Bool:=decide (0≤c.family)&&decide (c.family<(m.families.length:Int))
def plainP (K:Nat) (c:Constraint):Bool:=(((c.kind==0)&&(c.first==0))&&(c.size==0))&&rowOK K c.row
def acyP (m:Model) (c:Constraint):Bool:=c.kind==1&&graphP m c
def conP (m:Model) (l:List Range) (i:Nat) (c:Constraint):Bool:=famP m c&&(plainP l.length c||acyP m c)&&(!decide (i / 2<l.length)||(c.kind==0&&decide (c.row=boundRow l i)))
def consP (m:Model) (l:List Range):Bool:=decide (m.constraints.length≤512)&&decide (2*l.length≤m.constraints.length)&&allR (λi=>conP m l i ((idx m.constraints (i:Int)).getD default)) 0 m.constraints.length
theorem quo2 {i:Nat} (h:i<1000000):quo64 (i:Int) 2=some ((i / 2:Nat):Int):=by
 unfold quo64;rw [if_neg (by decide),Int.tdiv_eq_ediv_of_nonneg (by omega),w64_id (by omega) (by omega)];congr 1
theorem rem2 {i:Nat}:rem64 (i:Int) 2=some ((i % 2:Nat):Int):=by
 unfold rem64;rw [if_neg (by decide),Int.tmod_eq_emod_of_nonneg (by omega)];congr 1
theorem mul2 {i:Nat} (h:i<1000000):mul64 2 (i:Int)=((2*i:Nat):Int):=by
 unfold mul64;rw [w64_id (by omega) (by omega)];omega
theorem model_constraints_eq {n:Nat} {m} {l:List Range} (hS:SmallM m) (hc:∀ t∈m.tables,t.columns.all (colOK m.sorts)=true) (hK:l.length<100000) (hn:1000000≤n):model_judge_constraints n ⟨m,l⟩=some (consP m l):=by
 have hcl:=hS.constraints;have htl:=hS.tables;unfold model_judge_constraints consP;simp only [mul2 (show l.length<1000000 by omega)];by_cases h0:(decide (m.constraints.length≤512)&&decide (2*l.length≤m.constraints.length))=true
 ·rw [h0,yB];simp only [yc,yd] at h0;rw [if_neg (by simp;omega)];have:=loopF_all (body:=model_judge_constraints.l1 n ⟨m,l⟩) (len:=m.constraints.length) (n:=n) (st:=λi=>(i:Int)) (λi=>conP m l i ((idx m.constraints (i:Int)).getD default)) (some false) (some true) (λrec i hi=>?_) (λrec=>?_) (by omega)
  ·simp only [Int.natCast_zero] at this;rw [this];cases allR (λi=>conP m l i ((idx m.constraints (i:Int)).getD default)) 0 m.constraints.length <;> rfl
  ·have hterms:=hS.con _ (ym hi);simp only [model_judge_constraints.l1,jn,lt_len hi,if_true,idx_nat hi,ya,model_index,yf,model_row_eq (j:=⟨m,l⟩) (r:=m.constraints[i].row) (show m.constraints[i].row.terms.length<1000000 by omega) hn,model_graph_eq (j:=⟨m,l⟩) (c:=m.constraints[i]) hc (show m.tables.length<1000000 by omega) hn,yj,yw,grd,quo2 (show i<1000000 by omega),rem2,single_eq (r:=m.constraints[i].row) (show m.constraints[i].row.terms.length<1000000 by omega) hn,add64_1 (i:=i) (by omega)];have hfam:(decide (0≤m.constraints[i].family)&&decide (m.constraints[i].family<(m.families.length:Int)))=famP m m.constraints[i]:=rfl;rw [hfam];cases hf:famP m m.constraints[i] with
   | false=>simp [conP,hf]
   | true=>
    simp only [y8,yh,if_false];have hrest:∀ (X:Bool),X=(plainP l.length m.constraints[i]||acyP m m.constraints[i]) →
      (if X=true then (if decide (((i / 2:Nat):Int)<(l.length:Int))=true then (idx l ((i / 2:Nat):Int)).bind λx81=>(if (((i % 2:Nat):Int)==0)=true then (if (m.constraints[i].kind != 0||!decide (m.constraints[i].row=(⟨[⟨((i / 2:Nat):Int),-1⟩],neg64 x81.lo⟩:Row)))=true then some false else rec ((i+1:Nat):Int)) else (if (m.constraints[i].kind != 0||!decide (m.constraints[i].row=(⟨[⟨((i / 2:Nat):Int),1⟩],x81.hi⟩:Row)))=true then some false else rec ((i+1:Nat):Int))) else rec ((i+1:Nat):Int)) else some false)=if conP m l i m.constraints[i]=true then rec ((i+1:Nat):Int) else some false:=by
     intro X hX;unfold conP;rw [hf,← hX];cases X with
     | false=>simp
     | true=>
      simp only [if_true,yB];by_cases hlt:i / 2<l.length
      ·rw [if_pos (lt_nat hlt),idx_nat hlt,ya];simp only [hlt,decide_true,y8,uh,boundRow,idx_nat hlt,yf];by_cases hm:i % 2=0
       ·rw [if_pos (by simp [hm])];simp only [hm,if_true];cases hkk:(m.constraints[i].kind==0) <;> simp [bne,hkk]
       ·rw [if_neg (by simp;omega)];simp only [hm,if_false];cases hkk:(m.constraints[i].kind==0) <;> simp [bne,hkk]
      ·rw [if_neg (by rw [ge_nat (by omega)];simp)];simp [hlt]
    by_cases hk:m.constraints[i].kind=0
    ·rw [if_pos (by simp [hk])];have hX:(plainP l.length m.constraints[i]||acyP m m.constraints[i])=((m.constraints[i].first==0&&m.constraints[i].size==0)&&rowOK l.length m.constraints[i].row):=by
      simp [plainP,acyP,hk]
     rw [← hrest _ hX.symm];cases h1:(m.constraints[i].first==0) <;> cases h2:(m.constraints[i].size==0) <;> cases h3:rowOK l.length m.constraints[i].row <;> simp [bne,h1,h2]
    ·rw [if_neg (by simp [hk])];have hX:(plainP l.length m.constraints[i]||acyP m m.constraints[i])=(m.constraints[i].kind==1&&graphP m m.constraints[i]):=by
      simp [plainP,acyP,hk]
     rw [← hrest _ hX.symm];cases h1:(m.constraints[i].kind==1) <;> cases h3:graphP m m.constraints[i] <;> simp [bne,h1]
  ·simp [model_judge_constraints.l1]
 ·rw [if_pos (by
   simp only [yc,yd] at h0;simp only [yy,yd];omega)]
  simp only [yE] at h0;rw [h0,y7]
theorem consP_ref {m l} (h2:2*l.length≤m.constraints.length) :
  allR (λi=>conP m l i ((idx m.constraints (i:Int)).getD default)) 0 m.constraints.length=(allR (λi=>decide (((idx m.constraints ((2*i:Nat):Int)).getD default).row=boundRow l (2*i))&&decide (((idx m.constraints ((2*i+1:Nat):Int)).getD default).row=boundRow l (2*i+1))) 0 l.length
   && allR (λi=>famP m ((idx m.constraints (i:Int)).getD default)&&(plainP l.length ((idx m.constraints (i:Int)).getD default)||(decide (2*l.length≤i)&&acyP m ((idx m.constraints (i:Int)).getD default)))) 0 m.constraints.length):=by
 rw [Bool.eq_iff_iff,yc,allR_0,allR_0,allR_0];constructor
 ·intro h;refine ⟨λj hj=>?_,λi hi=>?_⟩
  ·have ha:=h (2*j) (by omega);have hb:=h (2*j+1) (by omega);simp only [conP,yc,yy,yA,yF,yd] at ha hb ⊢;rcases ha.2 with e | e
   ·omega
   rcases hb.2 with f | f
   ·omega
   exact ⟨e.2,f.2⟩
  ·have ha:=h i hi;simp only [conP,yc,yy,yA,yF,yd] at ha ⊢;refine ⟨ha.1.1,?_⟩;rcases ha.1.2 with e | e
   ·exact .inl e
   ·refine .inr ⟨?_,e⟩;rcases ha.2 with f | f
    ·omega
    ·simp only [acyP,yc,beq_iff_eq] at e;have:=f.1;simp only [beq_iff_eq] at this;omega
 ·rintro ⟨ha,hb⟩ i hi;have hb:=hb i hi;simp only [conP,yc,yy,yA,yF,yd] at hb ⊢;refine ⟨⟨hb.1,hb.2.imp id (·.2)⟩,?_⟩;by_cases hlt:i / 2<l.length
  ·right;have ha:=ha (i / 2) hlt;simp only [yc,yd] at ha;rcases hb.2 with e | e
   ·refine ⟨?_,?_⟩
    ·simp only [plainP,yc] at e;exact e.1.1.1
    ·by_cases hm:i % 2=0
     ·have:=ha.1
      rwa [show 2*(i / 2)=i by omega] at this
     ·have:=ha.2
      rwa [show 2*(i / 2)+1=i by omega] at this
   ·omega
  ·exact .inl hlt
theorem ref13_constraints_eq {n:Nat} {m} (hS:SmallM m) (hL:layoutP m.sorts m.tables=true) (hn:1000000≤n):ref13_constraints n m=some (consP m (rangesP m.sorts true m.tables)):=by
 have hcl:=hS.constraints;have htl:=hS.tables;have hsl:=hS.sorts;obtain ⟨l1,l2,l3,l4⟩:=layoutP_tab hL;have hlen:=rangesP_len (sizes:=m.sorts) (s:=true) (l:=m.tables) λx hx=>(l4 x hx).2.2.2.2
 unfold ref13_constraints ref13_strict consP;rw [ref09_Ranges_eq hn (by omega) (by omega) (λt ht=>by have:=hS.tab t ht;omega),hL,if_pos rfl];generalize rangesP m.sorts true m.tables=l at hlen;simp only [ya,mul2 (show l.length<1000000 by omega)];by_cases h0:(decide (m.constraints.length≤512)&&decide (2*l.length≤m.constraints.length))=true
 ·rw [h0,yB];simp only [yc,yd] at h0;rw [if_neg (by simp;omega),consP_ref h0.2];have first:=loopF_all (body:=ref13_constraints.l1 n m l) (len:=l.length) (n:=n) (st:=λi=>(i:Int)) (λi=>decide (((idx m.constraints ((2*i:Nat):Int)).getD default).row=boundRow l (2*i))&&decide (((idx m.constraints ((2*i+1:Nat):Int)).getD default).row=boundRow l (2*i+1))) (some false) (loopF (ref13_constraints.l2 n m l) n 0) (λrec i hi=>?_) (λrec=>?_) (by omega)
  ·simp only [Int.natCast_zero] at first
   rw [first];have second:=loopF_all (body:=ref13_constraints.l2 n m l) (len:=m.constraints.length) (n:=n) (st:=λi=>(i:Int)) (λi=>famP m ((idx m.constraints (i:Int)).getD default)&&(plainP l.length ((idx m.constraints (i:Int)).getD default)||(decide (2*l.length≤i)&&acyP m ((idx m.constraints (i:Int)).getD default)))) (some false) (some true) (λrec i hi=>?_) (λrec=>?_) (by omega)
   ·simp only [Int.natCast_zero] at second;rw [second];cases allR (λi=>decide (((idx m.constraints ((2*i:Nat):Int)).getD default).row=boundRow l (2*i))&&decide (((idx m.constraints ((2*i+1:Nat):Int)).getD default).row=boundRow l (2*i+1))) 0 l.length <;> cases allR (λi=>famP m ((idx m.constraints (i:Int)).getD default)&&(plainP l.length ((idx m.constraints (i:Int)).getD default)||(decide (2*l.length≤i)&&acyP m ((idx m.constraints (i:Int)).getD default)))) 0 m.constraints.length <;> rfl
   ·have hterms:=hS.con _ (ym hi);have hd:decide (mul64 2 (l.length:Int)≤(i:Int))=decide (2*l.length≤i):=by rw [mul2 (by omega)];exact decide_eq_decide.2 (by omega)
    simp only [ref13_constraints.l2,lt_len hi,if_true,idx_nat hi,ya,yf,ref_row_eq (r:=m.constraints[i].row) (show m.constraints[i].row.terms.length<1000000 by omega) hn,ref_graph_eq (m:=m) (c:=m.constraints[i]) (λt ht=>(l4 t ht).2.2.2.1) (show m.tables.length<1000000 by omega) hn,yj,yw,grd,add64_1 (i:=i) (by omega),hd];have hfam:(decide (m.constraints[i].family<0)||decide ((m.families.length:Int)≤m.constraints[i].family)) = !famP m m.constraints[i]:=by
     unfold famP;rw [Bool.not_and,← decide_not,← decide_not];congr 1
     ·exact decide_eq_decide.2 (by omega)
     ·exact decide_eq_decide.2 (by omega)
    rw [hfam];cases famP m m.constraints[i] with
    | false=>simp
    | true=>
     have hp:((((m.constraints[i].kind==0)&&(m.constraints[i].first==0))&&(m.constraints[i].size==0))&&rowOK l.length m.constraints[i].row)=plainP l.length m.constraints[i]:=rfl;rw [hp];unfold acyP;cases plainP l.length m.constraints[i] <;> cases decide (2*l.length≤i) <;> cases (m.constraints[i].kind==1) <;> cases graphP m m.constraints[i] <;> simp
   ·simp [ref13_constraints.l2]
  ·have h2i:2*i<m.constraints.length:=by omega
   have h2j:2*i+1<m.constraints.length:=by omega
   have t1:=hS.con _ (ym h2i);have t2:=hS.con _ (ym h2j);have e1:boundRow l (2*i)=⟨[⟨(i:Int),-1⟩],neg64 l[i].lo⟩:=by
    unfold boundRow;rw [show 2*i / 2=i by omega,if_pos (by omega),if_pos (by omega),idx_nat hi];rfl
   have e2:boundRow l (2*i+1)=⟨[⟨(i:Int),1⟩],l[i].hi⟩:=by
    unfold boundRow;rw [show (2*i+1) / 2=i by omega,if_neg (by omega),if_neg (by omega),idx_nat hi];rfl
   have hadd:add64 ((2*i:Nat):Int) 1=((2*i+1:Nat):Int):=add64_1 (by omega);simp only [ref13_constraints.l1,lt_len hi,if_true,idx_nat hi,mul2 (show i<1000000 by omega),idx_nat h2i,hadd,idx_nat h2j,ya,yf,SameRow_eq (show m.constraints[2*i].row.terms.length<1000000 by omega) hn,SameRow_eq (show m.constraints[2*i+1].row.terms.length<1000000 by omega) hn,yj,yw,grd,add64_1 (i:=i) (by omega),e1,e2];cases decide (m.constraints[2*i].row=⟨[⟨(i:Int),-1⟩],neg64 l[i].lo⟩) <;> cases decide (m.constraints[2*i+1].row=⟨[⟨(i:Int),1⟩],l[i].hi⟩) <;> simp
  ·simp [ref13_constraints.l1]
 ·rw [if_pos (by
   simp only [yc,yd] at h0;simp only [yy,yd];omega)]
  simp only [yE] at h0;rw [h0,y7]
theorem loopF_lall {α S R:Type} {body:(S→Option R)→S→Option R} {l:List α} {n:Nat} {st:Nat→S} (p:α→Bool) (F T:Option R)
  (hb:∀ rec i (hi:i<l.length),body rec (st i)=if p l[i]=true then rec (st (i+1)) else F) (he:∀ rec,body rec (st l.length)=T) (hn:l.length<n):loopF body n (st 0)=if l.all p=true then T else F:=by
 have:=loopF_g (body:=body) (len:=l.length) (st:=st) (g:=λi=>if (l.drop i).all p=true then T else F) (λrec i hi hr=>?_) (λrec=>?_) n 0 (yv _) (by omega)
 ·simpa using this
 ·rw [hb rec i hi,drop_cons hi,ui,hr];cases p l[i] <;> simp
 ·rw [he];simp
def sizeAt (sizes:List Int) (c:Int):Int:=sizes.getD c.toNat 0
def digR (sizes:List Int):List Int→Int→List Int
 | [],_=>[]
 | c::l,k=>k.tmod (sizeAt sizes c)::digR sizes l (w64 (k.tdiv (sizeAt sizes c)))
def tupleP (sizes cols:List Int) (k:Int):List Int:=(digR sizes cols.reverse k).reverse
theorem sizeAt_ne {sizes:List Int} (hs:sizes.all sizeOK=true) {c:Int} (hc:colOK sizes c=true):1≤sizeAt sizes c∧sizeAt sizes c≤6:=by
 simp only [colOK,yc,yd] at hc;obtain ⟨k,rfl⟩:=yW hc.1;have hk:k<sizes.length:=by omega
 have hz:=yo.1 hs _ (ym hk);simp only [sizeOK,yc,yd] at hz;have hg:sizeAt sizes (k:Int)=sizes[k]:=by simp [sizeAt,List.getD,hk]
 rw [hg];exact hz
theorem sto_mid {r:Nat} {done:List Int} {x:Int}:sto (List.replicate (r+1) 0++done) (r:Int) x=some (List.replicate r 0++x::done):=by
 unfold sto;rw [if_pos (by simp;omega)];simp only [yp,yg];rw [List.replicate_succ',yQ,List.set_append_right _ _ (by simp)];simp
theorem idx_mid {r:Nat} {done:List Int}:∃ x,idx (List.replicate (r+1) 0++done) (r:Int)=some x:=⟨_,idx_nat (by simp;omega)⟩
theorem take_rev {α:Type} {l:List α} {r:Nat} (h:r<l.length):(l.take (r+1)).reverse=l[r]::(l.take r).reverse:=by
 rw [yC h];simp
theorem cells_digits {n:Nat} {sizes:List Int} {t:Table} {i:Int} (hs:sizes.all sizeOK=true) (hc:t.columns.all (colOK sizes)=true) (hl:t.columns.length<1000000):∀ (m r:Nat) (done:List Int) (k:Int),r<m→r≤t.columns.length →
  loopF (cells_Tuple.l2 n sizes i t) m (List.replicate r 0++done,k,(r:Int) - 1)=some (i,(digR sizes (t.columns.take r).reverse k).reverse++done,true)
 | 0,_,_,_,h,_=>by omega
 | m+1,0,done,k,_,_=>by simp [loopF,cells_Tuple.l2,digR]
 | m+1,r+1,done,k,h,hr=>by
  have hrl:r<t.columns.length:=by omega
  have hcol:=yo.1 hc _ (ym hrl);have hsz:=sizeAt_ne hs hcol;have e:(((r+1:Nat):Int)) - 1=(r:Int):=by omega
  obtain ⟨x,hx⟩:=idx_mid (r:=r) (done:=done);have hrem:rem64 k (sizeAt sizes t.columns[r])=some (k.tmod (sizeAt sizes t.columns[r])):=by unfold rem64;rw [if_neg (by omega)]
  have hquo:quo64 k (sizeAt sizes t.columns[r])=some (w64 (k.tdiv (sizeAt sizes t.columns[r]))):=by unfold quo64;rw [if_neg (by omega)]
  have hcs:=idx_col hcol;have hsub:sub64 (r:Int) 1=(r:Int) - 1:=by unfold sub64;rw [w64_id (by omega) (by omega)]
  have hd:decide (0≤(r:Int))=true:=by simp
  unfold sizeAt at hrem hquo;simp only [loopF,cells_Tuple.l2,e,hd,if_true,idx_nat hrl,hcs,hrem,hquo,hx,sto_mid,ya,hsub];rw [cells_digits hs hc hl m r _ _ (by omega) (by omega),take_rev hrl];simp only [digR,sizeAt,List.reverse_cons,yQ,List.singleton_append]
theorem ref_digits {n:Nat} {sizes cols:List Int} (hs:sizes.all sizeOK=true) (hc:cols.all (colOK sizes)=true) (hl:cols.length<1000000):∀ (m r:Nat) (done:List Int) (k:Int),r<m→r≤cols.length →
  loopF (ref09_nth.l1 n sizes cols) m (List.replicate r 0++done,k,(r:Int) - 1)=some ((digR sizes (cols.take r).reverse k).reverse++done)
 | 0,_,_,_,h,_=>by omega
 | m+1,0,done,k,_,_=>by simp [loopF,ref09_nth.l1,digR]
 | m+1,r+1,done,k,h,hr=>by
  have hrl:r<cols.length:=by omega
  have hcol:=yo.1 hc _ (ym hrl);have hsz:=sizeAt_ne hs hcol;have e:(((r+1:Nat):Int)) - 1=(r:Int):=by omega
  obtain ⟨x,hx⟩:=idx_mid (r:=r) (done:=done);have hrem:rem64 k (sizeAt sizes cols[r])=some (k.tmod (sizeAt sizes cols[r])):=by unfold rem64;rw [if_neg (by omega)]
  have hquo:quo64 k (sizeAt sizes cols[r])=some (w64 (k.tdiv (sizeAt sizes cols[r]))):=by unfold quo64;rw [if_neg (by omega)]
  have hcs:=idx_col hcol;have hsub:sub64 (r:Int) 1=(r:Int) - 1:=by unfold sub64;rw [w64_id (by omega) (by omega)]
  have hd:decide (0≤(r:Int))=true:=by simp
  unfold sizeAt at hrem hquo;simp only [loopF,ref09_nth.l1,e,hd,if_true,idx_nat hrl,hcs,hrem,hquo,hx,sto_mid,ya,hsub];rw [ref_digits hs hc hl m r _ _ (by omega) (by omega),take_rev hrl];simp only [digR,sizeAt,List.reverse_cons,yQ,List.singleton_append]
theorem mkl_0 {b k:Nat} (h:k*b≤140737488355328):mkl b (k:Int) (0:Int)=some (List.replicate k 0):=by
 have e:((k*b:Nat):Int)=(k:Int)*(b:Int):=ug k b;unfold mkl;rw [if_pos ⟨by omega,by omega⟩];simp
theorem sub64_len {k:Nat} (h:k<1000000):sub64 (k:Int) 1=(k:Int) - 1:=by
 unfold sub64;rw [w64_id (by omega) (by omega)]
theorem ref09_nth_eq {n:Nat} {sizes cols:List Int} {k:Int} (hs:sizes.all sizeOK=true) (hc:cols.all (colOK sizes)=true) (hl:cols.length≤1000) (hn:1000000≤n):ref09_nth n sizes cols k=some (tupleP sizes cols k):=by
 unfold ref09_nth;rw [mkl_0 (by omega),ya,sub64_len (by omega)];have:=ref_digits (n:=n) hs hc (by omega) n cols.length [] k (by omega) (yn _);simpa [tupleP] using this
def hitP (sizes:List Int) (s:Bool) (cell:Int) (t:Table):Bool:=(strictP t.kind==s)&&(decide (0≤sub64 cell t.first)&&decide (sub64 cell t.first<widthP sizes t.columns 1))
def resT (sizes:List Int) (s:Bool) (cell:Int):List Table→Nat→Int×List Int×Bool
 | [],_=>(0,[],false)
 | t::l,i=>if hitP sizes s cell t=true then ((i:Int),tupleP sizes t.columns (sub64 cell t.first),true) else resT sizes s cell l (i+1)
def cellP (sizes:List Int) (tables:List Table) (s:Bool) (cell:Int):Int×List Int×Bool:=if (layoutP sizes tables&&decide (0≤cell))=true then resT sizes s cell tables 0 else (0,[],false)
theorem cells_Tuple_eq {n:Nat} {sizes:List Int} {tables:List Table} {s:Bool} {cell:Int} (hF:Fuel n) (hs:sizes.length≤1000) (ht:tables.length≤1000) (hc:∀ t∈tables,t.columns.length≤1000):cells_Tuple n sizes tables s cell=some (cellP sizes tables s cell):=by
 have hn:=hF.big;unfold cells_Tuple cellP;rw [cells_Valid_eq hF hs ht hc,ya];cases hL:layoutP sizes tables with
 | false=>simp
 | true=>
  obtain ⟨l1,l2,l3,l4⟩:=layoutP_tab hL;by_cases h0:0≤cell
  ·rw [if_neg (by simp;omega),if_pos (by simp [h0])];have:=loopF_g (body:=cells_Tuple.l1 n sizes tables s cell) (len:=tables.length) (st:=λi=>(i:Int)) (g:=λi=>some (resT sizes s cell (tables.drop i) i)) (λrec i hi hr=>?_) (λrec=>?_) n 0 (yv _) (by omega)
   ·simpa using this
   ·obtain ⟨-,-,c1,c2,c3,c4⟩:=l4 _ (ym hi);simp only [cells_Tuple.l1,lt_len hi,if_true,idx_nat hi,ya,cells_isStrict,cells_width_eq c2 (show tables[i].columns.length<4611686018427387904 by omega) (show tables[i].columns.length<n by omega),yj,yw,grd,yf,add64_1 (i:=i) (by omega),hr,mkl_0 (b:=8) (k:=tables[i].columns.length) (by omega),ul,sub64_len (show tables[i].columns.length<1000000 by omega)];have hdig:=cells_digits (n:=n) (i:=(i:Int)) l3 c2 (by omega) n tables[i].columns.length [] (sub64 cell tables[i].first) (by omega) (yn _);simp only [uz,List.take_length] at hdig;rw [hdig,drop_cons hi,resT];have hh:(((tables[i].kind==0||tables[i].kind==1) != s||decide (sub64 cell tables[i].first<0))||decide (widthP sizes tables[i].columns 1≤sub64 cell tables[i].first)) = !hitP sizes s cell tables[i]:=by
     unfold hitP strictP;rw [Bool.not_and,Bool.not_and,← decide_not,← decide_not,Bool.or_assoc];congr 1;congr 1
     ·exact decide_eq_decide.2 (by omega)
     ·exact decide_eq_decide.2 (by omega)
    rw [hh];cases hitP sizes s cell tables[i] <;> simp [tupleP]
   ·simp [cells_Tuple.l1,resT]
  ·rw [if_pos (by simp;omega),if_neg (by simp;omega)]
theorem ref09_Tuple_eq {n:Nat} {sizes:List Int} {tables:List Table} {s:Bool} {cell:Int} (hn:1000000≤n) (hs:sizes.length≤1000) (ht:tables.length≤1000) (hc:∀ t∈tables,t.columns.length≤1000∧t.name.length≤4096):ref09_Tuple n sizes tables s cell=some (cellP sizes tables s cell):=by
 unfold ref09_Tuple cellP;rw [ref09_Valid_eq hn hs ht hc,ya];cases hL:layoutP sizes tables with
 | false=>simp
 | true=>
  obtain ⟨l1,l2,l3,l4⟩:=layoutP_tab hL;rw [if_neg (by simp)];have:=loopF_g (body:=ref09_Tuple.l1 n sizes tables s cell) (len:=tables.length) (st:=λi=>(i:Int)) (g:=λi=>some (if decide (0≤cell)=true then resT sizes s cell (tables.drop i) i else (0,[],false))) (λrec i hi hr=>?_) (λrec=>?_) n 0 (yv _) (by omega)
  ·simpa using this
  ·obtain ⟨-,-,c1,c2,c3,c4⟩:=l4 _ (ym hi);have hnum:=ref09_number_eq (n:=n) (sizes:=sizes) (cols:=tables[i].columns) (by omega) (by omega) (by omega) (by omega);simp only [l3,c2,c1,decide_true,uC,if_true] at hnum;simp only [ref09_Tuple.l1,lt_len hi,if_true,idx_nat hi,ya,ref09_strict,hnum,yj,yw,grd,yf,add64_1 (i:=i) (by omega),hr,ref09_nth_eq l3 c2 (show tables[i].columns.length≤1000 by omega) hn];rw [drop_cons hi,resT];unfold hitP strictP;cases decide (0≤cell) with
   | false=>simp
   | true=>
    simp only [if_true,uC];by_cases h1:((tables[i].kind==0||tables[i].kind==1)==s&&decide (0≤sub64 cell tables[i].first)&&decide (sub64 cell tables[i].first<widthP sizes tables[i].columns 1))=true
    ·rw [if_pos h1,if_pos (by rw [← Bool.and_assoc];exact h1)]
    ·rw [if_neg h1,if_neg (by rw [← Bool.and_assoc];exact h1)]
  ·simp [ref09_Tuple.l1,resT]
theorem resT_lt {sizes:List Int} {s:Bool} {cell:Int}:∀ (l:List Table) (i:Nat),(resT sizes s cell l i).2.2=true→∃ k:Nat,(resT sizes s cell l i).1=(k:Int)∧i≤k∧k<i+l.length
 | [],_,h=>by simp [resT] at h
 | t::l,i,h=>by
  rw [resT] at h ⊢;split at h
  ·rename_i hh;rw [if_pos hh];exact ⟨i,rfl,yn _,by simp⟩
  ·rename_i hh;rw [if_neg hh];obtain ⟨k,e,k1,k2⟩:=resT_lt l (i+1) h;exact ⟨k,e,by omega,by simp only [yN];omega⟩
theorem cellP_idx {sizes:List Int} {tables:List Table} {s:Bool} {cell:Int} (h:(cellP sizes tables s cell).2.2=true):∃ t,idx tables (cellP sizes tables s cell).1=some t:=by
 unfold cellP at h ⊢;split at h
 ·rename_i hh;rw [if_pos hh];obtain ⟨k,e,-,k2⟩:=resT_lt tables 0 h;rw [e];exact ⟨_,idx_nat (by omega)⟩
 ·simp at h
theorem cellP_neg {sizes:List Int} {tables:List Table} {s:Bool} {cell:Int} (h:cell<0):(cellP sizes tables s cell).2.2=false:=by
 unfold cellP;rw [if_neg (by simp;omega)]
def updT (t:Table) (u:Update):Bool:=if (t.kind==2||t.kind==3)=true then ((u.kind==0)||(u.kind==1))&&(u.value==0) else ((u.kind==2)&&decide (t.range.lo≤u.value))&&decide (u.value≤t.range.hi)
def updP (m:Model) (u:Update):Bool:=(cellP m.sorts m.tables false u.cell).2.2&&updT ((idx m.tables (cellP m.sorts m.tables false u.cell).1).getD default) u
def updsP (m:Model):Int→List Update→Bool
 | _,[]=>true
 | last,u::l=>(decide (last<u.cell)&&updP m u)&&updsP m u.cell l
theorem model_update_eq {n:Nat} {m:Model} {l:List Range} {u:Update} (hF:Fuel n) (hS:SmallM m):model_judge_update n ⟨m,l⟩ u=some (updP m u):=by
 unfold model_judge_update updP;have hs:=hS.sorts;have ht:=hS.tables;simp only [];rw [cells_Tuple_eq hF (by omega) (by omega) (λt h=>by have:=hS.tab t h;omega),ya];cases hok:(cellP m.sorts m.tables false u.cell).2.2 with
 | false=>simp
 | true=>
  obtain ⟨t,ht⟩:=cellP_idx hok;simp only [ht,y8,yh,if_false,ya,yf,yB,jn,updT];by_cases h2:t.kind=2
  ·simp [h2]
  ·by_cases h3:t.kind=3
   ·simp [h3]
   ·simp [h2,h3]
def opP (m:Model) (o:Operation):Bool:=decide (o.sorts.length≤3)&&o.sorts.all λs=>decide (-1≤s)&&decide (s<(m.sorts.length:Int))
def opsP (m:Model):Bool:=m.operations.all (opP m)&&(decide (m.operations.length≤8)&&distP [] (m.operations.map (·.name)))
theorem map_take_snoc {α β:Type} {f:α→β} {l:List α} {i:Nat} (hi:i<l.length):(l.take i).map f++[f l[i]]=(l.take (i+1)).map f:=by
 rw [yC hi,ur];rfl
theorem model_operations_eq {n:Nat} {m:Model} {l:List Range} (hF:Fuel n) (hS:SmallM m):model_judge_operations n ⟨m,l⟩=some (opsP m):=by
 have hn:=hF.big;have hol:=hS.operations;unfold model_judge_operations opsP;have:=loopF_lall (body:=model_judge_operations.l1 n ⟨m,l⟩) (l:=m.operations) (n:=n) (st:=λi=>((m.operations.take i).map (·.name),(i:Int))) (opP m) (some false) (some (decide (m.operations.length≤8)&&distP [] (m.operations.map (·.name)))) (λrec i hi=>?_) (λrec=>?_) (by omega)
 ·simp only [List.take_zero,List.map_nil,Int.natCast_zero] at this;rw [this];cases m.operations.all (opP m) <;> rfl
 ·have hop:=hS.op _ (ym hi);simp only [model_judge_operations.l1,lt_len hi,if_true,idx_nat hi,ya];rw [app_some (by simp;omega),ya,ContainsFunc_Lint_eq (p:=λs=>!(decide (-1≤s)&&decide (s<(m.sorts.length:Int)))) (λx _=>by
   simp only [model_judge_operations_1,yg,Bool.not_and,← decide_not];congr 1
   ·exact decide_eq_decide.2 (by omega)
   ·exact decide_eq_decide.2 (by omega)) (by omega) (by omega)]
  simp only [yj,yw,grd,if_true,yf,add64_1 (i:=i) (by omega),map_take_snoc hi];have h3:decide (3<(m.operations[i].sorts.length:Int)) = !decide (m.operations[i].sorts.length≤3):=by rw [← decide_not];exact decide_eq_decide.2 (by omega)
  rw [h3,← Bool.not_not (m.operations[i].sorts.any _),any_not,← Bool.not_and];unfold opP;cases (decide (m.operations[i].sorts.length≤3)&&m.operations[i].sorts.all λs=>decide (-1≤s)&&decide (s<(m.sorts.length:Int))) <;> rfl
 ·simp only [model_judge_operations.l1,ge_len,yh,if_false,List.take_length];rw [model_distinct_eq hF (by simp;omega)];simp only [yj,yw,grd,if_true,yf,yT,yg];congr 1;exact decide_eq_decide.2 (by omega)
def deltaP (K:Nat):Int→List Change→Bool
 | _,[]=>true
 | last,d::l=>(decide (last<d.cell)&&decide (d.cell<(K:Int))&&(d.add != 0)&&aroundP d.add 1000000000)&&deltaP K d.cell l
def effP (m:Model) (K:Nat) (x:Effect):Bool:=deltaP K (-1) x.delta&&(updsP m (-1) x.updates&&(decide (x.hold.length≤8)&&decide (x.updates.length≤32)&&x.hold.all (rowOK K)))
theorem model_effect_eq {n m l x} (hF:Fuel n) (hS:SmallM m) (h1:x.delta.length≤1000) (h2:x.updates.length≤1000) (h3:x.hold.length≤1000) (h4:∀ r∈x.hold,r.terms.length≤1000):model_judge_effect n ⟨m,l⟩ x=some (effP m l.length x):=by
 have hn:=hF.big;have T:loopF (model_judge_effect.l2 n ⟨m,l⟩ x) n (-1,0)=some (updsP m (-1) x.updates&&(decide (x.hold.length≤8)&&decide (x.updates.length≤32)&&x.hold.all (rowOK l.length))):=by
  have:=loopF_I (body:=model_judge_effect.l2 n ⟨m,l⟩ x) (len:=x.updates.length) (st:=λ(s:Int) i=>(s,(i:Int))) (g:=λi s=>some (updsP m s (x.updates.drop i)&&(decide (x.hold.length≤8)&&decide (x.updates.length≤32)&&x.hold.all (rowOK l.length)))) (λ_ _=>True) (λrec i s hi _ hr=>?_) (λrec s _=>?_) n 0 (-1) (yv _) (by omega) trivial
  ·simpa using this
  ·simp only [model_judge_effect.l2,lt_len hi,if_true,idx_nat hi,ya,model_update_eq hF hS,yj,yw,grd,yf,add64_1 (i:=i) (by omega),hr x.updates[i].cell trivial];rw [drop_cons hi,updsP];by_cases hlt:s<x.updates[i].cell
   ·have hd:decide (x.updates[i].cell≤s)=false:=by simp;omega
    rw [hd];cases updP m x.updates[i] <;> simp [hlt]
   ·have hd:decide (x.updates[i].cell≤s)=true:=by simp;omega
    rw [hd];simp [hlt]
  ·have hc:slices_ContainsFunc_LRow_api_Row n x.hold (λq0=>model_judge_effect_1 n q0 ⟨m,l⟩)=some (x.hold.any λr=>!rowOK l.length r):=ContainsFunc_LRow_api_Row_eq (λr hr=>by
    unfold model_judge_effect_1;rw [model_row_eq (by have:=h4 r hr;omega) (by omega)];rfl) (by omega) (by omega)
   simp only [model_judge_effect.l2,ge_len,yh,if_false,hc,yj,yw,grd,if_true,yf,any_not,List.drop_length,updsP,yB,yg];congr 2
   ·exact decide_eq_decide.2 (by omega)
   ·exact decide_eq_decide.2 (by omega)
 have:=loopF_I (body:=model_judge_effect.l1 n ⟨m,l⟩ x) (len:=x.delta.length) (st:=λ(s:Int) i=>(s,(i:Int))) (g:=λi s=>some (deltaP l.length s (x.delta.drop i)&&(updsP m (-1) x.updates&&(decide (x.hold.length≤8)&&decide (x.updates.length≤32)&&x.hold.all (rowOK l.length))))) (λ_ _=>True) (λrec i s hi _ hr=>?_) (λrec s _=>?_) n 0 (-1) (yv _) (by omega) trivial
 ·simpa [model_judge_effect,effP] using this
 ·simp only [model_judge_effect.l1,lt_len hi,if_true,idx_nat hi,ya,around9,yj,yw,grd,yf,add64_1 (i:=i) (by omega),hr x.delta[i].cell trivial];rw [drop_cons hi,deltaP];by_cases h:(decide (s<x.delta[i].cell)&&decide (x.delta[i].cell<(l.length:Int))&&(x.delta[i].add != 0)&&aroundP x.delta[i].add 1000000000)=true
  ·rw [h,yB];simp only [yc,yd,bne_iff_ne] at h;rw [if_neg (by simp [h.2,h.1.2];omega)]
  ·rw [if_pos (by
    simp only [yc,yd,bne_iff_ne,ne_eq] at h;simp only [yy,yd,beq_iff_eq,yA,← yE];by_cases ha:aroundP x.delta[i].add 1000000000=true
    ·left;simp only [ha,and_true] at h;omega
    ·exact .inr ha)]
   simp only [yE] at h;rw [h];rfl
 ·simp only [model_judge_effect.l1,ge_len,yh,if_false,T,List.drop_length,deltaP,yB]
theorem ref_effect_eq {n m x} (hn:1000000≤n) (hS:SmallM m) (hL:layoutP m.sorts m.tables=true) (h1:x.delta.length≤1000) (h2:x.updates.length≤1000) (h3:x.hold.length≤1000) (h4:∀ r∈x.hold,r.terms.length≤1000):ref13_effect n m x=some (effP m (rangesP m.sorts true m.tables).length x):=by
 have htl:=hS.tables;have hsl:=hS.sorts;have hcs:∀ t∈m.tables,t.columns.length≤1000∧t.name.length≤4096:=λt ht=>by have:=hS.tab t ht;omega
 unfold ref13_effect ref13_strict;rw [ref09_Ranges_eq hn (by omega) (by omega) hcs,hL,if_pos rfl];generalize rangesP m.sorts true m.tables=l;simp only [ya];have T3:loopF (ref13_effect.l3 n m x) n 0=some (updsP m (-1) x.updates&&(decide (x.hold.length≤8)&&decide (x.updates.length≤32))):=by
  have:=loopF_I (body:=ref13_effect.l3 n m x) (len:=x.updates.length) (st:=λ(_:Int) i=>(i:Int)) (g:=λi s=>some (updsP m s (x.updates.drop i)&&(decide (x.hold.length≤8)&&decide (x.updates.length≤32)))) (λi s=>-1≤s∧((i=0∧s = -1)∨(0<i∧∃ y,idx x.updates (sub64 (i:Int) 1)=some y∧y.cell=s))) (λrec i s hi hI hr=>?_) (λrec s _=>?_) n 0 (-1) (yv _) (by omega) ⟨by omega,.inl ⟨rfl,rfl⟩⟩
  ·simpa using this
  ·obtain ⟨h1,h2⟩:=hI;have hprev:(decide (0<(i:Int))&&decide (x.updates[i].cell≤((idx x.updates (sub64 (i:Int) 1)).getD default).cell))=(decide (0<i)&&decide (x.updates[i].cell≤s))∧(!(decide (0<(i:Int)))||(idx x.updates (sub64 (i:Int) 1)).isSome)=true:=by
    rcases h2 with ⟨h2,h3⟩ | ⟨h2,y,h3,h4⟩
    ·subst h2;simp
    ·rw [h3];simp [h4,h2]
   have hnext:(-1≤x.updates[i].cell)→rec ((i+1:Nat):Int)=some (updsP m x.updates[i].cell (x.updates.drop (i+1))&&(decide (x.hold.length≤8)&&decide (x.updates.length≤32))):=λh=>hr x.updates[i].cell ⟨h,.inr ⟨by omega,x.updates[i],by
     rw [sub64_1 (by omega) (by omega),show i+1 - 1=i by omega,idx_nat hi],rfl⟩⟩
   simp only [ref13_effect.l3,lt_len hi,if_true,idx_nat hi,ya,ref09_Tuple_eq (cell:=x.updates[i].cell) (s:=false) hn (show m.sorts.length≤1000 by omega) (show m.tables.length≤1000 by omega) hcs,hprev.1,hprev.2,yw,grd,ref13_set,add64_1 (i:=i) (by omega)];rw [drop_cons hi,updsP];unfold updP;cases hok:(cellP m.sorts m.tables false x.updates[i].cell).2.2 with
   | false=>simp
   | true=>
    obtain ⟨t,ht⟩:=cellP_idx hok;have hge:0≤x.updates[i].cell:=by
     by_cases h:x.updates[i].cell<0
     ·rw [cellP_neg h] at hok;cases hok
     ·omega
    have hasc:(decide (0<i)&&decide (x.updates[i].cell≤s)) = !decide (s<x.updates[i].cell):=by
     rw [← decide_not,← Bool.decide_and];refine decide_eq_decide.2 ?_;rcases h2 with ⟨h2,h3⟩ | ⟨h2,-⟩ <;> omega
    rw [hasc,hnext (by omega)];simp only [ht,y8,uh,ya,yf,yB];cases decide (s<x.updates[i].cell) with
    | false=>simp
    | true=>
     simp only [y8,yh,if_false,yB];unfold updT;by_cases hset:(t.kind==2||t.kind==3)=true
     ·rw [hset];simp only [if_true,yB,y8,y7,yh,if_false];cases hk0:(x.updates[i].kind==0) <;> cases hk1:(x.updates[i].kind==1) <;> cases hv:(x.updates[i].value==0) <;> simp [bne,hk0,hk1,hv]
     ·simp only [yE] at hset;rw [hset];simp only [y7,yh,if_false,uq,yB];have e1:decide (x.updates[i].value<t.range.lo) = !decide (t.range.lo≤x.updates[i].value):=by rw [← decide_not];exact decide_eq_decide.2 (by omega)
      have e2:decide (t.range.hi<x.updates[i].value) = !decide (x.updates[i].value≤t.range.hi):=by rw [← decide_not];exact decide_eq_decide.2 (by omega)
      rw [e1,e2];cases hk0:(x.updates[i].kind==2) <;> cases decide (t.range.lo≤x.updates[i].value) <;> cases decide (x.updates[i].value≤t.range.hi) <;> simp [bne,hk0]
  ·simp only [ref13_effect.l3,ge_len,yh,if_false,List.drop_length,updsP,yB,yg];congr 1
   ·exact decide_eq_decide.2 (by omega)
   ·exact decide_eq_decide.2 (by omega)
 have T2:loopF (ref13_effect.l2 n m x l) n 0=if x.hold.all (rowOK l.length)=true then some (updsP m (-1) x.updates&&(decide (x.hold.length≤8)&&decide (x.updates.length≤32))) else some false:=by
  have:=loopF_lall (body:=ref13_effect.l2 n m x l) (l:=x.hold) (n:=n) (st:=λi=>(i:Int)) (rowOK l.length) (some false) (some (updsP m (-1) x.updates&&(decide (x.hold.length≤8)&&decide (x.updates.length≤32)))) (λrec i hi=>?_) (λrec=>?_) (by omega)
  ·simpa using this
  ·simp only [ref13_effect.l2,lt_len hi,if_true,idx_nat hi,ya,ref_row_eq (show x.hold[i].terms.length<1000000 by have:=h4 _ (ym hi);omega) hn,add64_1 (i:=i) (by omega)];cases rowOK l.length x.hold[i] <;> simp
  ·simp only [ref13_effect.l2,ge_len,yh,if_false,T3]
 have:=loopF_I (body:=ref13_effect.l1 n m x l) (len:=x.delta.length) (st:=λ(_:Int) i=>(i:Int)) (g:=λi s=>some (deltaP l.length s (x.delta.drop i)&&(updsP m (-1) x.updates&&(decide (x.hold.length≤8)&&decide (x.updates.length≤32)&&x.hold.all (rowOK l.length))))) (λi s=>-1≤s∧((i=0∧s = -1)∨(0<i∧∃ y,idx x.delta (sub64 (i:Int) 1)=some y∧y.cell=s))) (λrec i s hi hI hr=>?_) (λrec s _=>?_) n 0 (-1) (yv _) (by omega) ⟨by omega,.inl ⟨rfl,rfl⟩⟩
 ·simpa [effP] using this
 ·obtain ⟨h1,h2⟩:=hI;have hprev:(decide (0<(i:Int))&&decide (x.delta[i].cell≤((idx x.delta (sub64 (i:Int) 1)).getD default).cell))=(decide (0<i)&&decide (x.delta[i].cell≤s))∧(!(decide (0<(i:Int)))||(idx x.delta (sub64 (i:Int) 1)).isSome)=true:=by
   rcases h2 with ⟨h2,h3⟩ | ⟨h2,y,h3,h4⟩
   ·subst h2;simp
   ·rw [h3];simp [h4,h2]
  simp only [ref13_effect.l1,lt_len hi,if_true,idx_nat hi,ya,between9,yj,yw,grd,yf,hprev.1,hprev.2,add64_1 (i:=i) (by omega)];rw [drop_cons hi,deltaP];by_cases h:(decide (s<x.delta[i].cell)&&decide (x.delta[i].cell<(l.length:Int))&&(x.delta[i].add != 0)&&aroundP x.delta[i].add 1000000000)=true
  ·rw [h,yB];simp only [yc,yd,bne_iff_ne] at h;rw [if_neg (by simp [h.2,h.1.2];omega),hr x.delta[i].cell ⟨by omega,.inr ⟨by omega,x.delta[i],by
    rw [sub64_1 (by omega) (by omega),show i+1 - 1=i by omega,idx_nat hi],rfl⟩⟩]
  ·rw [if_pos (by
    simp only [yc,yd,bne_iff_ne,ne_eq] at h;simp only [yy,yc,yd,beq_iff_eq,yA,← yE];by_cases ha:aroundP x.delta[i].add 1000000000=true
    ·left;simp only [ha,and_true] at h;rcases h2 with ⟨h2,h3⟩ | ⟨h2,-⟩ <;> omega
    ·exact .inr ha)]
   simp only [yE] at h;rw [h];rfl
 ·simp only [ref13_effect.l1,ge_len,yh,if_false,T2,List.drop_length,deltaP,yB];cases x.hold.all (rowOK l.length) <;> simp
def cmpP:List Int→List Int→Int
 | [],[]=>0
 | [],_::_=>-1
 | _::_,[]=>1
 | x::l,y::k=>if x<y then -1 else if y<x then 1 else cmpP l k
def lessP:List Int→List Int→Bool
 | [],[]=>false
 | [],_::_=>true
 | _::_,[]=>false
 | x::l,y::k=>if x=y then lessP l k else decide (x<y)
theorem cmp_less:∀ a b:List Int,decide (0≤cmpP a b) = !lessP a b
 | [],[]=>rfl
 | [],_::_=>rfl
 | _::_,[]=>rfl
 | x::l,y::k=>by
  simp only [cmpP,lessP];by_cases h:x=y
  ·subst h;simp [cmp_less l k]
  ·by_cases h2:x<y
   ·simp [h,h2]
   ·have:y<x:=by omega
    simp [h,h2,this]
theorem Compare_eq {n a b} (hl:a.length<1000000) (hn:1000000≤n):slices_Compare_Lint_int n a b=some (cmpP a b):=by
 have:=loopF_g (body:=slices_Compare_Lint_int.l1 n a b) (len:=a.length) (st:=λi=>(i:Int)) (g:=λi=>some (cmpP (a.drop i) (b.drop i))) (λrec i hi hr=>?_) (λrec=>?_) n 0 (yv _) (by omega)
 ·simpa [slices_Compare_Lint_int] using this
 ·simp only [slices_Compare_Lint_int.l1,lt_len hi,if_true,idx_nat hi,ya,add64_1 (i:=i) (by omega),hr];rw [drop_cons hi];by_cases hb:i<b.length
  ·rw [if_neg (by simp;omega),idx_nat hb,drop_cons hb];simp only [ya,cmp_Compare_int,cmp_isNaN_int,uO,yh,if_false,cmpP,yd];by_cases h1:a[i]<b[i]
   ·simp [h1]
   ·by_cases h2:b[i]<a[i]
    ·simp [h1,h2]
    ·simp [h1,h2]
  ·rw [if_pos (by simp;omega),show b.drop i=[] from List.drop_eq_nil_of_le (by omega)];rfl
 ·simp only [slices_Compare_Lint_int.l1,ge_len,yh,if_false,List.drop_length];by_cases hb:a.length<b.length
  ·rw [if_pos (by simpa using hb),drop_cons hb];rfl
  ·rw [if_neg (by simpa using hb),List.drop_eq_nil_of_le (by omega)];rfl
theorem ref_less_eq {n a b} (hl:a.length<1000000) (hn:1000000≤n):ref13_less n a b=some (lessP a b):=by
 have:=loopF_g (body:=ref13_less.l1 n a b) (len:=min a.length b.length) (st:=λi=>(i:Int)) (g:=λi=>some (lessP (a.drop i) (b.drop i))) (λrec i hi hr=>?_) (λrec=>?_) n 0 (yv _) (by omega)
 ·simpa [ref13_less] using this
 ·have ha:i<a.length:=by omega
  have hb:i<b.length:=by omega
  simp only [ref13_less.l1,lt_len ha,lt_len hb,uK,if_true,idx_nat ha,idx_nat hb,ya,add64_1 (i:=i) (by omega),hr];rw [drop_cons ha,drop_cons hb];by_cases h:a[i]=b[i]
  ·simp [h,lessP]
  ·simp [h,lessP]
 ·simp only [ref13_less.l1];rw [if_neg (by simp;omega)];by_cases ha:a.length≤b.length
  ·rw [Nat.min_eq_left ha,List.drop_length];by_cases hb:a.length<b.length
   ·rw [drop_cons hb];simp [lessP,hb]
   ·rw [List.drop_eq_nil_of_le (by omega)];simp [lessP];omega
  ·rw [Nat.min_eq_right (by omega),List.drop_length,drop_cons (by omega)];simp [lessP];omega
def argP (m:Model) (s x:Int):Bool:=(!decide (s<0)||aroundP x 9999)&&(!decide (0≤s)||(decide (0≤x)&&decide (x<(idx m.sorts s).getD default)))
def argsP (m:Model):List Int→List Int→Bool
 | s::l,x::k=>argP m s x&&argsP m l k
 | _,_=>true
def opAt (m:Model) (a:Action):Operation:=(idx m.operations a.operation).getD default
def ordP (b a:Action):Bool:=!decide (a.operation<b.operation)&&(!(b.operation==a.operation)||lessP b.arguments a.arguments)
def actP (m:Model) (K:Nat) (i:Nat) (a:Action):Bool:=
 (decide (0≤a.operation)&&decide (a.operation<(m.operations.length:Int)))&&(a.arguments.length==(opAt m a).sorts.length)&&argsP m (opAt m a).sorts a.arguments&&(decide (i=0)||ordP ((idx m.actions ((i - 1:Nat):Int)).getD default) a)&&effP m K a.effect
def actsP (m:Model) (K:Nat):Bool:=decide (m.actions.length≤256)&&allR (λi=>actP m K i ((idx m.actions (i:Int)).getD default)) 0 m.actions.length
theorem argsP_drop {m} {s x:List Int} {k:Nat} (h1:k<s.length) (h2:k<x.length):argsP m (s.drop k) (x.drop k)=(argP m s[k] x[k]&&argsP m (s.drop (k+1)) (x.drop (k+1))):=by
 rw [drop_cons h1,drop_cons h2];rfl
theorem opAt_idx {m a} (h:(decide (0≤a.operation)&&decide (a.operation<(m.operations.length:Int)))=true):idx m.operations a.operation=some (opAt m a)∧opAt m a∈m.operations:=by
 simp only [yc,yd] at h;obtain ⟨o,ho⟩:=idx_some h.1 h.2;refine ⟨by rw [ho,opAt,ho];rfl,?_⟩;rw [opAt,ho];exact idx_mem ho
theorem idx_sort {m:Model} {s:Int} (h0:0≤s) (h:s<(m.sorts.length:Int)):idx m.sorts s=some ((idx m.sorts s).getD default):=by
 obtain ⟨x,hx⟩:=idx_some h0 h;rw [hx];rfl
theorem opsP_sorts {m} (h:opsP m=true):∀ o∈m.operations,o.sorts.length≤3∧∀ s∈o.sorts,-1≤s∧s<(m.sorts.length:Int):=by
 simp only [opsP,yc,yo] at h;intro o ho;have:=h.1 o ho;simp only [opP,yc,yd,yo] at this;exact this
theorem ord_model {b a}:((decide (a.operation<b.operation))||((b.operation==a.operation)&&(decide (0≤cmpP b.arguments a.arguments)))) = !ordP b a:=by
 rw [cmp_less];unfold ordP;cases decide (a.operation<b.operation) <;> cases (b.operation==a.operation) <;> cases lessP b.arguments a.arguments <;> rfl
theorem ord_ref {b a}:((decide (a.operation<b.operation))||((b.operation==a.operation)&&(!lessP b.arguments a.arguments))) = !ordP b a:=by
 unfold ordP;cases decide (a.operation<b.operation) <;> cases (b.operation==a.operation) <;> cases lessP b.arguments a.arguments <;> rfl
theorem model_actions_eq {n:Nat} {m} {l:List Range} (hF:Fuel n) (hS:SmallM m) (hO:opsP m=true):model_judge_actions n ⟨m,l⟩=some (actsP m l.length):=by
 have hn:=hF.big;have hal:=hS.actions;unfold model_judge_actions actsP;by_cases h0:m.actions.length≤256
 ·rw [if_neg (by simp;omega),decide_eq_true h0,yB];have:=loopF_all (body:=model_judge_actions.l1 n ⟨m,l⟩) (len:=m.actions.length) (n:=n) (st:=λi=>(i:Int)) (λi=>actP m l.length i ((idx m.actions (i:Int)).getD default)) (some false) (some true) (λrec i hi=>?_) (λrec=>?_) (by omega)
  ·simp only [Int.natCast_zero] at this;rw [this];cases allR (λi=>actP m l.length i ((idx m.actions (i:Int)).getD default)) 0 m.actions.length <;> rfl
  ·have hmem:=ym hi;obtain ⟨a1,a2,a3,a4,a5⟩:=hS.act _ hmem;simp only [model_judge_actions.l1,lt_len hi,if_true,idx_nat hi,ya,model_index,yf];unfold actP;cases hop:(decide (0≤m.actions[i].operation)&&decide (m.actions[i].operation<(m.operations.length:Int))) with
   | false=>simp [grd]
   | true=>
    obtain ⟨ho,hom⟩:=opAt_idx hop;obtain ⟨o1,o2⟩:=opsP_sorts hO _ hom;simp only [ho,yj,yw,grd,if_true,yf,y8,uh,yB,ya];by_cases hlen:m.actions[i].arguments.length=(opAt m m.actions[i]).sorts.length
    ·rw [if_neg (by simp [hlen])];have hle:(m.actions[i].arguments.length==(opAt m m.actions[i]).sorts.length)=true:=by simp [hlen]
     rw [hle,yB];have inner:=loopF_g (body:=model_judge_actions.l2 n ⟨m,l⟩ i rec m.actions[i] (opAt m m.actions[i])) (len:=(opAt m m.actions[i]).sorts.length) (st:=λk=>(k:Int)) (g:=λk=>if argsP m ((opAt m m.actions[i]).sorts.drop k) (m.actions[i].arguments.drop k)=true then (if ((decide (i=0)||ordP ((idx m.actions ((i - 1:Nat):Int)).getD default) m.actions[i])&&effP m l.length m.actions[i].effect)=true then rec ((i+1:Nat):Int) else some false) else some false) (λrec' k hk hr'=>?_) (λrec'=>?_) n 0 (yv _) (by omega)
     ·simp only [Int.natCast_zero,List.drop_zero] at inner;rw [inner];cases argsP m (opAt m m.actions[i]).sorts m.actions[i].arguments <;> simp
     ·have hk2:k<m.actions[i].arguments.length:=by omega
      have hs2:=o2 _ (ym hk);simp only [model_judge_actions.l2,lt_len hk,if_true,idx_nat hk,idx_nat hk2,ya,around4,yj,yw,grd,yf,add64_1 (i:=k) (by omega),hr',model_index];rw [argsP_drop hk hk2];unfold argP;by_cases hneg:(opAt m m.actions[i]).sorts[k]<0
      ·have hd1:decide ((opAt m m.actions[i]).sorts[k]<0)=true:=by simp [hneg]
       have hd2:decide (0≤(opAt m m.actions[i]).sorts[k])=false:=by simp;omega
       rw [hd1,hd2];cases aroundP m.actions[i].arguments[k] 9999 <;> simp
      ·have hd1:decide ((opAt m m.actions[i]).sorts[k]<0)=false:=by simp;omega
       have hd2:decide (0≤(opAt m m.actions[i]).sorts[k])=true:=by simp;omega
       obtain ⟨z,hz⟩:=idx_some (l:=m.sorts) (i:=(opAt m m.actions[i]).sorts[k]) (by omega) hs2.2;rw [hz,hd1,hd2];by_cases h1:0≤m.actions[i].arguments[k]
       ·by_cases h2:m.actions[i].arguments[k]<z
        ·have h2':¬ z≤m.actions[i].arguments[k]:=by omega
         simp [h1,h2,h2']
        ·have h2':z≤m.actions[i].arguments[k]:=by omega
         simp [h1,h2,h2']
       ·simp [h1]
     ·simp only [model_judge_actions.l2,ge_len,yh,if_false,jn,List.drop_length];rw [model_effect_eq hF hS (by omega) (by omega) (by omega) (λr hr=>by have:=a5 r hr;omega)];simp only [ya,add64_1 (i:=i) (by omega)];have hargs:argsP m [] (m.actions[i].arguments.drop (opAt m m.actions[i]).sorts.length)=true:=rfl;rw [hargs,if_pos rfl];by_cases h0i:i=0
      ·subst h0i;rw [if_neg (by simp)];cases effP m l.length m.actions[0].effect <;> simp
      ·rw [if_pos (by simp;omega),sub64_1 (by omega) (by omega)];have hi1:i - 1<m.actions.length:=by omega
       have b1:=(hS.act _ (ym hi1)).1;simp only [idx_nat hi1,ya,ord_model,yf,Compare_eq (a:=m.actions[i - 1].arguments) (b:=m.actions[i].arguments) (show m.actions[i - 1].arguments.length<1000000 by omega) (show 1000000≤n by omega),yj,yw,if_true,h0i,decide_false,uh];cases ordP m.actions[i - 1] m.actions[i] <;> cases effP m l.length m.actions[i].effect <;> simp [grd]
    ·rw [if_pos (by simp;omega)];have hle:(m.actions[i].arguments.length==(opAt m m.actions[i]).sorts.length)=false:=by simp [hlen]
     rw [hle];simp
  ·simp [model_judge_actions.l1]
 ·rw [if_pos (by simp;omega),decide_eq_false h0,y7]
theorem ref13_actions_eq {n:Nat} {m:Model} (hn:1000000≤n) (hS:SmallM m) (hL:layoutP m.sorts m.tables=true):ref13_actions n m=some (opsP m&&actsP m (rangesP m.sorts true m.tables).length):=by
 have hal:=hS.actions;have hol:=hS.operations;have hef:∀ a∈m.actions,ref13_effect n m a.effect=some (effP m (rangesP m.sorts true m.tables).length a.effect):=λa ha=>by
  obtain ⟨a1,a2,a3,a4,a5⟩:=hS.act _ ha;exact ref_effect_eq hn hS hL (by omega) (by omega) (by omega) (λr hr=>by have:=a5 r hr;omega)
 generalize (rangesP m.sorts true m.tables).length=K at hef;have T:opsP m=true→loopF (ref13_actions.l3 n m) n 0=some (allR (λi=>actP m K i ((idx m.actions (i:Int)).getD default)) 0 m.actions.length):=λhO=>by
  have:=loopF_all (body:=ref13_actions.l3 n m) (len:=m.actions.length) (n:=n) (st:=λi=>(i:Int)) (λi=>actP m K i ((idx m.actions (i:Int)).getD default)) (some false) (some true) (λrec i hi=>?_) (λrec=>?_) (by omega)
  ·simp only [Int.natCast_zero] at this;rw [this];cases allR (λi=>actP m K i ((idx m.actions (i:Int)).getD default)) 0 m.actions.length <;> rfl
  ·have hmem:=ym hi;obtain ⟨a1,a2,a3,a4,a5⟩:=hS.act _ hmem;simp only [ref13_actions.l3,lt_len hi,if_true,idx_nat hi,ya,yf];have hneg:(decide (m.actions[i].operation<0)||decide ((m.operations.length:Int)≤m.actions[i].operation)) = !(decide (0≤m.actions[i].operation)&&decide (m.actions[i].operation<(m.operations.length:Int))):=by
    rw [Bool.not_and,← decide_not,← decide_not];congr 1
    ·exact decide_eq_decide.2 (by omega)
    ·exact decide_eq_decide.2 (by omega)
   rw [hneg];unfold actP;cases hop:(decide (0≤m.actions[i].operation)&&decide (m.actions[i].operation<(m.operations.length:Int))) with
   | false=>simp [grd]
   | true=>
    obtain ⟨ho,hom⟩:=opAt_idx hop;obtain ⟨o1,o2⟩:=opsP_sorts hO _ hom;simp only [ho,yj,yw,grd,if_true,yf,y8,uh,yB];by_cases hlen:m.actions[i].arguments.length=(opAt m m.actions[i]).sorts.length
    ·rw [if_neg (by simp [hlen])];have hle:(m.actions[i].arguments.length==(opAt m m.actions[i]).sorts.length)=true:=by simp [hlen]
     rw [hle,yB];have inner:=loopF_g (body:=ref13_actions.l4 n m i rec m.actions[i]) (len:=m.actions[i].arguments.length) (st:=λk=>(k:Int)) (g:=λk=>if argsP m ((opAt m m.actions[i]).sorts.drop k) (m.actions[i].arguments.drop k)=true then (if ((decide (i=0)||ordP ((idx m.actions ((i - 1:Nat):Int)).getD default) m.actions[i])&&effP m K m.actions[i].effect)=true then rec ((i+1:Nat):Int) else some false) else some false) (λrec' k hk2 hr'=>?_) (λrec'=>?_) n 0 (yv _) (by omega)
     ·simp only [Int.natCast_zero,List.drop_zero] at inner;rw [inner];cases argsP m (opAt m m.actions[i]).sorts m.actions[i].arguments <;> simp
     ·have hk:k<(opAt m m.actions[i]).sorts.length:=by omega
      have hs2:=o2 _ (ym hk);simp only [ref13_actions.l4,lt_len hk2,if_true,ho,idx_nat hk,idx_nat hk2,ya,between4,yj,yw,grd,yf,add64_1 (i:=k) (by omega),hr'];rw [argsP_drop hk hk2];unfold argP;by_cases hneg:(opAt m m.actions[i]).sorts[k]<0
      ·have hd1:decide ((opAt m m.actions[i]).sorts[k]<0)=true:=by simp [hneg]
       have hd2:decide (0≤(opAt m m.actions[i]).sorts[k])=false:=by simp;omega
       rw [hd1,hd2];cases aroundP m.actions[i].arguments[k] 9999 <;> simp
      ·have hd1:decide ((opAt m m.actions[i]).sorts[k]<0)=false:=by simp;omega
       have hd2:decide (0≤(opAt m m.actions[i]).sorts[k])=true:=by simp;omega
       rw [idx_sort (m:=m) (s:=(opAt m m.actions[i]).sorts[k]) (by omega) hs2.2,hd1,hd2];simp only [yf];generalize (idx m.sorts (opAt m m.actions[i]).sorts[k]).getD default=z;by_cases h1:m.actions[i].arguments[k]<0
       ·have h1':¬ 0≤m.actions[i].arguments[k]:=by omega
        simp [h1,h1']
       ·have h1':0≤m.actions[i].arguments[k]:=by omega
        by_cases h2:z≤m.actions[i].arguments[k]
        ·have h2':¬ m.actions[i].arguments[k]<z:=by omega
         simp [h1,h1',h2,h2']
        ·have h2':m.actions[i].arguments[k]<z:=by omega
         simp [h1,h1',h2,h2']
     ·simp only [ref13_actions.l4,ge_len,yh,if_false,jn,List.drop_length,hef _ hmem];simp only [ya,add64_1 (i:=i) (by omega)];have hargs:argsP m ((opAt m m.actions[i]).sorts.drop m.actions[i].arguments.length) []=true:=by cases (opAt m m.actions[i]).sorts.drop m.actions[i].arguments.length <;> rfl
      rw [hargs,if_pos rfl];by_cases h0i:i=0
      ·subst h0i;rw [if_neg (by simp)];cases effP m K m.actions[0].effect <;> simp
      ·rw [if_pos (by simp;omega),sub64_1 (by omega) (by omega)];have hi1:i - 1<m.actions.length:=by omega
       have b1:=(hS.act _ (ym hi1)).1;simp only [idx_nat hi1,ya,ord_ref,yf,ref_less_eq (a:=m.actions[i - 1].arguments) (b:=m.actions[i].arguments) (show m.actions[i - 1].arguments.length<1000000 by omega) (show 1000000≤n by omega),yj,yw,if_true,h0i,decide_false,uh];cases ordP m.actions[i - 1] m.actions[i] <;> cases effP m K m.actions[i].effect <;> simp [grd]
    ·rw [if_pos (by simp;omega)];have hle:(m.actions[i].arguments.length==(opAt m m.actions[i]).sorts.length)=false:=by simp [hlen]
     rw [hle];simp
  ·simp [ref13_actions.l3]
 unfold ref13_actions;have:=loopF_lall (body:=ref13_actions.l1 n m) (l:=m.operations) (n:=n) (st:=λi=>((m.operations.take i).map (·.name),(i:Int))) (opP m) (some false) (if (decide (m.operations.length≤8)&&distP [] (m.operations.map (·.name))&&decide (m.actions.length≤256))=true then loopF (ref13_actions.l3 n m) n 0 else some false) (λrec i hi=>?_) (λrec=>?_) (by omega)
 ·simp only [List.take_zero,List.map_nil,Int.natCast_zero] at this;rw [this];unfold actsP;cases hO:opsP m with
  | true=>
   have hO':=hO;simp only [opsP,yc] at hO';rw [hO'.1,hO'.2.1,hO'.2.2,T hO];cases decide (m.actions.length≤256) <;> rfl
  | false=>
   unfold opsP at hO;cases h1:m.operations.all (opP m) with
   | false=>simp
   | true=>
    rw [h1,yB] at hO;rw [hO];simp
 ·have hop:=hS.op _ (ym hi);simp only [ref13_actions.l1,lt_len hi,if_true,idx_nat hi,ya];rw [app_some (by simp;omega),ya,map_take_snoc hi];generalize hX:(m.operations.take (i+1)).map (·.name)=X;have inner:=loopF_lall (body:=ref13_actions.l2 n m i rec m.operations[i] X) (l:=m.operations[i].sorts) (n:=n) (st:=λk=>(k:Int)) (λs=>decide (-1≤s)&&decide (s<(m.sorts.length:Int))) (some false) (if decide (m.operations[i].sorts.length≤3)=true then rec (X,((i+1:Nat):Int)) else some false) (λrec' k hk=>?_) (λrec'=>?_) (by omega)
  ·simp only [Int.natCast_zero] at inner;rw [inner];unfold opP;cases decide (m.operations[i].sorts.length≤3) <;> cases (m.operations[i].sorts.all λs=>decide (-1≤s)&&decide (s<(m.sorts.length:Int))) <;> simp
  ·simp only [ref13_actions.l2,lt_len hk,if_true,idx_nat hk,ya,yj,yw,grd,yf,add64_1 (i:=k) (by omega)];have e1:decide (m.operations[i].sorts[k] < -1) = !decide (-1≤m.operations[i].sorts[k]):=by rw [← decide_not];exact decide_eq_decide.2 (by omega)
   have e2:decide ((m.sorts.length:Int)≤m.operations[i].sorts[k]) = !decide (m.operations[i].sorts[k]<(m.sorts.length:Int)):=by rw [← decide_not];exact decide_eq_decide.2 (by omega)
   rw [e1,e2];cases decide (-1≤m.operations[i].sorts[k]) <;> cases decide (m.operations[i].sorts[k]<(m.sorts.length:Int)) <;> simp
  ·simp only [ref13_actions.l2,ge_len,yh,if_false,add64_1 (i:=i) (by omega)];by_cases h3:m.operations[i].sorts.length≤3
   ·rw [if_neg (by simp;omega),if_pos (by simp [h3])]
   ·rw [if_pos (by simp;omega),if_neg (by simp [h3])]
 ·simp only [ref13_actions.l1,ge_len,yh,if_false,List.take_length];rw [ref13_distinct_eq hn (by simp;omega) (λw hw=>by
   simp only [yV] at hw;obtain ⟨o,ho,rfl⟩:=hw;have:=(hS.op o ho).1;omega)]
  simp only [yj,yw,grd,if_true,yf];have e1:decide (8<(m.operations.length:Int)) = !decide (m.operations.length≤8):=by rw [← decide_not];exact decide_eq_decide.2 (by omega)
  have e2:decide (256<(m.actions.length:Int)) = !decide (m.actions.length≤256):=by rw [← decide_not];exact decide_eq_decide.2 (by omega)
  rw [e1,e2];cases decide (m.operations.length≤8) <;> cases distP [] (m.operations.map (·.name)) <;> cases decide (m.actions.length≤256) <;> simp
def leadsP (hs:List Hide):Nat→Int→Int→Bool
 | 0,a,b=>a==b
 | k+1,a,b=>a==b||hs.any λh=>h.table==a&&leadsP hs k h.to b
def hideP (m:Model) (h:Hide):Bool:=
 (((decide (0≤h.table)&&decide (h.table<(m.tables.length:Int)))&&(decide (0≤h.to)&&decide (h.to<(m.tables.length:Int))))&&(h.table != h.to)) &&
 (((((idx m.tables h.table).getD default).kind==0)&&(((idx m.tables h.to).getD default).kind==0))&&((decide (0≤h.column)&&decide (h.column<(((idx m.tables h.table).getD default).columns.length:Int)))&&(((((idx m.tables h.to).getD default).columns.length:Int)==1)&&((idx ((idx m.tables h.to).getD default).columns 0).getD default==(idx ((idx m.tables h.table).getD default).columns h.column).getD default))))
def hidesP (m:Model):Bool:=decide (m.hides.length≤12)&&(m.hides.all (hideP m)&&m.hides.all λh=>!leadsP m.hides m.tables.length h.to h.table)
theorem leads_loop {m n self a b k} (hl:m.hides.length<n) (hl2:m.hides.length<1000000) (hk:k+1<1000000) (hself:∀ x,self m x b (k:Int)=some (leadsP m.hides k x b)) :
  loopF (ref13_leads.l1 n self m a b ((k+1:Nat):Int)) n 0=some (m.hides.any λh=>h.table==a&&leadsP m.hides k h.to b):=by
 have:=loopF_g (body:=ref13_leads.l1 n self m a b ((k+1:Nat):Int)) (len:=m.hides.length) (st:=λi=>(i:Int)) (g:=λi=>some ((m.hides.drop i).any λh=>h.table==a&&leadsP m.hides k h.to b)) (λrec i hi hr=>?_) (λrec=>?_) n 0 (yv _) (by omega)
 ·simpa using this
 ·have h0:decide (0<((k+1:Nat):Int))=true:=by simp
  have hsub:sub64 ((k+1:Nat):Int) 1=(k:Int):=by rw [sub64_1 (by omega) (by omega)];simp
  simp only [ref13_leads.l1,lt_len hi,h0,uK,if_true,idx_nat hi,ya,yj,yw,grd,yf,hsub,hself,add64_1 (i:=i) (by omega),hr];rw [drop_cons hi,List.any_cons];cases (m.hides[i].table==a&&leadsP m.hides k m.hides[i].to b) <;> simp
 ·simp [ref13_leads.l1]
theorem ref_leads {m} (hl:m.hides.length<1000000):∀ (k n:Nat) (a b:Int),k<1000000→1000000+k<n→ref13_leads n m a b (k:Int)=some (leadsP m.hides k a b)
 | 0,0,_,_,_,h=>by omega
 | 0,n+1,a,b,_,h=>by
  simp only [ref13_leads,ref13_leads.body,leadsP];by_cases e:a=b
  ·simp [e]
  ·rw [if_neg (by simpa using e)];have hh:(a==b)=false:=by simpa using e
   rw [loopF_1 (by omega),hh];simp [ref13_leads.l1]
 | k+1,0,_,_,_,h=>by omega
 | k+1,n+1,a,b,hk,h=>by
  simp only [ref13_leads,ref13_leads.body,leadsP];by_cases e:a=b
  ·simp [e]
  ·rw [if_neg (by simpa using e),leads_loop (by omega) hl hk λx=>ref_leads hl k n x b (by omega) (by omega)];have hh:(a==b)=false:=by simpa using e
   rw [hh,uh]
theorem hide_idx {m:Model} {h:Hide} (h0:0≤h.table∧h.table<(m.tables.length:Int)) (h1:0≤h.to∧h.to<(m.tables.length:Int)):∃ t u,idx m.tables h.table=some t∧idx m.tables h.to=some u:=by
 obtain ⟨t,ht⟩:=idx_some h0.1 h0.2;obtain ⟨u,hu⟩:=idx_some h1.1 h1.2;exact ⟨t,u,ht,hu⟩
theorem ref13_hidden_eq {n:Nat} {m:Model} (hn:4294967296≤n) (hS:SmallM m):ref13_hidden n m=some (hidesP m):=by
 have hhl:=hS.hides;have htl:=hS.tables;unfold ref13_hidden hidesP;rw [if_neg (by simp;omega),decide_eq_true hhl,yB];have T:loopF (ref13_hidden.l2 n m) n 0=some (m.hides.all λh=>!leadsP m.hides m.tables.length h.to h.table):=by
  have:=loopF_lall (body:=ref13_hidden.l2 n m) (l:=m.hides) (n:=n) (st:=λi=>(i:Int)) (λh=>!leadsP m.hides m.tables.length h.to h.table) (some false) (some true) (λrec i hi=>?_) (λrec=>?_) (by omega)
  ·simp only [Int.natCast_zero] at this;rw [this];cases (m.hides.all λh=>!leadsP m.hides m.tables.length h.to h.table) <;> rfl
  ·simp only [ref13_hidden.l2,lt_len hi,if_true,idx_nat hi,ya,ref_leads (m:=m) (by omega) m.tables.length n m.hides[i].to m.hides[i].table (by omega) (by omega),add64_1 (i:=i) (by omega)];cases leadsP m.hides m.tables.length m.hides[i].to m.hides[i].table <;> simp
  ·simp [ref13_hidden.l2]
 have:=loopF_lall (body:=ref13_hidden.l1 n m) (l:=m.hides) (n:=n) (st:=λi=>(i:Int)) (hideP m) (some false) (some (m.hides.all λh=>!leadsP m.hides m.tables.length h.to h.table)) (λrec i hi=>?_) (λrec=>?_) (by omega)
 ·simp only [Int.natCast_zero] at this;rw [this];cases m.hides.all (hideP m) <;> simp
 ·simp only [ref13_hidden.l1,lt_len hi,if_true,idx_nat hi,ya,add64_1 (i:=i) (by omega)];generalize m.hides[i]=h;by_cases hb:(((0≤h.table∧h.table<(m.tables.length:Int))∧(0≤h.to∧h.to<(m.tables.length:Int)))∧h.table≠h.to)
  ·rw [if_neg (by simp;omega)];obtain ⟨t,u,ht,hu⟩:=hide_idx hb.1.1 hb.1.2;have hhp:hideP m h=(((t.kind==0)&&(u.kind==0))&&((decide (0≤h.column)&&decide (h.column<(t.columns.length:Int)))&&(((u.columns.length:Int)==1)&&((idx u.columns 0).getD default==(idx t.columns h.column).getD default)))):=by
    unfold hideP;rw [ht,hu];simp [hb]
   simp only [ht,hu,ya];rw [hhp];by_cases hk:(((t.kind==0)&&(u.kind==0))&&((decide (0≤h.column)&&decide (h.column<(t.columns.length:Int)))&&((u.columns.length:Int)==1)))=true
   ·have hk':=hk;simp only [yc,yd,beq_iff_eq] at hk';obtain ⟨⟨k1,k2⟩,⟨k3,k4⟩,k5⟩:=hk';obtain ⟨x,hx⟩:=idx_some (l:=u.columns) (i:=0) (by omega) (by omega);obtain ⟨y,hy⟩:=idx_some k3 k4;have n1:¬ h.column<0:=by omega
    have n2:¬ (t.columns.length:Int)≤h.column:=by omega
    simp only [k1,k2,k3,k4,k5,n1,n2,hx,hy,yf,decide_true,decide_false,uJ,uO,yj,yw,Bool.or_false,yB,grd,if_true];by_cases hxy:x=y
    ·simp [hxy]
    ·simp [hxy]
   ·have hf:(((((t.kind != 0)||(u.kind != 0))||(decide (h.column<0)))||(decide ((t.columns.length:Int)≤h.column)))||((u.columns.length:Int) != 1))=true:=by
     simp only [yc,yd,beq_iff_eq] at hk;simp only [yy,bne_iff_ne,yd];omega
    simp only [hf,uN,grd,if_true];rw [← Bool.and_assoc (decide (0≤h.column)&&decide (h.column<(t.columns.length:Int))),← Bool.and_assoc];simp only [yE] at hk;rw [hk];rfl
  ·rw [if_pos (by simp;omega)];have hhp:hideP m h=false:=by
    unfold hideP;cases hx:(((decide (0≤h.table)&&decide (h.table<(m.tables.length:Int)))&&(decide (0≤h.to)&&decide (h.to<(m.tables.length:Int))))&&(h.table != h.to)) with
    | false=>rfl
    | true=>
     simp only [yc,yd,bne_iff_ne] at hx;exact absurd hx hb
   rw [hhp];rfl
 ·simp only [ref13_hidden.l1,ge_len,yh,if_false,T]
theorem nodup_len:∀ (T:Nat) (l:List Int),l.Nodup→(∀ x∈l,0≤x∧x<(T:Int))→l.length≤T
 | 0,l,_,h=>by
  cases l with
  | nil=>simp
  | cons x l=>have:=h x (by simp);omega
 | T+1,l,hn,h=>by
  by_cases hm:(T:Int)∈l
  ·have h1:=nodup_len T (l.erase (T:Int)) (hn.erase _) (λx hx=>by
    have:=(hn.mem_erase_iff).1 hx;have:=h x this.2;omega)
   rw [List.length_erase_of_mem hm] at h1;omega
  ·have:=nodup_len T l hn (λx hx=>by
    have:=h x hx;have:x≠(T:Int):=λe=>hm (e▸hx)
    omega)
   omega
theorem leadsP_mono {hs}:∀ {k:Nat} {a b:Int},leadsP hs k a b=true→leadsP hs (k+1) a b=true
 | 0,a,b,h=>by
  simp only [leadsP] at h;simp only [leadsP,h,uN]
 | k+1,a,b,h=>by
  rw [leadsP] at h ⊢;simp only [yy,un,yc] at h ⊢;rcases h with h | ⟨x,hx,h1,h2⟩
  ·exact .inl h
  ·exact .inr ⟨x,hx,h1,leadsP_mono h2⟩
theorem leadsP_le {hs k j a b} (h:leadsP hs k a b=true) (hkj:k≤j):leadsP hs j a b=true:=by
 obtain ⟨d,rfl⟩:=Nat.exists_eq_add_of_le hkj;clear hkj
 induction d with
 | zero=>exact h
 | succ d ih=>exact leadsP_mono ih
theorem leadsP_refl {hs k a}:leadsP hs k a a=true:=by cases k <;> simp [leadsP]
theorem leadsP_snoc {hs h} (hh:h∈hs):∀ {k:Nat} {a:Int},leadsP hs k a h.table=true→leadsP hs (k+1) a h.to=true
 | 0,a,e=>by
  simp only [leadsP,beq_iff_eq] at e;simp only [leadsP,yy,un,yc,beq_iff_eq];exact .inr ⟨h,hh,e.symm,rfl⟩
 | k+1,a,e=>by
  rw [leadsP] at e ⊢;simp only [yy,un,yc,beq_iff_eq] at e ⊢;rcases e with e | ⟨x,hx,h1,h2⟩
  ·exact .inr ⟨h,hh,e.symm,leadsP_refl⟩
  ·exact .inr ⟨x,hx,h1,leadsP_snoc hh h2⟩
def walkP (f:Int→Hide) (s:Int):Nat→Int
 | 0=>s
 | k+1=>(f (walkP f s k)).to
theorem sink_ex {hs:List Hide} {T:Nat} {S:List Int} (hS:S≠[]) (hb:∀ t∈S,0≤t∧t<(T:Int)) (hac:∀ h∈hs,leadsP hs T h.to h.table=false):∃ t∈S,∀ h∈hs,¬ (h.table=t∧h.to∈S):=by
 apply Classical.byContradiction;intro hno;have hedge:∀ t,t∈S→∃ h,h∈hs∧h.table=t∧h.to∈S:=λt ht=>by
  apply Classical.byContradiction;intro hn;exact hno ⟨t,ht,λh hh he=>hn ⟨h,hh,he.1,he.2⟩⟩
 obtain ⟨s,hs0⟩:∃ s,s∈S:=by
  cases S with
  | nil=>exact absurd rfl hS
  | cons x l=>exact ⟨x,by simp⟩
 obtain ⟨f,hf⟩:∃ f:Int→Hide,∀ t,t∈S→f t∈hs∧(f t).table=t∧(f t).to∈S:=by
  refine ⟨λt=>if ht:t∈S then Classical.choose (hedge t ht) else default,λt ht=>?_⟩;simp only [ht,dite_true];exact Classical.choose_spec (hedge t ht)
 have hw:∀ k,walkP f s k∈S:=λk=>by
  induction k with
  | zero=>exact hs0
  | succ k ih=>exact (hf _ ih).2.2
 have hlead:∀ d i,leadsP hs d (walkP f s i) (walkP f s (i+d))=true:=λd=>by
  induction d with
  | zero=>intro i;exact leadsP_refl
  | succ d ih=>
   intro i;simp only [leadsP,yy,un,yc,beq_iff_eq];refine .inr ⟨f (walkP f s i),(hf _ (hw i)).1,(hf _ (hw i)).2.1,?_⟩;have:=ih (i+1);rw [show i+1+d=i+(d+1) by omega] at this;exact this
 have hne:∀ i j,i<j→j≤T→walkP f s i≠walkP f s j:=λi j hij hj e=>by
  have h1:=hlead (j - i - 1) (i+1);rw [show i+1+(j - i - 1)=j by omega,← e] at h1;have h2:=hac _ (hf _ (hw i)).1;rw [(hf _ (hw i)).2.1] at h2;have h3:leadsP hs T (f (walkP f s i)).to (walkP f s i)=true:=leadsP_le h1 (by omega);rw [h3] at h2;cases h2
 have hlen:=nodup_len T ((List.range (T+1)).map (walkP f s)) (by
  rw [List.Nodup,List.pairwise_map];exact List.Pairwise.imp_of_mem (λ{a b} _ hb hab=>hne a b hab (by have:=yS.1 hb;omega)) List.pairwise_lt_range) (λx hx=>by
  simp only [yV] at hx;obtain ⟨k,-,rfl⟩:=hx;exact hb _ (hw k))
 simp at hlen;omega
def keysOf (m:GMap Int Bool):List Int:=m.es.map λe=>e.2.1
structure WfM (m:GMap Int Bool):Prop where
 tru:∀ e∈m.es,e.2.2=true
 nd:(m.es.map (·.1)).Nodup
 lt:∀ e∈m.es,e.1<m.clock
theorem WfM.get {m} (h:WfM m) (k):(m.get? k).getD false=decide (k∈keysOf m):=by
 unfold GMap.get?;rw [findK_get k m.es h.tru];rfl
theorem WfM.empty:WfM (GMap.empty:GMap Int Bool):=⟨λe he=>(by simp [GMap.empty] at he),by simp [GMap.empty],λe he=>(by simp [GMap.empty] at he)⟩
theorem findK_at (k):∀ (es:List (Nat×Int×Bool)) (p:Nat×Bool),findK k es=some p→∃ h:p.1<es.length,es[p.1].2.1=k
 | [],_,h=>by simp [findK] at h
 | e::es,p,h=>by
  simp only [findK] at h;split at h
  ·rename_i hk;cases h;exact ⟨by simp,hk.symm⟩
  ·simp only [Option.map_eq_some_iff] at h;obtain ⟨q,h1,rfl⟩:=h;obtain ⟨h2,h3⟩:=findK_at k es q h1;exact ⟨by simp only [yN];omega,by simpa using h3⟩
theorem modify_births (f) (hf:∀ e,(f e).1=e.1):∀ (es:List (Nat×Int×Bool)) (i:Nat),(es.modify i f).map (·.1)=es.map (·.1)
 | [],_=>by simp
 | e::es,0=>by simp [hf]
 | e::es,i+1=>by simp [modify_births f hf es i]
theorem WfM.put {m} (h:WfM m) (k):WfM (m.put k true)∧(m.put k true).es.length≤m.es.length+1∧∀ t,t∈keysOf (m.put k true)↔t∈keysOf m∨t=k:=by
 unfold GMap.put keysOf;cases hk:findK k m.es with
 | none=>
  simp only [];refine ⟨⟨λe he=>?_,?_,λe he=>?_⟩,by simp,λt=>by simp⟩
  ·simp only [yG,yL] at he;rcases he with he | rfl
   ·exact h.tru e he
   ·rfl
  ·simp only [ur,yP,List.map_nil];rw [List.nodup_append];refine ⟨h.nd,by simp,λa ha b hb=>?_⟩;simp only [yL] at hb;subst hb;simp only [yV] at ha;obtain ⟨e,he,rfl⟩:=ha;have:=h.lt e he;omega
  ·simp only [yG,yL] at he;rcases he with he | rfl
   ·have:=h.lt e he;simp only [];omega
   ·simp
 | some p=>
  obtain ⟨i,b⟩:=p;simp only [];have hb:=modify_births (λe:Nat×Int×Bool=>(e.1,e.2.1,true)) (λe=>rfl) m.es i;refine ⟨⟨modify_all (p:=λe=>e.2.2=true) _ (λe=>rfl) m.es i h.tru,by rw [hb];exact h.nd,λe he=>?_⟩,by simp,λt=>?_⟩
  ·have:e.1∈m.es.map (·.1):=by rw [← hb];exact List.mem_map_of_mem he
   simp only [yV] at this;obtain ⟨x,hx,e1⟩:=this;have:=h.lt x hx;simp only [];omega
  ·rw [modify_keys (λe:Nat×Int×Bool=>(e.1,e.2.1,true)) (λe=>rfl) m.es i];constructor
   ·exact .inl
   ·rintro (h1 | rfl)
    ·exact h1
    ·exact findK_yes _ m.es _ hk
theorem WfM.del {m} (h:WfM m) {e} (he:e∈m.es):WfM (m.del e.2.1)∧(m.del e.2.1).clock=m.clock∧(m.del e.2.1).es.length+1=m.es.length∧(m.del e.2.1).es.Sublist m.es∧∀ t,t∈keysOf m→t≠e.2.1→t∈keysOf (m.del e.2.1):=by
 unfold GMap.del keysOf;cases hk:findK e.2.1 m.es with
 | none=>exact absurd (List.mem_map_of_mem (f:=λe:Nat×Int×Bool=>e.2.1) he) (findK_no _ m.es hk)
 | some p=>
  obtain ⟨i,b⟩:=p;obtain ⟨hi,hik⟩:=findK_at _ m.es _ hk;simp only [] at hi hik ⊢;have hsub:=List.eraseIdx_sublist m.es i;refine ⟨⟨λx hx=>h.tru x (hsub.subset hx),(hsub.map _).nodup h.nd,λx hx=>h.lt x (hsub.subset hx)⟩,trivial,?_,hsub,λt ht hne=>?_⟩
  ·rw [List.length_eraseIdx_of_lt hi];omega
  ·simp only [yV] at ht ⊢;obtain ⟨x,hx,rfl⟩:=ht;obtain ⟨j,hj,rfl⟩:=List.mem_iff_getElem.1 hx;refine ⟨_,?_,rfl⟩;rw [List.mem_eraseIdx_iff_getElem];refine ⟨j,hj,λe1=>hne ?_,rfl⟩;subst e1;exact hik
theorem left_less {m m':GMap Int Bool} {seen:List Nat} {e:Nat×Int×Bool} (he:e∈m.left seen) (hs:m'.es.Sublist m.es):(m'.left (seen++[e.1])).length<(m.left seen).length:=by
 unfold GMap.left at he ⊢;have h1:(m'.es.filter λx=>!(seen++[e.1]).contains x.1).length≤(m.es.filter λx=>!(seen++[e.1]).contains x.1).length:=(hs.filter _).length_le;have h2:(m.es.filter λx=>!(seen++[e.1]).contains x.1)=(m.es.filter λx=>!seen.contains x.1).filter λx=>!(x.1==e.1):=by
  rw [List.filter_filter];congr 1;funext x;rw [Bool.eq_iff_iff];simp;constructor
  ·rintro ⟨a,b⟩;exact ⟨b,a⟩
  ·rintro ⟨a,b⟩;exact ⟨b,a⟩
 have h3:((m.es.filter λx=>!seen.contains x.1).filter λx=>!(x.1==e.1)).length<(m.es.filter λx=>!seen.contains x.1).length:=
  List.length_filter_lt_length_iff_exists.2 ⟨e,he,by simp⟩
 rw [h2] at h1;omega
theorem hidden_round {n:Nat} {j:Judge} {m0:GMap Int Bool} {i:Int} {rec:(GMap Int Bool×Int)→Option Bool} {r:Bool} (hn:1000000≤n) (hh:j.model.hides.length<1000000) (J:GMap Int Bool→List Nat→Prop)
  (hwf:∀ m seen,J m seen→WfM m∧m.clock=m0.clock) (hover:∀ m seen,J m seen→m.left seen=[]→rec (m,add64 i 1)=some r)
  (hstep:∀ m seen e,J m seen→e∈m.left seen→J (if (j.model.hides.any λh=>h.table==e.2.1&&decide (h.to∈keysOf m))=true then m else m.del e.2.1) (seen++[e.1]))
  (h0:J m0 []) (hl:m0.es.length<1000000):loopF (model_judge_hidden.l4 n j m0 i rec) n (m0,[],m0.clock)=some r:=by
 refine loopF_M (body:=model_judge_hidden.l4 n j m0 i rec) (λs=>(s.1.left s.2.1).length) (λs=>J s.1 s.2.1∧s.2.2=m0.clock) (λ_ o=>o=some r) (λrec' s hI hr=>?_) n _ ⟨h0,rfl⟩ ?_
 ·obtain ⟨m,seen,last⟩:=s;obtain ⟨hJ,hlast⟩:=hI;simp only [] at hJ hlast hr;subst hlast;obtain ⟨hw,hc⟩:=hwf m seen hJ;simp only [model_judge_hidden.l4,stepM];have hold:m.old m0.clock m0.clock=true:=by
   simp only [GMap.old,yc,yo,yd];exact ⟨λe he=>by have:=hw.lt e he;omega,yn _⟩
  rw [hold];unfold grd;rw [if_pos rfl];cases hleft:m.left seen with
  | nil=>
   simp only [List.isEmpty_nil,if_true];exact hover m seen hJ hleft
  | cons x l=>
   rw [← hleft,if_neg (by rw [hleft];simp)]
   haveI:Globs:=⟨[]⟩
   refine chooseAll_all (by rw [hleft];simp) (λe he=>?_);have hem:e∈m.es:=(List.mem_filter.1 he).1;rw [if_pos (by simpa using hw.nd),ContainsFunc_LHide_api_Hide_eq (p:=λh=>h.table==e.2.1&&decide (h.to∈keysOf m)) (λh _=>by
    unfold model_judge_hidden_1;rw [hw.get]) hh hn,ya]
   have hst:=hstep m seen e hJ he;cases hb:(j.model.hides.any λh=>h.table==e.2.1&&decide (h.to∈keysOf m)) with
   | true=>
    rw [hb] at hst;rw [if_neg (by simp)];exact hr (m,seen++[e.1],m.clock) ⟨hst,hc⟩ (left_less he (List.Sublist.refl _))
   | false=>
    rw [hb] at hst;rw [if_pos (by simp)];exact hr (m.del e.2.1,seen++[e.1],m.clock) ⟨hst,hc⟩ (left_less he (hw.del hem).2.2.2.1)
 ·have:(m0.left []).length≤m0.es.length:=List.length_filter_le _ _;simp only [];omega
theorem nodup_map_inj {α β:Type} {f:α→β}:∀ {l:List α},(l.map f).Nodup→∀ x∈l,∀ y∈l,f x=f y→x=y
 | [],_,x,hx,_,_,_=>by simp at hx
 | a::l,h,x,hx,y,hy,e=>by
  simp only [yP,List.nodup_cons,yV,not_exists,not_and] at h;simp only [yI] at hx hy;rcases hx with rfl | hx <;> rcases hy with rfl | hy
  ·rfl
  ·exact absurd e.symm (h.1 y hy)
  ·exact absurd e (h.1 x hx)
  ·exact nodup_map_inj h.2 x hx y hy e
theorem hidden_rounds {n:Nat} {j:Judge} {m:GMap Int Bool} (hn:1000000≤n) (hh:j.model.hides.length≤1000) (hok:∀ h∈j.model.hides,(0≤h.table∧h.table<(j.model.tables.length:Int)))
  (hw:WfM m) (hlen:m.es.length≤j.model.hides.length) (hk:∀ t,t∈keysOf m↔∃ h∈j.model.hides,h.table=t) :
  loopF (model_judge_hidden.l3 n j) n (m,0)=some (j.model.hides.all λh=>!leadsP j.model.hides j.model.tables.length h.to h.table):=by
 cases hac:(j.model.hides.all λh=>!leadsP j.model.hides j.model.tables.length h.to h.table) with
 | true=>
  have hac':∀ h∈j.model.hides,leadsP j.model.hides j.model.tables.length h.to h.table=false:=λh hm=>by
   have:=yo.1 hac h hm;simpa using this
  have hrange:∀ m':GMap Int Bool,(∀ t∈keysOf m',∃ h∈j.model.hides,h.table=t)→m'.es≠[]→∃ e∈m'.es,∀ h∈j.model.hides,¬ (h.table=e.2.1∧h.to∈keysOf m'):=λm' hm' hne=>by
   obtain ⟨t,ht,hs⟩:=sink_ex (hs:=j.model.hides) (T:=j.model.tables.length) (S:=keysOf m') (by simpa [keysOf] using hne) (λt ht=>by
    obtain ⟨h,hh,rfl⟩:=hm' t ht;exact hok h hh) hac'
   simp only [keysOf,yV] at ht;obtain ⟨e,he,rfl⟩:=ht;exact ⟨e,he,hs⟩
  refine loopF_I (body:=model_judge_hidden.l3 n j) (len:=j.model.hides.length) (st:=λm i=>(m,(i:Int))) (g:=λ_ _=>some true) (λi m=>WfM m∧m.es.length+i≤j.model.hides.length∧∀ t∈keysOf m,∃ h∈j.model.hides,h.table=t) (λrec i m hi hI hr=>?_) (λrec m hI=>?_) n 0 m (yv _) (by omega) ⟨hw,by omega,λt ht=>(hk t).1 ht⟩
  ·obtain ⟨h1,h2,h3⟩:=hI;simp only [model_judge_hidden.l3,lt_len hi,if_true];refine hidden_round (r:=true) (by omega) (by omega) (λm' seen=>(WfM m'∧m'.clock=m.clock∧∀ t∈keysOf m',∃ h∈j.model.hides,h.table=t)∧(m'.es.length+i+1≤j.model.hides.length∨(m'.es.length+i≤j.model.hides.length∧∃ e∈m'.left seen,∀ h∈j.model.hides,¬ (h.table=e.2.1∧h.to∈keysOf m')))) (λm' seen hJ=>⟨hJ.1.1,hJ.1.2.1⟩) (λm' seen hJ hl=>?_) (λm' seen e hJ he=>?_) ⟨⟨h1,rfl,h3⟩,?_⟩ (by omega)
   ·rw [add64_1 (by omega)];refine hr m' ⟨hJ.1.1,?_,hJ.1.2.2⟩;rcases hJ.2 with h | ⟨-,e,he,-⟩
    ·omega
    ·rw [hl] at he;cases he
   ·obtain ⟨⟨w1,w2,w3⟩,hd⟩:=hJ;have hem:e∈m'.es:=(List.mem_filter.1 he).1;obtain ⟨d1,d2,d3,d4,-⟩:=w1.del hem;cases hb:(j.model.hides.any λh=>h.table==e.2.1&&decide (h.to∈keysOf m')) with
    | true=>
     rw [if_pos rfl];refine ⟨⟨w1,w2,w3⟩,?_⟩;rcases hd with hd | ⟨hd,x,hx,hs⟩
     ·exact .inl hd
     ·refine .inr ⟨hd,x,?_,hs⟩;simp only [GMap.left,List.mem_filter] at hx ⊢;refine ⟨hx.1,?_⟩;have hne:x.1≠e.1:=λe1=>by
       have:x=e:=nodup_map_inj w1.nd x hx.1 e hem e1;subst this;simp only [un,yc,beq_iff_eq,yd] at hb;obtain ⟨h,hh,q⟩:=hb;exact hs h hh q
      simp only [yA,List.contains_eq_mem,yF,yG,yL,not_or] at hx ⊢;exact ⟨hx.2,hne⟩
    | false=>
     rw [if_neg (by simp)];refine ⟨⟨d1,by omega,λt ht=>?_⟩,.inl ?_⟩
     ·refine w3 t ?_;simp only [keysOf,yV] at ht ⊢;obtain ⟨x,hx,rfl⟩:=ht;exact ⟨x,d4.subset hx,rfl⟩
     ·rcases hd with hd | ⟨hd,-⟩ <;> omega
   ·by_cases hne:m.es=[]
    ·left;rw [hne];simp;omega
    ·right;refine ⟨h2,?_⟩;obtain ⟨e,he,hs⟩:=hrange m h3 hne;exact ⟨e,by simp [GMap.left,he],hs⟩
  ·have:m.es.length=0:=by omega
   simp [model_judge_hidden.l3,this]
 | false=>
  obtain ⟨h0,hm0,hl0⟩:∃ h∈j.model.hides,leadsP j.model.hides j.model.tables.length h.to h.table=true:=by
   simp only [List.all_eq_false] at hac;obtain ⟨h,hm,hx⟩:=hac;exact ⟨h,hm,by simpa using hx⟩
  have hclosed:∀ t,((∃ k,leadsP j.model.hides k h0.to t=true)∧∃ k,leadsP j.model.hides k t h0.table=true)→∃ h∈j.model.hides,h.table=t∧((∃ k,leadsP j.model.hides k h0.to h.to=true)∧∃ k,leadsP j.model.hides k h.to h0.table=true):=by
   rintro t ⟨⟨a,ha⟩,b,hb⟩;have hcase:t=h0.table∨∃ h∈j.model.hides,h.table=t∧∃ k,leadsP j.model.hides k h.to h0.table=true:=by
    cases b with
    | zero=>left;simpa [leadsP] using hb
    | succ b=>
     simp only [leadsP,yy,beq_iff_eq,un,yc] at hb;rcases hb with hb | ⟨h,hm,e,hx⟩
     ·exact .inl hb
     ·exact .inr ⟨h,hm,e,b,hx⟩
   rcases hcase with rfl | ⟨h,hm,rfl,k,hx⟩
   ·exact ⟨h0,hm0,rfl,⟨0,leadsP_refl⟩,_,hl0⟩
   ·exact ⟨h,hm,rfl,⟨_,leadsP_snoc hm ha⟩,k,hx⟩
  generalize hC:(λt=>(∃ k,leadsP j.model.hides k h0.to t=true)∧∃ k,leadsP j.model.hides k t h0.table=true)=C at *;have hC':∀ t,C t→∃ h∈j.model.hides,h.table=t∧C h.to:=by
   intro t ht;rw [← hC] at ht ⊢;exact hclosed t ht
  have hCs:C h0.to:=by rw [← hC];exact ⟨⟨0,leadsP_refl⟩,_,hl0⟩
  refine loopF_I (body:=model_judge_hidden.l3 n j) (len:=j.model.hides.length) (st:=λm i=>(m,(i:Int))) (g:=λ_ _=>some false) (λi m=>WfM m∧m.es.length≤1000∧∀ t,C t→t∈keysOf m) (λrec i m hi hI hr=>?_) (λrec m hI=>?_) n 0 m (yv _) (by omega) ⟨hw,by omega,λt ht=>(hk t).2 (by
   obtain ⟨h,hh,e,-⟩:=hC' t ht;exact ⟨h,hh,e⟩)⟩
  ·obtain ⟨h1,h2,h3⟩:=hI;simp only [model_judge_hidden.l3,lt_len hi,if_true];refine hidden_round (r:=false) (by omega) (by omega) (λm' seen=>WfM m'∧m'.clock=m.clock∧m'.es.length≤1000∧∀ t,C t→t∈keysOf m') (λm' seen hJ=>⟨hJ.1,hJ.2.1⟩) (λm' seen hJ hl=>?_) (λm' seen e hJ he=>?_) ⟨h1,rfl,h2,h3⟩ (by omega)
   ·rw [add64_1 (by omega)];exact hr m' ⟨hJ.1,hJ.2.2⟩
   ·obtain ⟨w1,w2,w3,w4⟩:=hJ;have hem:e∈m'.es:=(List.mem_filter.1 he).1;obtain ⟨d1,d2,d3,-,d5⟩:=w1.del hem;cases hb:(j.model.hides.any λh=>h.table==e.2.1&&decide (h.to∈keysOf m')) with
    | true=>
     rw [if_pos rfl];exact ⟨w1,w2,w3,w4⟩
    | false=>
     rw [if_neg (by simp)];refine ⟨d1,by omega,by omega,λt ht=>d5 t (w4 t ht) λe1=>?_⟩;obtain ⟨h,hh,hht,hto⟩:=hC' t ht;have:=List.any_eq_false.1 hb h hh;apply this;simp only [yc,beq_iff_eq,yd];exact ⟨by omega,w4 _ hto⟩
  ·obtain ⟨-,-,h3⟩:=hI;have:=h3 _ hCs;have hne:m.es.length≠0:=λe=>by
    simp only [keysOf,List.length_eq_zero_iff.1 e,List.map_nil,List.not_mem_nil] at this
   simp only [model_judge_hidden.l3,ge_len,yh,if_false,yg,ub];omega
theorem model_hidden_eq {n m l} (hn:1000000≤n) (hS:SmallM m):model_judge_hidden n ⟨m,l⟩=some (hidesP m):=by
 have hhl:=hS.hides;have htl:=hS.tables;unfold model_judge_hidden hidesP;rw [if_neg (by simp;omega),decide_eq_true hhl,yB];have:=loopF_lall (body:=model_judge_hidden.l1 n ⟨m,l⟩) (l:=m.hides) (n:=n) (st:=λi=>(i:Int)) (hideP m) (some false) (loopF (model_judge_hidden.l2 n ⟨m,l⟩) n (GMap.empty,0)) (λrec i hi=>?_) (λrec=>?_) (by omega)
 ·simp only [Int.natCast_zero] at this;rw [this];cases hall:m.hides.all (hideP m) with
  | false=>simp
  | true=>
   rw [if_pos rfl,yB];have hok:∀ h∈m.hides,(0≤h.table∧h.table<(m.tables.length:Int)):=λh hm=>by
    have:=yo.1 hall h hm;simp only [hideP,yc,yd] at this;exact this.1.1.1
   refine loopF_I (body:=model_judge_hidden.l2 n ⟨m,l⟩) (len:=m.hides.length) (st:=λg i=>(g,(i:Int))) (g:=λ_ _=>some (m.hides.all λh=>!leadsP m.hides m.tables.length h.to h.table)) (λi g=>WfM g∧g.es.length≤i∧∀ t,t∈keysOf g↔∃ h∈m.hides.take i,h.table=t) (λrec i g hi hI hr=>?_) (λrec g hI=>?_) n 0 GMap.empty (yv _) (by omega) ⟨WfM.empty,by simp [GMap.empty],λt=>by simp [keysOf,GMap.empty]⟩
   ·obtain ⟨h1,h2,h3⟩:=hI;obtain ⟨p1,p2,p3⟩:=h1.put m.hides[i].table;simp only [model_judge_hidden.l2,lt_len hi,if_true,idx_nat hi,ya,add64_1 (i:=i) (by omega)];refine hr _ ⟨p1,by omega,λt=>?_⟩;rw [p3,h3,yC hi];simp only [yG,yL];constructor
    ·rintro (⟨h,hm,e⟩ | e)
     ·exact ⟨h,.inl hm,e⟩
     ·exact ⟨_,.inr rfl,e.symm⟩
    ·rintro ⟨h,hm | rfl,e⟩
     ·exact .inl ⟨h,hm,e⟩
     ·exact .inr e.symm
   ·obtain ⟨h1,h2,h3⟩:=hI;simp only [model_judge_hidden.l2,ge_len,yh,if_false];exact hidden_rounds (j:=⟨m,l⟩) hn (by simp only [];omega) hok h1 h2 (λt=>by rw [h3,List.take_length])
 ·simp only [model_judge_hidden.l1,model_index,lt_len hi,if_true,idx_nat hi,ya,yj,yw,yf,add64_1 (i:=i) (by omega)];generalize m.hides[i]=h;by_cases hb:(((0≤h.table∧h.table<(m.tables.length:Int))∧(0≤h.to∧h.to<(m.tables.length:Int)))∧h.table≠h.to)
  ·simp only [grd,if_true];rw [if_neg (by simp [hb])];obtain ⟨t,u,ht,hu⟩:=hide_idx hb.1.1 hb.1.2;have hhp:hideP m h=(((t.kind==0)&&(u.kind==0))&&((decide (0≤h.column)&&decide (h.column<(t.columns.length:Int)))&&(((u.columns.length:Int)==1)&&((idx u.columns 0).getD default==(idx t.columns h.column).getD default)))):=by
    unfold hideP;rw [ht,hu];simp [hb]
   simp only [ht,hu,ya];rw [hhp];by_cases hk:(((t.kind==0)&&(u.kind==0))&&((decide (0≤h.column)&&decide (h.column<(t.columns.length:Int)))&&((u.columns.length:Int)==1)))=true
   ·have hk':=hk;simp only [yc,yd,beq_iff_eq] at hk';obtain ⟨⟨k1,k2⟩,⟨k3,k4⟩,k5⟩:=hk';obtain ⟨x,hx⟩:=idx_some (l:=u.columns) (i:=0) (by omega) (by omega);obtain ⟨y,hy⟩:=idx_some k3 k4;simp only [k1,k2,k3,k4,k5,hx,hy,yf,decide_true,uJ,uO,yj,yw,Bool.or_false,yB,uK,y8,if_true];by_cases hxy:x=y
    ·simp [hxy]
    ·simp [hxy]
   ·have hf:(((((t.kind != 0)||(u.kind != 0))||(!(decide (0≤h.column)&&decide (h.column<(t.columns.length:Int)))))||((u.columns.length:Int) != 1)))=true:=by
     simp only [yc,yd,beq_iff_eq] at hk;simp only [yy,bne_iff_ne,yA,uk,yF];omega
    simp only [hf,uN,if_true];rw [← Bool.and_assoc (decide (0≤h.column)&&decide (h.column<(t.columns.length:Int))),← Bool.and_assoc];simp only [yE] at hk;rw [hk];rfl
  ·have hhp:hideP m h=false:=by
    unfold hideP;cases hx:(((decide (0≤h.table)&&decide (h.table<(m.tables.length:Int)))&&(decide (0≤h.to)&&decide (h.to<(m.tables.length:Int))))&&(h.table != h.to)) with
    | false=>rfl
    | true=>
     simp only [yc,yd,bne_iff_ne] at hx;exact absurd hx hb
   rw [hhp];simp only [grd,if_true];rw [if_pos (by
    simp only [yy,yA,uk,yF,beq_iff_eq];omega)]
   rfl
 ·simp [model_judge_hidden.l1]
def validP (m:Model):Bool:=(layoutP m.sorts m.tables&&(decide (m.families.length≤24)&&distP [] m.families))&&(consP m (rangesP m.sorts true m.tables)&&(opsP m&&(actsP m (rangesP m.sorts true m.tables).length&&hidesP m)))
theorem model_Valid_eq {n m} (hF:Fuel n) (hS:SmallM m):model_Valid n m=some (validP m):=by
 have hn:=hF.big;have hs:=hS.sorts;have ht:=hS.tables;have hf:=hS.families;have hcs:∀ t∈m.tables,t.columns.length≤1000:=λt h=>by have:=hS.tab t h;omega
 unfold model_Valid validP;rw [cells_Valid_eq hF (by omega) (by omega) hcs,model_distinct_eq hF (by omega)];simp only [ya,yj,yw,grd,if_true,yf];have e1:decide (24<(m.families.length:Int)) = !decide (m.families.length≤24):=by rw [← decide_not];exact decide_eq_decide.2 (by omega)
 rw [e1];cases hL:layoutP m.sorts m.tables with
 | false=>simp
 | true=>
  by_cases hd:(decide (m.families.length≤24)&&distP [] m.families)=true
  ·rw [hd];simp only [yc] at hd;rw [hd.1,hd.2,if_neg (by simp),cells_Ranges_eq hF (by omega) (by omega) hcs,hL];simp only [if_true,ya];obtain ⟨l1,l2,l3,l4⟩:=layoutP_tab hL;have hlen:=rangesP_len (sizes:=m.sorts) (s:=true) (l:=m.tables) λx hx=>(l4 x hx).2.2.2.2
   rw [model_constraints_eq hS (λt ht=>(l4 t ht).2.2.2.1) (by omega) (by omega),model_operations_eq hF hS,model_hidden_eq (by omega) hS];simp only [ya,yj,yf,yw,if_true];cases consP m (rangesP m.sorts true m.tables) with
   | false=>simp
   | true=>
    cases hO:opsP m with
    | false=>simp
    | true=>
     rw [model_actions_eq hF hS hO];simp
  ·have h2:(!true||!decide (m.families.length≤24)||!distP [] m.families)=true:=by
    simp only [yc,not_and,yE] at hd;cases h1:decide (m.families.length≤24) with
    | false=>rfl
    | true=>rw [hd h1];rfl
   rw [if_pos h2];simp only [yE] at hd;rw [hd];rfl
theorem ref13_Valid_eq {n m} (hn:4294967296≤n) (hS:SmallM m):ref13_Valid n m=some (validP m):=by
 have hs:=hS.sorts;have ht:=hS.tables;have hf:=hS.families;have hcs:∀ t∈m.tables,t.columns.length≤1000∧t.name.length≤4096:=λt h=>by have:=hS.tab t h;omega
 unfold ref13_Valid validP;rw [ref09_Valid_eq (by omega) (by omega) (by omega) hcs,ref13_distinct_eq (by omega) (by omega) (λw hw=>by have:=hS.fam w hw;omega)];simp only [ya,yj,yw,grd,if_true,yf];have e1:decide (24<(m.families.length:Int)) = !decide (m.families.length≤24):=by rw [← decide_not];exact decide_eq_decide.2 (by omega)
 rw [e1];cases hL:layoutP m.sorts m.tables with
 | false=>simp
 | true=>
  by_cases hd:(decide (m.families.length≤24)&&distP [] m.families)=true
  ·rw [hd];simp only [yc] at hd;rw [hd.1,hd.2,if_neg (by simp),ref13_constraints_eq hS hL (by omega),ref13_actions_eq (by omega) hS hL,ref13_hidden_eq hn hS];simp only [ya,yj,yf,yw,if_true,yB];simp only [Bool.and_assoc]
  ·have h2:(!true||!decide (m.families.length≤24)||!distP [] m.families)=true:=by
    simp only [yc,not_and,yE] at hd;cases h1:decide (m.families.length≤24) with
    | false=>rfl
    | true=>rw [hd h1];rfl
   rw [if_pos h2];simp only [yE] at hd;rw [hd];rfl
def lensP (m:Model):Bool:=(((((((decide (8<(m.sorts.length:Int)))||(decide (6<(m.tables.length:Int))))||(decide (20<(m.families.length:Int))))||(decide (60<(m.constraints.length:Int))))||(decide (8<(m.operations.length:Int))))||(decide (30<(m.actions.length:Int))))||(decide (12<(m.hides.length:Int))))
def tabF (t:Table):Bool:=decide (t.name.length≤40)&&decide (t.columns.length≤12)
def opF (o:Operation):Bool:=decide (o.name.length≤40)&&decide (o.sorts.length≤6)
def actF (a:Action):Bool:=((decide (a.arguments.length≤6)&&decide (a.effect.delta.length≤20))&&(decide (a.effect.hold.length≤10)&&decide (a.effect.updates.length≤40)))&&a.effect.hold.all λr=>decide (r.terms.length≤20)
def boundedP (m:Model):Bool:=!lensP m&&(m.tables.all tabF&&(m.families.all (λs=>decide (s.length≤40))&&(m.constraints.all (λc=>decide (c.row.terms.length≤20))&&(m.operations.all opF&&m.actions.all actF))))
theorem not_lt_le {a b:Nat}:decide ((a:Int)<(b:Int)) = !decide (b≤a):=by rw [← decide_not];exact decide_eq_decide.2 (by omega)
theorem ref13_Bounded_eq {n:Nat} {m:Model} (hn:1000000≤n):ref13_Bounded n m=some (boundedP m):=by
 unfold ref13_Bounded boundedP;have hl:(((((((decide (8<(m.sorts.length:Int)))||(decide (6<(m.tables.length:Int))))||(decide (20<(m.families.length:Int))))||(decide (60<(m.constraints.length:Int))))||(decide (8<(m.operations.length:Int))))||(decide (30<(m.actions.length:Int))))||(decide (12<(m.hides.length:Int))))=lensP m:=rfl;rw [hl];cases hlen:lensP m with
 | true=>simp [grd]
 | false=>
  simp only [lensP,y9,yF] at hlen;obtain ⟨⟨⟨⟨⟨⟨b1,b2⟩,b3⟩,b4⟩,b5⟩,b6⟩,b7⟩:=hlen;have hfew:ref09_Few n m.sorts m.tables=some (m.tables.all tabF):=by
   have:=loopF_lall (body:=ref09_Few.l1 n m.sorts m.tables) (l:=m.tables) (n:=n) (st:=λi=>(i:Int)) tabF (some false) (some true) (λrec i hi=>?_) (λrec=>?_) (by omega)
   ·simp only [Int.natCast_zero] at this;unfold ref09_Few;rw [this];cases m.tables.all tabF <;> rfl
   ·simp only [ref09_Few.l1,lt_len hi,if_true,idx_nat hi,ya,yj,yw,grd,yf,add64_1 (i:=i) (by omega)];unfold tabF;by_cases h1:m.tables[i].name.length≤40
    ·by_cases h2:m.tables[i].columns.length≤12
     ·rw [if_neg (by simp;omega),if_pos (by simp [h1,h2])]
     ·rw [if_pos (by simp;omega),if_neg (by simp [h2])]
    ·rw [if_pos (by simp;omega),if_neg (by simp [h1])]
   ·simp [ref09_Few.l1];omega
  rw [hfew];simp only [yj,yw,grd,if_true,yf,uh,uq,yB];cases m.tables.all tabF with
  | false=>simp
  | true=>
   rw [if_neg (by simp),yB];have h4:loopF (ref13_Bounded.l4 n m) n 0=some (m.actions.all actF):=by
    have:=loopF_lall (body:=ref13_Bounded.l4 n m) (l:=m.actions) (n:=n) (st:=λi=>(i:Int)) actF (some false) (some true) (λrec i hi=>?_) (λrec=>?_) (by omega)
    ·simp only [Int.natCast_zero] at this;rw [this];cases m.actions.all actF <;> rfl
    ·simp only [ref13_Bounded.l4,lt_len hi,if_true,idx_nat hi,ya];unfold actF;by_cases hx:((decide (m.actions[i].arguments.length≤6)&&decide (m.actions[i].effect.delta.length≤20))&&(decide (m.actions[i].effect.hold.length≤10)&&decide (m.actions[i].effect.updates.length≤40)))=true
     ·rw [hx,yB];simp only [yc,yd] at hx;rw [if_neg (by simp;omega)];have:=loopF_lall (body:=ref13_Bounded.l5 n i rec m.actions[i]) (l:=m.actions[i].effect.hold) (n:=n) (st:=λk=>(k:Int)) (λr=>decide (r.terms.length≤20)) (some false) (rec ((i+1:Nat):Int)) (λrec' k hk=>?_) (λrec'=>?_) (by omega)
      ·simpa using this
      ·simp only [ref13_Bounded.l5,lt_len hk,if_true,idx_nat hk,ya,add64_1 (i:=k) (by omega)];by_cases h:m.actions[i].effect.hold[k].terms.length≤20
       ·rw [if_neg (by simp;omega),if_pos (by simp [h])]
       ·rw [if_pos (by simp;omega),if_neg (by simp [h])]
      ·simp only [ref13_Bounded.l5,ge_len,yh,if_false,add64_1 (i:=i) (by omega)]
     ·rw [if_pos (by
       simp only [yc,yd] at hx;simp only [yy,yd];omega)]
      simp only [yE] at hx;rw [hx,y7,if_neg (by simp)]
    ·simp [ref13_Bounded.l4]
   have h3:loopF (ref13_Bounded.l3 n m) n 0=some (m.operations.all opF&&m.actions.all actF):=by
    have:=loopF_lall (body:=ref13_Bounded.l3 n m) (l:=m.operations) (n:=n) (st:=λi=>(i:Int)) opF (some false) (some (m.actions.all actF)) (λrec i hi=>?_) (λrec=>?_) (by omega)
    ·simp only [Int.natCast_zero] at this;rw [this];cases m.operations.all opF <;> rfl
    ·simp only [ref13_Bounded.l3,lt_len hi,if_true,idx_nat hi,ya,yj,yw,grd,yf,add64_1 (i:=i) (by omega)];unfold opF;by_cases h1:m.operations[i].name.length≤40
     ·by_cases h2:m.operations[i].sorts.length≤6
      ·rw [if_neg (by simp;omega),if_pos (by simp [h1,h2])]
      ·rw [if_pos (by simp;omega),if_neg (by simp [h2])]
     ·rw [if_pos (by simp;omega),if_neg (by simp [h1])]
    ·simp only [ref13_Bounded.l3,ge_len,yh,if_false,h4]
   have h2:loopF (ref13_Bounded.l2 n m) n 0=some (m.constraints.all (λc=>decide (c.row.terms.length≤20))&&(m.operations.all opF&&m.actions.all actF)):=by
    have:=loopF_lall (body:=ref13_Bounded.l2 n m) (l:=m.constraints) (n:=n) (st:=λi=>(i:Int)) (λc=>decide (c.row.terms.length≤20)) (some false) (some (m.operations.all opF&&m.actions.all actF)) (λrec i hi=>?_) (λrec=>?_) (by omega)
    ·simp only [Int.natCast_zero] at this;rw [this];cases m.constraints.all (λc=>decide (c.row.terms.length≤20)) <;> rfl
    ·simp only [ref13_Bounded.l2,lt_len hi,if_true,idx_nat hi,ya,add64_1 (i:=i) (by omega)];by_cases h:m.constraints[i].row.terms.length≤20
     ·rw [if_neg (by simp;omega),if_pos (by simp [h])]
     ·rw [if_pos (by simp;omega),if_neg (by simp [h])]
    ·simp only [ref13_Bounded.l2,ge_len,yh,if_false,h3]
   have:=loopF_lall (body:=ref13_Bounded.l1 n m) (l:=m.families) (n:=n) (st:=λi=>(i:Int)) (λs=>decide (s.length≤40)) (some false) (some (m.constraints.all (λc=>decide (c.row.terms.length≤20))&&(m.operations.all opF&&m.actions.all actF))) (λrec i hi=>?_) (λrec=>?_) (by omega)
   ·simp only [Int.natCast_zero] at this;rw [this];cases m.families.all (λs=>decide (s.length≤40)) <;> rfl
   ·simp only [ref13_Bounded.l1,lt_len hi,if_true,idx_nat hi,ya,add64_1 (i:=i) (by omega)];by_cases h:m.families[i].length≤40
    ·rw [if_neg (by simp;omega),if_pos (by simp [h])]
    ·rw [if_pos (by simp;omega),if_neg (by simp [h])]
   ·simp only [ref13_Bounded.l1,ge_len,yh,if_false,h2]
theorem boundedP_small {m:Model} (h:boundedP m=true):SmallM m:=by
 simp only [boundedP,lensP,tabF,opF,actF,yc,yA,y9,yF,yo,yd] at h;obtain ⟨⟨⟨⟨⟨⟨⟨b1,b2⟩,b3⟩,b4⟩,b5⟩,b6⟩,b7⟩,c1,c2,c3,c4,c5⟩:=h;exact ⟨by omega,by omega,c1,by omega,c2,by omega,c3,by omega,c4,by omega,λa ha=>by
  obtain ⟨⟨⟨p1,p2⟩,p3,p4⟩,p5⟩:=c5 a ha;exact ⟨p1,p2,p3,p4,p5⟩,by omega⟩
def prodP:Int→List Range→Bool
 | _,[]=>true
 | p,r::l=>!decide (4096<mul64 p (add64 (sub64 r.hi r.lo) 1))&&prodP (mul64 p (add64 (sub64 r.hi r.lo) 1)) l
def strictR (m:Model):List Range:=if layoutP m.sorts m.tables=true then rangesP m.sorts true m.tables else []
def fewP (m:Model):Bool:=((boundedP m&&decide (m.actions.length≤12))&&decide (m.constraints.length≤40))&&(m.actions.all (λa=>decide (a.effect.hold.length≤4))&&(decide ((strictR m).length≤12)&&prodP 1 (strictR m)))
theorem ref13_strict_eq {n:Nat} {m:Model} (hn:1000000≤n) (hS:SmallM m):ref13_strict n m=some (strictR m):=by
 have hs:=hS.sorts;have ht:=hS.tables;unfold ref13_strict;rw [ref09_Ranges_eq hn (by omega) (by omega) (λt h=>by have:=hS.tab t h;omega)];rfl
theorem strictR_len {m:Model} (hS:SmallM m):(strictR m).length≤2592:=by
 have ht:=hS.tables;unfold strictR;split
 ·rename_i hL;obtain ⟨l1,l2,l3,l4⟩:=layoutP_tab hL;have:=rangesP_len (sizes:=m.sorts) (s:=true) (l:=m.tables) λx hx=>(l4 x hx).2.2.2.2
  omega
 ·simp
theorem ref13_Few_eq {n:Nat} {m:Model} (hn:1000000≤n):ref13_Few n m=some (fewP m):=by
 unfold ref13_Few fewP;rw [ref13_Bounded_eq hn,ya];have e1:decide (12<(m.actions.length:Int)) = !decide (m.actions.length≤12):=not_lt_le (a:=12);have e2:decide (40<(m.constraints.length:Int)) = !decide (m.constraints.length≤40):=not_lt_le (a:=40);rw [e1,e2,← Bool.not_and,← Bool.not_and];cases hb:(boundedP m&&decide (m.actions.length≤12)&&decide (m.constraints.length≤40)) with
 | false=>simp
 | true=>
  simp only [yc,yd] at hb;have hS:=boundedP_small hb.1.1;have hsl:=strictR_len hS;have T:(if (decide (12<((strictR m).length:Int)))=true then some false else loopF (ref13_Few.l2 n (strictR m)) n (1,0))=some (decide ((strictR m).length≤12)&&prodP 1 (strictR m)):=by
   by_cases h:(strictR m).length≤12
   ·rw [if_neg (by simp;omega),decide_eq_true h,yB];refine loopF_I (body:=ref13_Few.l2 n (strictR m)) (len:=(strictR m).length) (st:=λ(p:Int) i=>(p,(i:Int))) (g:=λi p=>some (prodP p ((strictR m).drop i))) (λ_ _=>True) (λrec i p hi _ hr=>?_) (λrec p _=>?_) n 0 1 (yv _) (by omega) trivial
    ·simp only [ref13_Few.l2,lt_len hi,if_true,idx_nat hi,ya,add64_1 (i:=i) (by omega),hr _ trivial];rw [drop_cons hi,prodP];cases decide (4096<mul64 p (add64 (sub64 (strictR m)[i].hi (strictR m)[i].lo) 1)) <;> simp
    ·simp [ref13_Few.l2,prodP]
   ·rw [if_pos (by simp;omega),decide_eq_false h,y7]
  have:=loopF_lall (body:=ref13_Few.l1 n m) (l:=m.actions) (n:=n) (st:=λi=>(i:Int)) (λa=>decide (a.effect.hold.length≤4)) (some false) (some (decide ((strictR m).length≤12)&&prodP 1 (strictR m))) (λrec i hi=>?_) (λrec=>?_) (by omega)
  ·simp only [Int.natCast_zero] at this;rw [if_neg (by simp),this];cases m.actions.all (λa=>decide (a.effect.hold.length≤4)) <;> simp
  ·simp only [ref13_Few.l1,lt_len hi,if_true,idx_nat hi,ya,add64_1 (i:=i) (by omega)];by_cases h:m.actions[i].effect.hold.length≤4
   ·rw [if_neg (by simp;omega),if_pos (by simp [h])]
   ·rw [if_pos (by simp;omega),if_neg (by simp [h])]
  ·simp only [ref13_Few.l1,ge_len,yh,if_false,ref13_strict_eq hn hS,ya,T]
theorem fewP_small {m:Model} (h:fewP m=true):SmallM m:=by
 simp only [fewP,yc] at h;exact boundedP_small h.1.1.1
structure ValidM (m:Model):Prop where
 lay:layoutP m.sorts m.tables=true
 fams:m.families.length≤24∧distP [] m.families=true
 cons:consP m (rangesP m.sorts true m.tables)=true
 ops:opsP m=true
 acts:actsP m (rangesP m.sorts true m.tables).length=true
 hid:hidesP m=true
theorem validP_iff {m}:validP m=true↔ValidM m:=by
 simp only [validP,yc,yd];exact ⟨λ⟨⟨a,b,c⟩,d,e,f,g⟩=>⟨a,⟨b,c⟩,d,e,f,g⟩,λ⟨a,⟨b,c⟩,d,e,f,g⟩=>⟨⟨a,b,c⟩,d,e,f,g⟩⟩
def stepT (s:Nat) (L:List (List Int)):List (List Int):=L.flatMap λl=>(List.range s).map λe:Nat=>l++[(e:Int)]
def tuplesF (sizes:List Int):List Int→List (List Int)→List (List Int)
 | [],L=>L
 | c::cols,L=>tuplesF sizes cols (stepT (sizeAt sizes c).toNat L)
def tuplesP (sizes cols:List Int):List (List Int):=tuplesF sizes cols [[]]
theorem tuplesF_append (sizes):∀ (a b:List Int) (L:List (List Int)),tuplesF sizes (a++b) L=tuplesF sizes b (tuplesF sizes a L)
 | [],_,_=>rfl
 | _::a,b,L=>by simp only [y6,tuplesF];exact tuplesF_append sizes a b _
theorem stepT_append (s A B):stepT s (A++B)=stepT s A++stepT s B:=by simp [stepT]
theorem stepT_len {s L}:(stepT s L).length=L.length*s:=by
 induction L with
 | nil=>simp [stepT]
 | cons l L ih=>
  have:stepT s (l::L)=stepT s [l]++stepT s L:=stepT_append s [l] L;rw [this,yK,ih];simp [stepT,uj,Nat.add_comm]
theorem stepT_mem {s L k} (h:∀ l∈L,l.length=k):∀ l∈stepT s L,l.length=k+1:=λl hl=>by
 simp only [stepT,ut,yV] at hl;obtain ⟨x,hx,e,-,rfl⟩:=hl;simp [h x hx]
theorem stepT_snoc {s:Nat} {L:List (List Int)} {i:Nat} (hi:i<L.length):stepT s (L.take (i+1))=stepT s (L.take i)++(List.range s).map λe:Nat=>L[i]++[(e:Int)]:=by
 rw [yC hi,stepT_append];congr 1;simp [stepT]
def placeP (i:Nat) (L:List (List Int)):List Place:=L.map λl=>⟨(i:Int),l⟩
def placesP (sizes:List Int) (s:Bool):List Table→Nat→List Place
 | [],_=>[]
 | t::l,i=>(if decide (t.kind≤1)=s then placeP i (tuplesP sizes t.columns) else [])++placesP sizes s l (i+1)
theorem placesP_append (sizes s):∀ (a b:List Table) (i:Nat),placesP sizes s (a++b) i=placesP sizes s a i++placesP sizes s b (i+a.length)
 | [],b,i=>by simp [placesP]
 | t::a,b,i=>by
  simp only [y6,placesP,placesP_append sizes s a b,yN,yQ];rw [show i+1+a.length=i+(a.length+1) by omega]
theorem placesP_snoc {sizes:List Int} {s:Bool} {l:List Table} {i:Nat} (hi:i<l.length):placesP sizes s (l.take (i+1)) 0=placesP sizes s (l.take i) 0++(if decide (l[i].kind≤1)=s then placeP i (tuplesP sizes l[i].columns) else []):=by
 rw [yC hi,placesP_append];congr 1;simp only [placesP,uz,yO,um];rw [show min i l.length=i by omega]
theorem open_l4 {n:Nat} {x40:Int} {rec:((List (List Int))×Int)→Option ((Option Layout)×Bool)} {l:List Int} {s:Nat} {b:List (List Int)} {k:Nat} (hk:add64 x40 1=(k:Int)) (hs:s≤6) (hl:l.length≤100) (hb:b.length≤100000) (hn:1000000≤n) :
  loopF (symmetry_open.l4 n x40 rec l (s:Int)) n (b,0)=rec (b++(List.range s).map λe:Nat=>l++[(e:Int)],(k:Int)):=by
 have:=loopF_g (body:=symmetry_open.l4 n x40 rec l (s:Int)) (len:=s) (st:=λi=>(b++(List.range i).map λe:Nat=>l++[(e:Int)],(i:Int))) (g:=λ_=>rec (b++(List.range s).map λe:Nat=>l++[(e:Int)],(k:Int))) (λrec' i hi hr=>?_) (λrec'=>?_) n 0 (yv _) (by omega)
 ·simpa using this
 ·rw [List.range_succ,ur,← yQ] at hr;simp only [symmetry_open.l4,lt_nat hi,if_true,add64_1 (i:=i) (by omega)];rw [app_some (by simp;omega),ya,app_some (by simp;omega),ya,app_some (by simp;omega),ya];exact hr
 ·simp only [symmetry_open.l4,ge_nat (yn s),yh,if_false,hk]
theorem open_l3 {n:Nat} {m} {L:List (List Int)} {x34 x36:Int} {rec:((List (List Int))×Int)→Option ((Option Layout)×Bool)} {s k:Nat} (hk:add64 x34 1=(k:Int)) (hx:idx m.sorts x36=some (s:Int)) (hs:s≤6) (hl:∀ l∈L,l.length≤100) (hL:L.length≤1000) (hn:1000000≤n) :
  loopF (symmetry_open.l3 n m L x34 rec x36) n ([],0)=rec (stepT s L,(k:Int)):=by
 have:=loopF_g (body:=symmetry_open.l3 n m L x34 rec x36) (len:=L.length) (st:=λi=>(stepT s (L.take i),(i:Int))) (g:=λ_=>rec (stepT s L,(k:Int))) (λrec' i hi hr=>?_) (λrec'=>?_) n 0 (yv _) (by omega)
 ·simpa [stepT] using this
 ·rw [stepT_snoc hi] at hr;simp only [symmetry_open.l3,lt_len hi,if_true,idx_nat hi,ya,hx];have hlen:(stepT s (L.take i)).length≤100000:=by
   rw [stepT_len,yO];have:min i L.length*s≤1000*6:=uv (by omega) hs;omega
  rw [open_l4 (k:=i+1) (add64_1 (by omega)) hs (hl _ (ym hi)) hlen hn];exact hr
 ·simp only [symmetry_open.l3,ge_len,yh,if_false,hk,List.take_length]
theorem open_l5 {n:Nat} {i:Nat} {rec:((List Place)×(List Place)×Int)→Option ((Option Layout)×Bool)} {t:Table} {L:List (List Int)} {b1 b2:List Place} (hi:i<1000000) (hL:L.length≤1000) (h1:b1.length≤100000) (h2:b2.length≤100000) (hn:1000000≤n) :
  loopF (symmetry_open.l5 n (i:Int) rec t L) n (b1,b2,0)=rec (b1++(if decide (t.kind≤1)=true then placeP i L else []),b2++(if decide (t.kind≤1)=false then placeP i L else []),((i+1:Nat):Int)):=by
 cases hk:decide (t.kind≤1) with
 | true=>
  simp only [if_true,Bool.true_eq_false,if_false,uz];have:=loopF_g (body:=symmetry_open.l5 n (i:Int) rec t L) (len:=L.length) (st:=λk=>(b1++placeP i (L.take k),b2,(k:Int))) (g:=λ_=>rec (b1++placeP i L,b2,((i+1:Nat):Int))) (λrec' k hk' hr=>?_) (λrec'=>?_) n 0 (yv _) (by omega)
  ·simpa [placeP] using this
  ·simp only [placeP] at hr ⊢;rw [← map_take_snoc hk',← yQ] at hr;simp only [symmetry_open.l5,jn,lt_len hk',if_true,idx_nat hk',ya,hk,add64_1 (i:=k) (by omega)];rw [app_some (by simp;omega),ya];exact hr
  ·simp only [symmetry_open.l5,ge_len,yh,if_false,List.take_length,add64_1 (i:=i) (by omega)]
 | false=>
  simp only [yh,if_true,if_false,uz];have:=loopF_g (body:=symmetry_open.l5 n (i:Int) rec t L) (len:=L.length) (st:=λk=>(b1,b2++placeP i (L.take k),(k:Int))) (g:=λ_=>rec (b1,b2++placeP i L,((i+1:Nat):Int))) (λrec' k hk' hr=>?_) (λrec'=>?_) n 0 (yv _) (by omega)
  ·simpa [placeP] using this
  ·simp only [placeP] at hr ⊢;rw [← map_take_snoc hk',← yQ] at hr;simp only [symmetry_open.l5,jn,lt_len hk',if_true,idx_nat hk',ya,hk,yh,if_false,add64_1 (i:=k) (by omega)];rw [app_some (by simp;omega),ya];exact hr
  ·simp only [symmetry_open.l5,ge_len,yh,if_false,List.take_length,add64_1 (i:=i) (by omega)]
theorem tuplesF_bound {sizes} (hs:sizes.all sizeOK=true):∀ (cols:List Int) (L:List (List Int)) (A k:Nat),cols.all (colOK sizes)=true→L.length≤A→(∀ l∈L,l.length=k)→(tuplesF sizes cols L).length≤A*6 ^ cols.length∧∀ l∈tuplesF sizes cols L,l.length=k+cols.length
 | [],L,A,k,_,h1,h2=>by simpa [tuplesF] using ⟨h1,h2⟩
 | c::cols,L,A,k,hc,h1,h2=>by
  simp only [ui,yc] at hc;have hz:=sizeAt_ne hs hc.1;have hlen:(stepT (sizeAt sizes c).toNat L).length≤A*6:=by
   rw [stepT_len];exact uv h1 (by omega)
  obtain ⟨p1,p2⟩:=tuplesF_bound hs cols (stepT (sizeAt sizes c).toNat L) (A*6) (k+1) hc.2 hlen (stepT_mem h2);simp only [tuplesF,yN];refine ⟨?_,λl hl=>?_⟩
  ·rw [Nat.pow_succ,Nat.mul_comm (6 ^ cols.length) 6,← Nat.mul_assoc];exact p1
  ·rw [p2 l hl];omega
theorem tuplesP_bound {sizes cols} (hs:sizes.all sizeOK=true) (hc:cols.all (colOK sizes)=true) (h3:cols.length≤3):(tuplesP sizes cols).length≤216∧∀ l∈tuplesP sizes cols,l.length=cols.length:=by
 obtain ⟨p1,p2⟩:=tuplesF_bound hs cols [[]] 1 0 hc (by simp) (by simp);refine ⟨ue p1 ?_,λl hl=>by simpa using p2 l hl⟩;have:6 ^ cols.length≤6 ^ 3:=uF (by decide) h3;omega
theorem open_l2 {n:Nat} {m} {b1 b2:List Place} {i:Nat} {rec:((List Place)×(List Place)×Int)→Option ((Option Layout)×Bool)} {t:Table} (hs:m.sorts.all sizeOK=true) (hc:t.columns.all (colOK m.sorts)=true) (h3:t.columns.length≤3) (hi:i<1000000) (h1:b1.length≤100000) (h2:b2.length≤100000) (hn:1000000≤n) :
  loopF (symmetry_open.l2 n m b1 b2 (i:Int) rec t) n ([[]],0)=rec (b1++(if decide (t.kind≤1)=true then placeP i (tuplesP m.sorts t.columns) else []),b2++(if decide (t.kind≤1)=false then placeP i (tuplesP m.sorts t.columns) else []),((i+1:Nat):Int)):=by
 have hpre:∀ k,(t.columns.take k).all (colOK m.sorts)=true:=λk=>yo.2 λc hm=>yo.1 hc c (List.mem_of_mem_take hm)
 have:=loopF_g (body:=symmetry_open.l2 n m b1 b2 (i:Int) rec t) (len:=t.columns.length) (st:=λk=>(tuplesP m.sorts (t.columns.take k),(k:Int))) (g:=λ_=>rec (b1++(if decide (t.kind≤1)=true then placeP i (tuplesP m.sorts t.columns) else []),b2++(if decide (t.kind≤1)=false then placeP i (tuplesP m.sorts t.columns) else []),((i+1:Nat):Int))) (λrec' k hk hr=>?_) (λrec'=>?_) n 0 (yv _) (by omega)
 ·simpa [tuplesP,tuplesF] using this
 ·have hcol:=yo.1 hc _ (ym hk);have hz:=sizeAt_ne hs hcol;obtain ⟨p1,p2⟩:=tuplesP_bound hs (hpre k) (by simp;omega);have hsz:idx m.sorts t.columns[k]=some (((sizeAt m.sorts t.columns[k]).toNat:Nat):Int):=by
   rw [idx_col hcol];unfold sizeAt at hz ⊢;congr 1;omega
  simp only [symmetry_open.l2,lt_len hk,if_true,idx_nat hk,ya];rw [open_l3 (k:=k+1) (add64_1 (by omega)) hsz (by omega) (λl hl=>by rw [p2 l hl];simp;omega) (by omega) hn,← hr];congr 2;unfold tuplesP;rw [yC hk,tuplesF_append];rfl
 ·obtain ⟨p1,-⟩:=tuplesP_bound hs hc h3;simp only [symmetry_open.l2,ge_len,yh,if_false,List.take_length];exact open_l5 hi (by omega) h1 h2 hn
theorem placesP_len {sizes s}:∀ {l:List Table} {i:Nat},(∀ t∈l,(tuplesP sizes t.columns).length≤216)→(placesP sizes s l i).length≤l.length*216
 | [],_,_=>by simp [placesP]
 | t::l,i,h=>by
  have ih:=placesP_len (s:=s) (l:=l) (i:=i+1) λx hx=>h x (by simp [hx])
  have ht:=h t (by simp);simp only [placesP,yK,yN];split
  ·simp only [placeP,yT];omega
  ·simp only [uw];omega
def layoutM (m:Model):Layout:=⟨m,placesP m.sorts true m.tables 0,placesP m.sorts false m.tables 0⟩
theorem symmetry_open_eq {n:Nat} {m} (hF:Fuel n) (hS:SmallM m):symmetry_open n m=some (if validP m=true then (some (layoutM m),true) else (none,false)):=by
 have hn:=hF.big;have htl:=hS.tables;unfold symmetry_open;rw [model_Valid_eq hF hS,ya];cases hv:validP m with
 | false=>simp
 | true=>
  have hV:=validP_iff.1 hv;obtain ⟨l1,l2,l3,l4⟩:=layoutP_tab hV.lay;have hb:∀ t∈m.tables,(tuplesP m.sorts t.columns).length≤216:=λt ht=>(tuplesP_bound l3 (l4 t ht).2.2.2.1 (l4 t ht).2.2.1).1
  rw [if_neg (by simp),if_pos rfl];have:=loopF_g (body:=symmetry_open.l1 n m) (len:=m.tables.length) (st:=λi=>(placesP m.sorts true (m.tables.take i) 0,placesP m.sorts false (m.tables.take i) 0,(i:Int))) (g:=λ_=>some (some (layoutM m),true)) (λrec i hi hr=>?_) (λrec=>?_) n 0 (yv _) (by omega)
  ·simpa [placesP] using this
  ·have hmem:=ym hi;obtain ⟨-,-,c1,c2,-⟩:=l4 _ hmem;have hA:=placesP_len (s:=true) (l:=m.tables.take i) (i:=0) λt ht=>hb t (List.mem_of_mem_take ht)
   have hB:=placesP_len (s:=false) (l:=m.tables.take i) (i:=0) λt ht=>hb t (List.mem_of_mem_take ht)
   simp only [yO] at hA hB;rw [placesP_snoc hi,placesP_snoc hi] at hr;simp only [symmetry_open.l1,lt_len hi,if_true,idx_nat hi,ya];rw [open_l2 l3 c2 c1 (by omega) (by omega) (by omega) (by omega)];exact hr
  ·simp [symmetry_open.l1,layoutM]
def questP (m:Model) (q:Question):Bool:=
 (((decide (0≤q.e)&&decide (q.e<(m.actions.length:Int)))&&(decide (0≤q.f)&&decide (q.f<(m.actions.length:Int))))&&decide (0≤q.target.index)) &&
 (if q.target.hold=true then decide (q.target.index<(((idx m.actions q.e).getD default).effect.hold.length:Int)) else decide (q.e≤q.f)&&decide (q.target.index<(m.constraints.length:Int)))
theorem quest_body {m q}:(if (((((decide (q.e<0))||(decide (q.f<0)))||(decide ((m.actions.length:Int)≤q.e)))||(decide ((m.actions.length:Int)≤q.f)))||(decide (q.target.index<0)))=true then some false
 else if q.target.hold=true then (idx m.actions q.e).bind λx=>some (decide (q.target.index<(x.effect.hold.length:Int))) else some ((decide (q.e≤q.f))&&(decide (q.target.index<(m.constraints.length:Int)))))=some (questP m q):=by
 unfold questP;by_cases h:((0≤q.e∧q.e<(m.actions.length:Int))∧(0≤q.f∧q.f<(m.actions.length:Int)))∧0≤q.target.index
 ·rw [if_neg (by simp;omega)];obtain ⟨a,ha⟩:=idx_some h.1.1.1 h.1.1.2;rw [ha];simp only [h,decide_true,uK,yB,ya,yf];split <;> rfl
 ·rw [if_pos (by simp;omega)];have:(((decide (0≤q.e)&&decide (q.e<(m.actions.length:Int)))&&(decide (0≤q.f)&&decide (q.f<(m.actions.length:Int))))&&decide (0≤q.target.index))=false:=by
   rw [← yE];simp only [yc,yd];exact h
  rw [this,y7]
theorem symmetry_Valid_eq {n m q} (hF:Fuel n) (hS:SmallM m):symmetry_Valid n m q=some (validP m&&questP m q):=by
 unfold symmetry_Valid;rw [symmetry_open_eq hF hS,ya];cases validP m with
 | false=>simp [grd]
 | true=>
  have:symmetry_layout_valid n (layoutM m) q=some (questP m q):=quest_body;simp [grd,this]
theorem ref16_Valid_eq {n m q} (hn:4294967296≤n) (hS:SmallM m):ref16_Valid n m q=some (validP m&&questP m q):=by
 unfold ref16_Valid;rw [ref13_Valid_eq hn hS,ya];cases validP m with
 | false=>simp
 | true=>
  simp only [y8,uh,yB];exact quest_body
theorem awake_spec:law24_awake 18446744073709551616=some true:=by decide +kernel
theorem keywords_spec:(lexer_keywords 18446744073709551616).map (λm=>m.es.map (λe=>e.2))=some (kwL.map λk=>(k,true)):=by decide +kernel
theorem fuel_N:Fuel 18446744073709551616:=by
 refine ⟨by decide,?_⟩;have h:=keywords_spec;cases hk:lexer_keywords 18446744073709551616 with
 | none=>rw [hk] at h;cases h
 | some m=>
  rw [hk] at h;simp only [yM,yg] at h;refine ⟨m,rfl,λe he=>?_,λk=>?_⟩
  ·have:e.2∈m.es.map (λe=>e.2):=List.mem_map_of_mem he;rw [h] at this;simp only [yV] at this;obtain ⟨x,-,hx⟩:=this;rw [← hx]
  ·have:m.es.map (λe=>e.2.1)=kwL:=by
    have e1:m.es.map (λe=>e.2.1)=(m.es.map (λe=>e.2)).map (·.1):=by rw [uI];rfl
    rw [e1,h,uI];exact List.map_id kwL
   rw [this]
theorem deltaP_spec {K}:∀ (l:List Change) (last:Int),deltaP K last l=true→(∀ d∈l,last<d.cell∧d.cell<(K:Int)∧d.add≠0∧-1000000000≤d.add∧d.add≤1000000000)∧(l.map (·.cell)).Nodup
 | [],_,_=>by simp
 | d::l,last,h=>by
  simp only [deltaP,aroundP,yc,yd,bne_iff_ne] at h;obtain ⟨⟨⟨⟨h1,h2⟩,h3⟩,h4,h5⟩,h6⟩:=h;obtain ⟨p1,p2⟩:=deltaP_spec l d.cell h6;refine ⟨λx hx=>?_,?_⟩
  ·simp only [yI] at hx;rcases hx with rfl | hx
   ·exact ⟨h1,h2,h3,h4,h5⟩
   ·obtain ⟨q1,q2⟩:=p1 x hx;exact ⟨by omega,q2⟩
  ·simp only [yP,List.nodup_cons,yV,not_exists,not_and];exact ⟨λx hx e=>by have:=(p1 x hx).1;omega,p2⟩
theorem valid_act {m} (hV:ValidM m) {a} (ha:a∈m.actions):effP m (rangesP m.sorts true m.tables).length a.effect=true∧(0≤a.operation∧a.operation<(m.operations.length:Int)):=by
 have h:=hV.acts;simp only [actsP,yc] at h;obtain ⟨i,hi,rfl⟩:=List.mem_iff_getElem.1 ha;have:=allR_0.1 h.2 i hi;simp only [idx_nat hi,yf,actP,yc,yd] at this;exact ⟨this.2,this.1.1.1.1⟩
theorem valid_con {m} (hV:ValidM m) {c} (hc:c∈m.constraints):plainP (rangesP m.sorts true m.tables).length c=true∨acyP m c=true:=by
 have h:=hV.cons;simp only [consP,yc] at h;obtain ⟨i,hi,rfl⟩:=List.mem_iff_getElem.1 hc;have:=allR_0.1 h.2 i hi;simp only [idx_nat hi,yf,conP,yc,yy] at this;exact this.1.2
theorem acy_size {m} (hV:ValidM m) {c} (h:acyP m c=true):c.kind=1∧1≤c.size∧c.size≤6:=by
 obtain ⟨l1,l2,l3,l4⟩:=layoutP_tab hV.lay;simp only [acyP,graphP,yc,un,beq_iff_eq] at h;obtain ⟨h1,-,t,ht,hg⟩:=h;simp only [graphT,yc,beq_iff_eq] at hg;obtain ⟨⟨g1,g2⟩,⟨g3,g4⟩,g5⟩:=hg;obtain ⟨⟨x,hx⟩,-,z,hz⟩:=graph_cols (l4 t ht).2.2.2.1 g2;refine ⟨h1,?_⟩;rw [hz] at g5;simp only [yf] at g5;have:=yo.1 l3 z (idx_mem hz);simp only [sizeOK,yc,yd] at this;omega
theorem good_of_valid {n m} (hn:4294967296≤n) (hS:SmallM m) (hV:ValidM m):Good n m:=by
 refine ⟨λa ha=>?_,λc hc=>?_⟩
 ·obtain ⟨a1,a2,a3,a4,a5⟩:=hS.act a ha;have he:=(valid_act hV ha).1;simp only [effP,yc] at he;obtain ⟨p1,p2⟩:=deltaP_spec _ _ he.1;exact ⟨by omega,by omega,λk=>addP_addedP k _ p2 λd hd=>by have:=p1 d hd;omega,λr hr=>by have:=a5 r hr;omega⟩
 ·have hl:=hS.con c hc;rcases valid_con hV hc with h | h
  ·simp only [plainP,yc,beq_iff_eq] at h;refine ⟨.inl h.1.1.1,by omega,by omega,0,?_,by decide,by omega⟩;rw [h.1.2];rfl
  ·obtain ⟨k1,s1,s2⟩:=acy_size hV h;refine ⟨.inr k1,by omega,by omega,c.size.toNat*c.size.toNat,?_,?_,?_⟩
   ·have:c.size*c.size≤6*6:=Int.mul_le_mul s2 s2 (by omega) (by omega);have h0:0≤c.size*c.size:=Int.mul_nonneg (by omega) (by omega);unfold mul64;rw [w64_id (by omega) (by omega),ug,Int.toNat_of_nonneg (by omega)]
   ·have:c.size.toNat*c.size.toNat≤6*6:=uv (by omega) (by omega);omega
   ·have:c.size.toNat*c.size.toNat≤6*6:=uv (by omega) (by omega);omega
theorem questP_spec {m q} (h:questP m q=true):(0≤q.e∧q.e<(m.actions.length:Int))∧(0≤q.f∧q.f<(m.actions.length:Int))∧0≤q.target.index∧(q.target.hold=true→∀ a,idx m.actions q.e=some a→q.target.index<(a.effect.hold.length:Int))∧(q.target.hold=false→q.e≤q.f∧q.target.index<(m.constraints.length:Int)):=by
 simp only [questP,yc,yd] at h;obtain ⟨⟨⟨h1,h2⟩,h3⟩,h4⟩:=h;refine ⟨h1,h2,h3,λhh a ha=>?_,λhh=>?_⟩
 ·rw [if_pos hh,ha] at h4;simpa using h4
 ·rw [if_neg (by simp [hh])] at h4;simpa using h4
def inBox:List Range→List Int→Bool
 | r::rs,x::xs=>(decide (r.lo≤x)&&decide (x≤r.hi))&&inBox rs xs
 | [],[]=>true
 | _,_=>false
end Go.Proofs.YtbnhmfnagdgcmaaGreatDoor
