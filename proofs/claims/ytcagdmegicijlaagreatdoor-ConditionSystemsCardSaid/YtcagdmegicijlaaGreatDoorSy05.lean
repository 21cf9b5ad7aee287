/- Part of the proof of one law of the seat. -/
import Derived.Test.YtcagdmegicijlaaGreatDoorSy04
set_option linter.unusedVariables false
set_option linter.unusedSectionVars false
set_option linter.unusedSimpArgs false
set_option maxHeartbeats 4000000
namespace Go.Proofs.YtcagdmegicijlaaGreatDoor
open Go Go.RowKit
abbrev yj := @_root_.Option.isSome_some
abbrev yr := @_root_.Bool.or_true
abbrev yz := @_root_.Bool.not_eq_true
abbrev yF := @_root_.List.take_succ_eq_append_getElem
abbrev yW := @_root_.Bool.false_and
abbrev ul := @_root_.Bool.or_eq_false_iff
abbrev uA := @_root_.Bool.not_false
abbrev uD := @_root_.bne_self_eq_false
abbrev uG := @_root_.Bool.true_or
abbrev uL := @_root_.Bool.and_self
abbrev uP := @_root_.Bool.or_false
abbrev uQ := @_root_.List.any_cons
theorem zea (n : Nat) (t0 : Model) (r : List Range) (h : zb2 n t0 = some r) : Pure pg 38 [Model.enc t0] (eK r) := by
 refine Pure.ot Tryz.func38 I Tryz.ntmps38 I fun A w => .sr<|.p I (.bx I)<|.p I (.nilS 2 (α := Range) Range.enc I)<|.nil<|.sr<|.f I (G30_0 _) Y22 I<|.f I (G30_1 _) Y23 I<|bK h fun x1 q1 h => .p I (.call I (kC I) I (zjA _ _ _ _ _ q1))<|.z I<|.nil<|.ret ?_
 cases h
 exact zbv I (.d _)
theorem zlK (n : Nat) (t0 : Model) (r : Bool) (h : zbs n t0 = some r) : Pure pg 11 [Model.enc t0] (.bool r) := by
 refine Pure.ot Tryz.func11 I Tryz.ntmps11 I fun A w => .sr<|.p I (.bx I)<|.z I<|.nil<|.seq<|.seq<|.plain 15 I<|.p I (.ld Y30 I)<|bK h fun x1 q1 h => .p I (.call I (kC I) I (ziL _ _ _ q1))<|.p I (.nt I)<|.m I<|.jO 4 (decide (12 < (t0.actions.length : Int))) I (fun b2 => ?_) ?_
 ·refine .qf I (G30_5 _) Y27 I<|.q I (.len I U27 I)<|.q I (.gt I)<|.nil I
 refine .m I<|.jO 4 (decide (40 < (t0.constraints.length : Int))) I (fun b3 => ?_) ?_
 ·refine .qf I (G30_3 _) Y25 I<|.q I (.len I U25 I)<|.q I (.gt I)<|.nil I
 refine .nil<|.nil<|.keep [] [1, 21] (.c2 I .nil) I<|.condS I h (fun h => ?_) fun h => ?_
 ·refine .sr<|.z I<|.nil<|.ret (rO h I)
 ·refine .skip<|.seq<|.sr<|.z I<|.nil<|.block<|.loopS [1] (fun (v : Int) => [(3, .d (.int v))]) (fun (v : Int) => []) (.c I .nil) h ⟨_, Fz4 I<|FzE⟩ (fun _ x8 h => ?_)
  refine .seq<|.sr<|.m I<|.f I (G30_5 _) Y27 I<|.p I (.len I U27 I)<|.p I (.ls I)<|.nil<|.keep [] [1, 3, 26] (.c2 I<|.c I .nil) I<|.condS I h (fun h => ?_) fun h => ?_
  ·refine .skip<|.seq<|.block<|.sr<|.f I (G30_5 _) Y27 I<|.m I<|bK h fun x10 q10 h => .p I (.ix I U27 S84 q10)<|.p I (.fa I (G84_2 _))<|.f I (G82_1 _) Y49 I<|.p I (.len I U49 I)<|.p I (.gt I)<|.nil<|.condS I h (fun h => ?_) fun h => ?_
   ·refine .sr<|.z I<|.nil<|.ret (rO h I)
   ·refine .skip<|.region<|.m I<|.p I (.ad I)<|.z I<|.nil ⟨_, h, _, Fz4 I<|FzE⟩
  ·refine .exit<|.sr<|.p I (.ld Y30 I)<|bK h fun x11 q11 h => .p I (.call I (kC I) I (zea _ _ _ q11))<|.z I<|.nil<|.seq<|.sr<|.m I<|.p I (.len I U48 I)<|.p I (.gt I)<|.nil<|.condS I h (fun h => ?_) fun h => ?_
   ·refine .sr<|.z I<|.nil<|.ret (rO h I)
   ·refine .skip<|.sr<|.z I<|.nil<|.seq<|.sr<|.z I<|.nil<|.block<|.loopS [4] (fun (v : Int × Int) => [(5, .d (.int v.1)), (6, .d (.int v.2))]) (fun (v : Int × Int) => []) (.c I .nil) h ⟨_, Fz4 I<|Fz2 I trivial⟩ (fun _ v h => ?_)
    obtain ⟨x20, x21⟩ := v
    refine .seq<|.sr<|.m I<|.m I<|.p I (.len I U48 I)<|.p I (.ls I)<|.nil<|.keep [] [4, 5, 6, 46] (.c4 I .nil) I<|.condS I h (fun h => ?_) fun h => ?_
    ·refine .skip<|.seq<|.block<|.seq<|.draw 15 Hm (by kernel_rfl) (by kernel_rfl)<|.m I<|.m I<|.m I<|bK h fun x23 q23 h => .p I (.ix I U48 S87 q23)<|.f I (G87_1 _) Y3 I<|.m I<|.m I<|bK h fun x24 q24 h => .p I (.ix I U48 S87 q24)<|.f I (G87_0 _) Y3 I<|.p I (.sb I)<|.p I (.ad I)<|.p I (.ml I)<|.z I<|.nil<|.nil<|.sr<|.m I<|.p I (.gt I)<|.nil<|.keep [] [4, 5, 6, 64] (.c4 I .nil) I<|.condS I h (fun h => ?_) fun h => ?_
     ·refine .sr<|.z I<|.nil<|.ret (rO h I)
     ·refine .skip<|.region<|.m I<|.p I (.ad I)<|.z I<|.nil ⟨_, h, _, Fz4 I<|Fz2 I trivial⟩
    ·refine .exit<|.sr<|.z I<|.nil<|.ret (rO h I)
theorem zeX (n : Nat) (t0 : List (List UInt8)) (r : Bool) (h : zaj n t0 = some r) : Pure pg 102 [eC t0] (.bool r) := by
 refine Pure.ot Tryz.func102 I Tryz.ntmps102 I fun A w => .sr<|.z I<|.nil<|.seq<|.sr<|.z I<|.nil<|.block<|.loopS [0] (fun (v : Int) => [(3, .d (.int v))]) (fun (v : Int) => []) (.c I .nil) h ⟨_, Fz4 I<|FzE⟩ (fun _ x15 h => ?_)
 refine .seq<|.sr<|.m I<|.m I<|.p I (.len I U24 I)<|.p I (.ls I)<|.nil<|.keep [] [0, 3, 7] (.c2 I<|.c I .nil) I<|.condS I h (fun h => ?_) fun h => ?_
 ·refine .skip<|.seq<|.block<|.seq<|.draw 16 Hm (by kernel_rfl) (by kernel_rfl)<|.m I<|.m I<|bK h fun x17 q17 h => .p I (.ix I U24 S9 q17)<|.p I (.ld Y9 I)<|bK h fun x18 q18 h => .p I (.call I (kC I) I (zhw _ _ _ q18))<|.p I (.nt I)<|.m I<|gK h fun c20 h => gK h fun c21 h => gK h fun c22 h => .jO 8 (((zcb n ((cut t0 0 x15).getD default) ((idx t0 x15).getD default)).getD default)) I (fun b19 => ?_) ?_
  ·refine .qm I<|.qm I<|.q I (.cutSlH I I I U24 S9 (someD (impF c20 b19)))<|.qm I<|.qm I<|.q I (.ix I U24 S9 (someD (impF c21 b19)))<|.q I (.ld Y9 I)<|.q I (.call I (kC I) I (ziv _ _ _ _ (someD (impF c22 b19))))<|.nil I
  refine .nil<|.nil<|.keep [] [0, 3, 25] (.c2 I<|.c I .nil) I<|.condS I h (fun h => ?_) fun h => ?_
  ·refine .sr<|.z I<|.nil<|.ret (rO h I)
  ·refine .skip<|.region<|.m I<|.p I (.ad I)<|.z I<|.nil ⟨_, h, _, Fz4 I<|FzE⟩
 ·refine .exit<|.sr<|.z I<|.nil<|.ret (rO h I)
theorem zhy (n : Nat) (t0 : List Term) (t1 : List Term) (r : Bool) (h : zaC n t0 t1 = some r) : Pure pg 205 [eL t0, eL t1] (.bool r) := by
 refine Pure.ot Tryz.func205 I Tryz.ntmps205 I fun A w => .sr<|.z I<|.nil<|.seq<|.sr<|.m I<|.p I (.len I U31 I)<|.m I<|.p I (.len I U31 I)<|.p I (.ne I)<|.nil<|.condS I h (fun h => ?_) fun h => ?_
 ·refine .sr<|.z I<|.nil<|.ret (rO h I)
 ·refine .skip<|.seq<|.sr<|.z I<|.nil<|.block<|.loopS [0, 1] (fun (v : Int) => [(5, .d (.int v))]) (fun (v : Int) => []) (.c2 I .nil) h ⟨_, Fz4 I<|Fz2 I trivial⟩ (fun _ x7 h => ?_)
  refine .seq<|.sr<|.m I<|.m I<|.p I (.len I U31 I)<|.p I (.ls I)<|.nil<|.keep [] [0, 1, 5, 14] (.c4 I .nil) I<|.condS I h (fun h => ?_) fun h => ?_
  ·refine .skip<|.seq<|.block<|.seq<|.draw 9 Hm (by kernel_rfl) (by kernel_rfl)<|.m I<|.m I<|bK h fun x9 q9 h => .p I (.ix I U31 S41 q9)<|.p I (.ld Y41 I)<|.m I<|.m I<|bK h fun x10 q10 h => .p I (.ix I U31 S41 q10)<|.p I (.ld Y41 I)<|.p I (.sneq I SE41 I I (xs := Term.vals _) (ys := Term.vals _) I I I I (SQ41 _ _))<|.nil<|.nil<|.condS I h (fun h => ?_) fun h => ?_
   ·refine .sr<|.z I<|.nil<|.ret (rO h I)
   ·refine .skip<|.region<|.m I<|.p I (.ad I)<|.z I<|.nil ⟨_, h, _, Fz4 I<|Fz2 I trivial⟩
  ·refine .exit<|.sr<|.z I<|.nil<|.ret (rO h I)
theorem zfu (n : Nat) (t0 : Row) (t1 : Row) (r : Bool) (h : zb7 n t0 t1 = some r) : Pure pg 164 [Row.enc t0, Row.enc t1] (.bool r) := by
 refine Pure.ot Tryz.func164 I Tryz.ntmps164 I fun A w => .sr<|.p I (.bx I)<|.p I (.bx I)<|.z I<|.nil<|.seq<|.plain 12 I<|.f I (G33_1 _) Y3 I<|.f I (G33_1 _) Y3 I<|.p I (.eq I)<|.m I<|gK h fun c2 h => .jA 5 (((zaC n t0.terms t1.terms).getD default)) I (fun b1 => ?_) ?_
 ·refine .qf I (G33_0 _) Y31 I<|.qf I (G33_0 _) Y31 I<|.q I (.call I (kC I) I (zhy _ _ _ _ (someD (impT c2 b1))))<|.nil I
 refine .nil<|.z I<|.nil<|.keep [] [4] (.c I .nil) I<|.ret (rO h I)
theorem zcN (n : Nat) (t0 : Int) (t1 : Int) (r : Bool) (h : z9 n t0 t1 = some r) : Pure pg 167 [.int t0, .int t1] (.bool r) := by
 refine Pure.ot Tryz.func167 I Tryz.ntmps167 I fun A w => .sr<|.z I<|.nil<|.seq<|.plain 9 I<|.m I<|.m I<|.p I (.neg6 I I)<|.p I (.ge I)<|.m I<|.jA 3 (decide (t0 ≤ t1)) I (fun b1 => ?_) ?_
 ·refine .qm I<|.qm I<|.q I (.le I)<|.nil I
 refine .nil<|.z I<|.nil<|.ret (rO h I)
theorem ziw (n : Nat) (t0 : Row) (t1 : Int) (r : Bool) (h : zbX n t0 t1 = some r) : Pure pg 165 [Row.enc t0, .int t1] (.bool r) := by
 refine Pure.ot Tryz.func165 I Tryz.ntmps165 I fun A w => .sr<|.p I (.bx I)<|.z I<|.nil<|.seq<|.sr<|.z I<|.nil<|.block<|.loopS [1, 2] (fun (v : Int) => [(5, .d (.int v))]) (fun (v : Int) => []) (.c2 I .nil) h ⟨_, Fz4 I<|Fz2 I trivial⟩ (fun _ x19 h => ?_)
 refine .seq<|.sr<|.m I<|.f I (G33_0 _) Y31 I<|.p I (.len I U31 I)<|.p I (.ls I)<|.nil<|.keep [] [1, 2, 5, 11] (.c4 I .nil) I<|.condS I h (fun h => ?_) fun h => ?_
 ·refine .skip<|.seq<|.block<|.sr<|.f I (G33_0 _) Y31 I<|.m I<|bK h fun x21 q21 h => .p I (.ix I U31 S41 q21)<|.p I (.ld Y41 I)<|.allocStore I I I I I I I I (by simp) I I Z41<|.nil<|.seq<|.draw 36 Hm (by kernel_rfl) (by kernel_rfl)<|.f I (G41_0 _) Y3 I<|.p I (.ls I)<|.m I<|.jO 4 (decide (t1 ≤ x21.cell)) I (fun b22 => ?_) ?_
  ·refine .qf I (G41_0 _) Y3 I<|.qm I<|.q I (.ge I)<|.nil I
  refine .m I<|gK h fun c25 h => .jO 14 ((decide (0 < x19)) && (decide (x21.cell ≤ ((idx t0.terms (sub64 x19 1)).getD default).cell))) I (fun b23 => ?_) ?_
  ·refine .qm I<|.q I (.gt I)<|.qm I<|.jAnd 10 (b2 := decide (x21.cell ≤ ((idx t0.terms (sub64 x19 1)).getD default).cell)) I I I I (.inr ⟨_, _, _, I, I, I⟩) (fun _ _ _ h1 h2 => by cases h1; cases h2; decide) I I (fun b24 => ?_) ?_
   ·refine .qf I (G33_0 _) Y31 I<|.qm I<|.q I (.sb I)<|.q I (.ix I U31 S41 (someD (impT (impF c25 b23) b24)))<|.qf I (G41_0 _) Y3 I<|.qf I (G41_0 _) Y3 I<|.q I (.ge I)<|.nil I
   exact .nil I
  refine .m I<|.jO 3 (x21.factor == 0) I (fun b26 => ?_) ?_
  ·refine .qf I (G41_1 _) Y3 I<|.q I (.eq I)<|.nil I
  refine .m I<|gK h fun c28 h => .jO 4 (!((z9 n x21.factor 1000).getD default)) I (fun b27 => ?_) ?_
  ·refine .qf I (G41_1 _) Y3 I<|.q I (.call I (kC I) I (zcN _ _ _ _ (someD (impF c28 b27))))<|.q I (.nt I)<|.nil I
  refine .nil<|.nil<|.keep [] [1, 2, 5, 54] (.c4 I .nil) I<|.condS I h (fun h => ?_) fun h => ?_
  ·refine .sr<|.z I<|.nil<|.ret (rO h I)
  ·refine .skip<|.region<|.m I<|.p I (.ad I)<|.z I<|.nil ⟨_, h, _, Fz4 I<|Fz2 I trivial⟩
 ·refine .exit<|.sr<|.f I (G33_1 _) Y3 I<|bK h fun x29 q29 h => .p I (.call I (kC I) I (zcN _ _ _ _ q29))<|.z I<|.nil<|.ret (rO h I)
theorem zj7 (n : Nat) (t0 : Model) (t1 : Constraint) (r : Bool) (h : zbi n t0 t1 = some r) : Pure pg 166 [Model.enc t0, Constraint.enc t1] (.bool r) := by
 refine Pure.ot Tryz.func166 I Tryz.ntmps166 I fun A w => .sr<|.p I (.bx I)<|.p I (.bx I)<|.z I<|.nil<|.seq<|.seq<|.plain 11 I<|.p I (.fa I (G78_2 _))<|.f I (G33_0 _) Y31 I<|.p I (.len I U31 I)<|.p I (.gt I)<|.m I<|.jO 4 (t1.row.bound != 0) I (fun b1 => ?_) ?_
 ·refine .q I (.fa I (G78_2 _))<|.qf I (G33_1 _) Y3 I<|.q I (.ne I)<|.nil I
 refine .nil<|.nil<|.condS I h (fun h => ?_) fun h => ?_
 ·refine .sr<|.z I<|.nil<|.ret (rO h I)
 ·refine .skip<|.seq<|.sr<|.z I<|.nil<|.block<|.loopS [2, 3] (fun (v : Int) => [(5, .d (.int v))]) (fun (v : Int) => []) (.c2 I .nil) h ⟨_, Fz4 I<|Fz2 I trivial⟩ (fun _ x22 h => ?_)
  refine .seq<|.sr<|.m I<|.f I (G30_1 _) Y23 I<|.p I (.len I U23 I)<|.p I (.ls I)<|.nil<|.keep [] [2, 3, 5, 22] (.c4 I .nil) I<|.condS I h (fun h => ?_) fun h => ?_
  ·refine .skip<|.seq<|.block<|.sr<|.f I (G30_1 _) Y23 I<|.m I<|bK h fun x24 q24 h => .p I (.ix I U23 S127 q24)<|.p I (.ld Y127 I)<|.allocStore I I I I I I I I (by simp) I I Z127<|.nil<|.seq<|.draw 40 Hm (by kernel_rfl) (by kernel_rfl)<|.f I (zcC _) Y3 I<|.p I (.eq I)<|.m I<|.jA 4 ((x24.columns.length : Int) == 2) I (fun b25 => ?_) ?_
   ·refine .qf I (zbR _) Y22 I<|.q I (.len I U22 I)<|.q I (.eq I)<|.nil I
   refine .m I<|gK h fun c27 h => gK h fun c28 h => .jA 9 (((idx x24.columns 0).getD default) == ((idx x24.columns 1).getD default)) I (fun b26 => ?_) ?_
   ·refine .qf I (zbR _) Y22 I<|.q I (.ix I U22 S3 (someD (impT c27 b26)))<|.q I (.ld Y3 I)<|.qf I (zbR _) Y22 I<|.q I (.ix I U22 S3 (someD (impT c28 b26)))<|.q I (.ld Y3 I)<|.q I (.eq I)<|.nil I
   refine .m I<|.jA 5 (x24.first == t1.first) I (fun b29 => ?_) ?_
   ·refine .qf I (ziW _) Y3 I<|.qf I (G78_3 _) Y3 I<|.q I (.eq I)<|.nil I
   refine .m I<|gK h fun c31 h => gK h fun c32 h => .jA 11 (((idx t0.sorts ((idx x24.columns 0).getD default)).getD default) == t1.size) I (fun b30 => ?_) ?_
   ·refine .qf I (G30_0 _) Y22 I<|.qf I (zbR _) Y22 I<|.q I (.ix I U22 S3 (someD (impT c31 b30)))<|.q I (.ld Y3 I)<|.q I (.ix I U22 S3 (someD (impT c32 b30)))<|.q I (.ld Y3 I)<|.qf I (G78_4 _) Y3 I<|.q I (.eq I)<|.nil I
   refine .nil<|.nil<|.keep [] [2, 3, 5, 69] (.c4 I .nil) I<|.condS I h (fun h => ?_) fun h => ?_
   ·refine .sr<|.z I<|.nil<|.ret (rO h I)
   ·refine .skip<|.region<|.m I<|.p I (.ad I)<|.z I<|.nil ⟨_, h, _, Fz4 I<|Fz2 I trivial⟩
  ·refine .exit<|.sr<|.z I<|.nil<|.ret (rO h I)
theorem zgw (n : Nat) (t0 : Model) (r : Bool) (h : zL n t0 = some r) : Pure pg 103 [Model.enc t0] (.bool r) := by
 refine Pure.ot Tryz.func103 I Tryz.ntmps103 I fun A w => .sr<|.p I (.bx I)<|.z I<|.nil<|.sr<|.p I (.ld Y30 I)<|bK h fun x1 q1 h => .p I (.call I (kC I) I (zea _ _ _ q1))<|.z I<|.nil<|.seq<|.seq<|.plain 13 I<|.f I (G30_3 _) Y25 I<|.p I (.len I U25 I)<|.m I<|.p I (.len I U48 I)<|.p I (.ml I)<|.p I (.ls I)<|.m I<|.jO 4 (decide (512 < (t0.constraints.length : Int))) I (fun b2 => ?_) ?_
 ·refine .qf I (G30_3 _) Y25 I<|.q I (.len I U25 I)<|.q I (.gt I)<|.nil I
 refine .nil<|.nil<|.keep [] [1, 3, 24] (.c2 I<|.c I .nil) I<|.condS I h (fun h => ?_) fun h => ?_
 ·refine .sr<|.z I<|.nil<|.ret (rO h I)
 ·refine .skip<|.seq<|.sr<|.z I<|.nil<|.block<|.loopS [1, 3] (fun (v : Int) => [(4, .d (.int v))]) (fun (v : Int) => []) (.c2 I .nil) h ⟨_, Fz4 I<|Fz2 I trivial⟩ (fun _ x19 h => ?_)
  refine .seq<|.sr<|.m I<|.m I<|.p I (.len I U48 I)<|.p I (.ls I)<|.nil<|.keep [] [1, 3, 4, 28] (.c4 I .nil) I<|.condS I h (fun h => ?_) fun h => ?_
  ·refine .skip<|.seq<|.block<|.sr<|.m I<|.p I (.castD (Term.enc (⟨x19, (-1)⟩ : Term)) I (.build I Pl41 (.agg Zc41 (ds' := [_, _]) (.e .e1)) I I))<|.p I (.buildSl [_] I I E31 I (fun _ => I) I (enc := Term.enc))<|.m I<|.m I<|bK h fun x21 q21 h => .p I (.ix I U48 S87 q21)<|.f I (G87_0 _) Y3 I<|.p I (.neg6 I I)<|.p I (.castD (Row.enc (⟨[(⟨x19, (-1)⟩ : Term)], neg64 x21.lo⟩ : Row)) I (.build I Pl33 (.agg Zc33 (ds' := [_, _]) (.e .e1)) I I))<|.allocStore I I I I I I I I (by simp) I I Z33<|.nil<|.sr<|.m I<|.p I (.castD (Term.enc (⟨x19, 1⟩ : Term)) I (.build I Pl41 (.agg Zc41 (ds' := [_, _]) (.e .e1)) I I))<|.p I (.buildSl [_] I I E31 I (fun _ => I) I (enc := Term.enc))<|.m I<|.m I<|bK h fun x22 q22 h => .p I (.ix I U48 S87 q22)<|.f I (G87_1 _) Y3 I<|.p I (.castD (Row.enc (⟨[(⟨x19, 1⟩ : Term)], x22.hi⟩ : Row)) I (.build I Pl33 (.agg Zc33 (ds' := [_, _]) (.e .e1)) I I))<|.allocStore I I I I I I I I (by simp) I I Z33<|.nil<|.keep [] [1, 3, 4, 5, 6] (.c4 I<|.c I .nil) I<|.seq<|.draw 23 Hm (by kernel_rfl) (by kernel_rfl)<|.f I (G30_3 _) Y25 I<|.m I ?_
   refine .p I (.ml I)<|bK h fun x23 q23 h => .p I (.ix I U25 S78 q23)<|.f I (G78_2 _) Y33 I<|.p I (.ld Y33 I)<|bK h fun x24 q24 h => .p I (.call I (kC I) I (zfu _ _ _ _ q24))<|.p I (.nt I)<|.m I<|gK h fun c26 h => gK h fun c27 h => .jO 11 (!((zb7 n (((idx t0.constraints (add64 (mul64 2 x19) 1)).getD default).row) (⟨[(⟨x19, 1⟩ : Term)], x22.hi⟩ : Row)).getD default)) I (fun b25 => ?_) ?_
   ·refine .qf I (G30_3 _) Y25 I<|.qm I<|.q I (.ml I)<|.q I (.ad I)<|.q I (.ix I U25 S78 (someD (impF c26 b25)))<|.qf I (G78_2 _) Y33 I<|.q I (.ld Y33 I)<|.q I (.call I (kC I) I (zfu _ _ _ _ (someD (impF c27 b25))))<|.q I (.nt I)<|.nil I
   refine .nil<|.nil<|.keep [] [1, 3, 4, 72] (.c4 I .nil) I<|.condS I h (fun h => ?_) fun h => ?_
   ·refine .sr<|.z I<|.nil<|.ret (rO h I)
   ·refine .skip<|.region<|.m I<|.p I (.ad I)<|.z I<|.nil ⟨_, h, _, Fz4 I<|Fz2 I trivial⟩
  ·refine .exit<|.seq<|.sr<|.z I<|.nil<|.block<|.loopS [1, 3] (fun (v : Int) => [(7, .d (.int v))]) (fun (v : Int) => []) (.c2 I .nil) h ⟨_, Fz4 I<|Fz2 I trivial⟩ (fun _ x50 h => ?_)
   refine .seq<|.sr<|.m I<|.f I (G30_3 _) Y25 I<|.p I (.len I U25 I)<|.p I (.ls I)<|.nil<|.keep [] [1, 3, 7, 77] (.c4 I .nil) I<|.condS I h (fun h => ?_) fun h => ?_
   ·refine .skip<|.seq<|.block<|.sr<|.f I (G30_3 _) Y25 I<|.m I<|bK h fun x52 q52 h => .p I (.ix I U25 S78 q52)<|.p I (.ld Y78 I)<|.allocStore I I I I I I I I (by simp) I I Z78<|.nil<|.seq<|.seq<|.plain 11 I<|.f I (G78_1 _) Y3 I<|.p I (.ls I)<|.m I<|.jO 6 (decide ((t0.families.length : Int) ≤ x52.family)) I (fun b53 => ?_) ?_
    ·refine .qf I (G78_1 _) Y3 I<|.qf I (G30_2 _) Y24 I<|.q I (.len I U24 I)<|.q I (.ge I)<|.nil I
    refine .nil<|.nil<|.keep [] [1, 3, 7, 8, 95] (.c4 I<|.c I .nil) I<|.condS I h (fun h => ?_) fun h => ?_
    ·refine .sr<|.z I<|.nil<|.ret (rO h I)
    ·refine .skip<|.seq<|.plain 20 I<|.f I (G78_0 _) Y3 I<|.p I (.eq I)<|.m I<|.jA 3 (x52.first == 0) I (fun b54 => ?_) ?_
     ·refine .qf I (G78_3 _) Y3 I<|.q I (.eq I)<|.nil I
     refine .m I<|.jA 3 (x52.size == 0) I (fun b55 => ?_) ?_
     ·refine .qf I (G78_4 _) Y3 I<|.q I (.eq I)<|.nil I
     refine .m I<|gK h fun c57 h => .jA 5 (((zbX n x52.row (x1.length : Int)).getD default)) I (fun b56 => ?_) ?_
     ·refine .qf I (G78_2 _) Y33 I<|.qm I<|.q I (.len I U48 I)<|.q I (.call I (kC I) I (ziw _ _ _ _ (someD (impT c57 b56))))<|.nil I
     refine .nil<|.z I<|.nil<|.keep [] [1, 3, 7, 8, 9] (.c4 I<|.c I .nil) I<|.seq<|.plain 20 I<|.m I<|.p I (.nt I)<|.m I<|gK h fun c61 h => .jA 16 (!(((decide (mul64 2 (x1.length : Int) ≤ x50)) && (x52.kind == 1)) && ((zbi n t0 x52).getD default))) I (fun b58 => ?_) ?_
     ·refine .qm I<|.qm I<|.q I (.len I U48 I)<|.q I (.ml I)<|.q I (.ge I)<|.qm I<|.jAnd 3 (b2 := x52.kind == 1) I I I I (.inr ⟨_, _, _, I, I, I⟩) (fun _ _ _ h1 h2 => by cases h1; cases h2; decide) I I (fun b59 => ?_) ?_
      ·refine .qf I (G78_0 _) Y3 I<|.q I (.eq I)<|.nil I
      refine .qm I<|.jAnd 3 (b2 := ((zbi n t0 x52).getD default)) I I I I (.inr ⟨_, _, _, I, I, I⟩) (fun _ _ _ h1 h2 => by cases h1; cases h2; decide) I I (fun b60 => ?_) ?_
      ·refine .q I (.ld Y30 I)<|.q I (.ld Y78 I)<|.q I (.call I (kC I) I (zj7 _ _ _ _ (someD (impT (impT c61 b58) b60))))<|.nil I
      refine .q I (.nt I)<|.nil I
     refine .nil<|.nil<|.keep [] [1, 3, 7, 135] (.c4 I .nil) I<|.condS I h (fun h => ?_) fun h => ?_
     ·refine .sr<|.z I<|.nil<|.ret (rO h I)
     ·refine .skip<|.region<|.m I<|.p I (.ad I)<|.z I<|.nil ⟨_, h, _, Fz4 I<|Fz2 I trivial⟩
   ·refine .exit<|.sr<|.z I<|.nil<|.ret (rO h I)
theorem zla (n : Nat) (t0 : List Int) (t1 : List Int) (r : Bool) (h : zbB n t0 t1 = some r) : Pure pg 168 [eA t0, eA t1] (.bool r) := by
 refine Pure.ot Tryz.func168 I Tryz.ntmps168 I fun A w => .sr<|.z I<|.nil<|.seq<|.sr<|.z I<|.nil<|.block<|.loopS [0, 1] (fun (v : Int) => [(5, .d (.int v))]) (fun (v : Int) => []) (.c2 I .nil) h ⟨_, Fz4 I<|Fz2 I trivial⟩ (fun _ x13 h => ?_)
 refine .seq<|.seq<|.plain 10 I<|.m I<|.m I<|.p I (.len I U22 I)<|.p I (.ls I)<|.m I<|.jA 4 (decide (x13 < (t1.length : Int))) I (fun b15 => ?_) ?_
 ·refine .qm I<|.qm I<|.q I (.len I U22 I)<|.q I (.ls I)<|.nil I
 refine .nil<|.nil<|.keep [] [0, 1, 5, 15] (.c4 I .nil) I<|.condS I h (fun h => ?_) fun h => ?_
 ·refine .skip<|.seq<|.block<|.seq<|.draw 9 Hm (by kernel_rfl) (by kernel_rfl)<|.m I<|.m I<|bK h fun x16 q16 h => .p I (.ix I U22 S3 q16)<|.p I (.ld Y3 I)<|.m I<|.m I<|bK h fun x17 q17 h => .p I (.ix I U22 S3 q17)<|.p I (.ld Y3 I)<|.p I (.ne I)<|.nil<|.nil<|.condS I h (fun h => ?_) fun h => ?_
  ·refine .seq<|.draw 10 Hm (by kernel_rfl) (by kernel_rfl)<|.m I<|.m I<|bK h fun x18 q18 h => .p I (.ix I U22 S3 q18)<|.p I (.ld Y3 I)<|.m I<|.m I<|bK h fun x19 q19 h => .p I (.ix I U22 S3 q19)<|.p I (.ld Y3 I)<|.p I (.ls I)<|.z I<|.nil<|.nil<|.keep [] [4] (.c I .nil) I<|.ret (rO h I)
  ·refine .skip<|.region<|.m I<|.p I (.ad I)<|.z I<|.nil ⟨_, h, _, Fz4 I<|Fz2 I trivial⟩
 ·refine .exit<|.sr<|.m I<|.p I (.len I U22 I)<|.m I<|.p I (.len I U22 I)<|.p I (.ls I)<|.z I<|.nil<|.ret (rO h I)
theorem zlI (n : Nat) (t0 : List Int) (t1 : List Int) (t2 : Int) (r : List Int) (h : zc8 n t0 t1 t2 = some r) : Pure pg 225 [eA t0, eA t1, .int t2] (eA r) := by
 refine Pure.ot Tryz.func225 I Tryz.ntmps225 I fun A w => .sr<|.p I (.nilS 1 (α := Int) D.int I)<|.nil<|.sr<|.m I<|.p I (.len I U22 I)<|bK h fun x1 q1 h => .makeVec (enc := D.int) (z := (0 : Int)) I I I I E22 I I I (.val Zv3) q1<|.z I<|.nil<|.seq<|.sr<|.m I<|.p I (.len I U22 I)<|.p I (.sb I)<|.z I<|.nil<|.block<|.loopS [0, 1] (fun (v : (List Int) × Int × Int) => [(2, .d (.int v.2.1)), (7, .vec 0 (List.length v.1)), (8, .d (.int v.2.2))]) (fun (v : (List Int) × Int × Int) => [(0, .vec 3 1 (List.map D.int v.1))]) (.c2 I .nil) h ⟨_, Fz8 I trivial⟩ (fun _ v h => ?_)
 obtain ⟨b0_24, x25, x26⟩ := v
 refine .seq<|.sr<|.m I<|.p I (.ge I)<|.nil<|.keep [.vec 3 1 (List.map D.int b0_24)] [0, 1, 2, 7, 8, 16] (.c4 I<|.c2 I .nil) I<|.condS I h (fun h => ?_) fun h => ?_
 ·refine .skip<|.seq<|.block<|.sr<|.m I<|.m I<|.m I<|.m I<|.m I<|.m I<|bK h fun x28 q28 h => .p I (.ix I U22 S3 q28)<|.p I (.ld Y3 I)<|bK h fun x29 q29 h => .p I (.ix I U22 S3 q29)<|.p I (.ld Y3 I)<|bK h fun x30 q30 h => .p I (.rem6 I I I q30)<|bK h fun x31 q31 h => .p I (.idxV I I I I I U22 S3 q31)<|bK h fun b0_32 hb0_32 h => .storeEl (enc := D.int) I I I I I I I I I C3 hb0_32<|.relen 7 I (zdk hb0_32)<|.relen 19 I (zdk hb0_32)<|.nil<|.region<|.m I<|.m I<|.m I<|.m I<|bK h fun x33 q33 h => .p I (.ix I U22 S3 q33)<|.p I (.ld Y3 I)<|bK h fun x34 q34 h => .p I (.ix I U22 S3 q34)<|.p I (.ld Y3 I)<|bK h fun x35 q35 h => .p I (.quo6 I I I q35)<|.z I ?_
  refine .nil<|.keep [.vec 3 1 (List.map D.int b0_32)] [0, 1, 2, 7, 8] (.c4 I<|.c I .nil) I<|.region<|.m I<|.p I (.sb I)<|.z I<|.nil ⟨_, h, _, Fz8 I trivial⟩
 ·refine .exit<|.sr<|.m I<|.z I<|.nil<|.ret ?_
  cases h
  exact zbv I (.vec I (by simp))
theorem zj4 (n : Nat) (t0 : List Int) (t1 : List Table) (t2 : Bool) (t3 : Int) (r : Int × (List Int) × Bool) (h : zb6 n t0 t1 t2 t3 = some r) : Pure pg 206 [eA t0, eB t1, .bool t2, .int t3] (.tup [.int r.1, eA r.2.1, .bool r.2.2]) := by
 refine Pure.ot Tryz.func206 I Tryz.ntmps206 I fun A w => .sr<|.z I<|.p I (.nilS 1 (α := Int) D.int I)<|.z I<|.nil<|.seq<|.sr<|.m I<|.m I<|bK h fun x1 q1 h => .p I (.call I (kC I) I (zeD _ _ _ _ q1))<|.p I (.nt I)<|.nil<|.condS I h (fun h => ?_) fun h => ?_
 ·refine .sr<|.z I<|.p I (.nilS 1 (α := Int) D.int I)<|.z I<|.nil<|.ret ?_
  cases h
  exact zgr I I I (.d _) (.d _) (.d _)
 ·refine .skip<|.seq<|.sr<|.z I<|.nil<|.block<|.loopS [0, 1, 2, 3] (fun (v : Int) => [(11, .d (.int v))]) (fun (v : Int) => []) (.c4 I .nil) h ⟨_, Fz8 I trivial⟩ (fun _ x24 h => ?_)
  refine .seq<|.sr<|.m I<|.m I<|.p I (.len I U23 I)<|.p I (.ls I)<|.nil<|.keep [] [0, 1, 2, 3, 11, 20] (.c4 I<|.c2 I .nil) I<|.condS I h (fun h => ?_) fun h => ?_
  ·refine .skip<|.seq<|.block<|.sr<|.m I<|.m I<|.m I<|bK h fun x26 q26 h => .p I (.ix I U23 S127 q26)<|.f I (ziW _) Y3 I<|.p I (.sb I)<|.z I<|.nil<|.seq<|.plain 27 I<|.m I<|.m I<|bK h fun x27 q27 h => .p I (.ix I U23 S127 q27)<|.f I (zcC _) Y3 I<|bK h fun x28 q28 h => .p I (.call I (kC I) I (zd9 _ _ _ q28))<|.m I<|.p I (.beq I U4 I I)<|.m I<|.jA 2 (decide (0 ≤ t3)) I (fun b29 => ?_) ?_
   ·refine .qm I<|.q I (.ge I)<|.nil I
   refine .m I<|.jA 2 (decide (0 ≤ sub64 t3 x26.first)) I (fun b30 => ?_) ?_
   ·refine .qm I<|.q I (.ge I)<|.nil I
   refine .m I<|gK h fun c32 h => gK h fun c33 h => .jA 9 (decide (sub64 t3 x26.first < ((zY n t0 (((idx t1 x24).getD default).columns)).getD default))) I (fun b31 => ?_) ?_
   ·refine .qm I<|.qm I<|.qm I<|.qm I<|.q I (.ix I U23 S127 (someD (impT c32 b31)))<|.qf I (zbR _) Y22 I<|.q I (.call I (kC I) I (zd8 _ _ _ _ (someD (impT c33 b31))))<|.q I (.ls I)<|.nil I
   refine .nil<|.nil<|.keep [] [0, 1, 2, 3, 11, 12, 56] (.c4 I<|.c2 I<|.c I .nil) I<|.condS I h (fun h => ?_) fun h => ?_
   ·refine .sr<|.m I<|.m I<|.m I<|.m I<|bK h fun x34 q34 h => .p I (.ix I U23 S127 q34)<|.f I (zbR _) Y22 I<|.m I<|bK h fun x35 q35 h => .p I (.call I (kC I) I (zlI _ _ _ _ _ q35))<|.z I<|.z I<|.z I<|.nil<|.ret ?_
    cases h
    exact zgr I I I (.d _) (.d _) (.d _)
   ·refine .skip<|.region<|.m I<|.p I (.ad I)<|.z I<|.nil ⟨_, h, _, Fz8 I trivial⟩
  ·refine .exit<|.sr<|.z I<|.p I (.nilS 1 (α := Int) D.int I)<|.z I<|.nil<|.ret ?_
   cases h
   exact zgr I I I (.d _) (.d _) (.d _)
theorem zix (n : Nat) (t0 : Int) (r : Bool) (h : zhz n t0 = some r) : Pure pg 207 [.int t0] (.bool r) := by
 refine Pure.ot Tryz.func207 I Tryz.ntmps207 I fun A w => .sr<|.z I<|.nil<|.seq<|.plain 6 I<|.m I<|.p I (.eq I)<|.m I<|.jO 2 (t0 == 3) I (fun b1 => ?_) ?_
 ·refine .qm I<|.q I (.eq I)<|.nil I
 refine .nil<|.z I<|.nil<|.ret (rO h I)
theorem zjB (n : Nat) (t0 : Model) (t1 : Effect) (r : Bool) (h : zT n t0 t1 = some r) : Pure pg 169 [Model.enc t0, Effect.enc t1] (.bool r) := by
 refine Pure.ot Tryz.func169 I Tryz.ntmps169 I fun A w => .sr<|.p I (.bx I)<|.p I (.bx I)<|.z I<|.nil<|.sr<|.p I (.ld Y30 I)<|bK h fun x1 q1 h => .p I (.call I (kC I) I (zea _ _ _ q1))<|.p I (.len I U48 I)<|.z I<|.nil<|.seq<|.sr<|.z I<|.nil<|.block<|.loopS [2, 3, 5] (fun (v : Int) => [(6, .d (.int v))]) (fun (v : Int) => []) (.c2 I<|.c I .nil) h ⟨_, Fz4 I<|Fz2 I<|FzE⟩ (fun _ x20 h => ?_)
 refine .seq<|.sr<|.m I<|.f I (G82_0 _) Y79 I<|.p I (.len I U79 I)<|.p I (.ls I)<|.nil<|.keep [] [2, 3, 5, 6, 22] (.c4 I<|.c I .nil) I<|.condS I h (fun h => ?_) fun h => ?_
 ·refine .skip<|.seq<|.block<|.sr<|.f I (G82_0 _) Y79 I<|.m I<|bK h fun x22 q22 h => .p I (.ix I U79 S131 q22)<|.p I (.ld Y131 I)<|.allocStore I I I I I I I I (by simp) I I Z131<|.nil<|.seq<|.draw 36 Hm (by kernel_rfl) (by kernel_rfl)<|.f I (zhc _) Y3 I<|.p I (.ls I)<|.m I<|.jO 4 (decide ((x1.length : Int) ≤ x22.cell)) I (fun b23 => ?_) ?_
  ·refine .qf I (zhc _) Y3 I<|.qm I<|.q I (.ge I)<|.nil I
  refine .m I<|gK h fun c26 h => .jO 14 ((decide (0 < x20)) && (decide (x22.cell ≤ ((idx t1.delta (sub64 x20 1)).getD default).cell))) I (fun b24 => ?_) ?_
  ·refine .qm I<|.q I (.gt I)<|.qm I<|.jAnd 10 (b2 := decide (x22.cell ≤ ((idx t1.delta (sub64 x20 1)).getD default).cell)) I I I I (.inr ⟨_, _, _, I, I, I⟩) (fun _ _ _ h1 h2 => by cases h1; cases h2; decide) I I (fun b25 => ?_) ?_
   ·refine .qf I (G82_0 _) Y79 I<|.qm I<|.q I (.sb I)<|.q I (.ix I U79 S131 (someD (impT (impF c26 b24) b25)))<|.qf I (zhc _) Y3 I<|.qf I (zhc _) Y3 I<|.q I (.ge I)<|.nil I
   exact .nil I
  refine .m I<|.jO 3 (x22.add == 0) I (fun b27 => ?_) ?_
  ·refine .qf I (zkm _) Y3 I<|.q I (.eq I)<|.nil I
  refine .m I<|gK h fun c29 h => .jO 4 (!((z9 n x22.add 1000000000).getD default)) I (fun b28 => ?_) ?_
  ·refine .qf I (zkm _) Y3 I<|.q I (.call I (kC I) I (zcN _ _ _ _ (someD (impF c29 b28))))<|.q I (.nt I)<|.nil I
  refine .nil<|.nil<|.keep [] [2, 3, 5, 6, 65] (.c4 I<|.c I .nil) I<|.condS I h (fun h => ?_) fun h => ?_
  ·refine .sr<|.z I<|.nil<|.ret (rO h I)
  ·refine .skip<|.region<|.m I<|.p I (.ad I)<|.z I<|.nil ⟨_, h, _, Fz4 I<|Fz2 I<|FzE⟩
 ·refine .exit<|.seq<|.sr<|.z I<|.nil<|.block<|.loopS [2, 3, 5] (fun (v : Int) => [(8, .d (.int v))]) (fun (v : Int) => []) (.c2 I<|.c I .nil) h ⟨_, Fz4 I<|Fz2 I<|FzE⟩ (fun _ x36 h => ?_)
  refine .seq<|.sr<|.m I<|.f I (G82_1 _) Y49 I<|.p I (.len I U49 I)<|.p I (.ls I)<|.nil<|.keep [] [2, 3, 5, 8, 70] (.c4 I<|.c I .nil) I<|.condS I h (fun h => ?_) fun h => ?_
  ·refine .skip<|.seq<|.block<|.sr<|.f I (G82_1 _) Y49 I<|.m I<|bK h fun x38 q38 h => .p I (.ix I U49 S33 q38)<|.p I (.ld Y33 I)<|.m I<|bK h fun x39 q39 h => .p I (.call I (kC I) I (ziw _ _ _ _ q39))<|.p I (.nt I)<|.nil<|.condS I h (fun h => ?_) fun h => ?_
   ·refine .sr<|.z I<|.nil<|.ret (rO h I)
   ·refine .skip<|.region<|.m I<|.p I (.ad I)<|.z I<|.nil ⟨_, h, _, Fz4 I<|Fz2 I<|FzE⟩
  ·refine .exit<|.seq<|.sr<|.z I<|.nil<|.block<|.loopS [2, 3] (fun (v : Int) => [(9, .d (.int v))]) (fun (v : Int) => []) (.c2 I .nil) h ⟨_, Fz4 I<|Fz2 I trivial⟩ (fun _ x70 h => ?_)
   refine .seq<|.sr<|.m I<|.f I (G82_2 _) Y80 I<|.p I (.len I U80 I)<|.p I (.ls I)<|.nil<|.keep [] [2, 3, 9, 85] (.c4 I .nil) I<|.condS I h (fun h => ?_) fun h => ?_
   ·refine .skip<|.seq<|.block<|.sr<|.f I (G82_2 _) Y80 I<|.m I<|bK h fun x72 q72 h => .p I (.ix I U80 S218 q72)<|.p I (.ld Y218 I)<|.allocStore I I I I I I I I (by simp) I I Z218<|.nil<|.sr<|.f I (G30_0 _) Y22 I<|.f I (G30_1 _) Y23 I<|.f I (zko _) Y3 I<|bK h fun x73 q73 h => .p I (.call I (kC I) I (zj4 _ _ _ _ _ _ q73))<|.m I<|.p I (.extract I I I)<|.p I (.extract I I I)<|.p I (.extract I I I)<|.z I<|.z I<|.z I<|.nil<|.keep [] [2, 3, 9, 10, 11, 13] (.c4 I<|.c2 I .nil) I<|.seq<|.seq<|.draw 18 Hm (by kernel_rfl) (by kernel_rfl)<|.m I<|.p I (.nt I)<|.m I<|gK h fun c76 h => .jO 14 ((decide (0 < x70)) && (decide (x72.cell ≤ ((idx t1.updates (sub64 x70 1)).getD default).cell))) I (fun b74 => ?_) ?_
    ·refine .qm I<|.q I (.gt I)<|.qm I<|.jAnd 10 (b2 := decide (x72.cell ≤ ((idx t1.updates (sub64 x70 1)).getD default).cell)) I I I I (.inr ⟨_, _, _, I, I, I⟩) (fun _ _ _ h1 h2 => by cases h1; cases h2; decide) I I (fun b75 => ?_) ?_
     ·refine .qf I (G82_2 _) Y80 I<|.qm I<|.q I (.sb I)<|.q I (.ix I U80 S218 (someD (impT (impF c76 b74) b75)))<|.qf I (zko _) Y3 I<|.qf I (zko _) Y3 I<|.q I (.ge I)<|.nil I
     exact .nil I
    refine .nil<|.nil<|.keep [] [2, 3, 9, 10, 11, 121] (.c4 I<|.c2 I .nil) I<|.condS I h (fun h => ?_) fun h => ?_
    ·refine .sr<|.z I<|.nil<|.ret (rO h I)
    ·refine .skip<|.sr<|.f I (G30_1 _) Y23 I<|.m I<|bK h fun x77 q77 h => .p I (.ix I U23 S127 q77)<|.p I (.ld Y127 I)<|.allocStore I I I I I I I I (by simp) I I Z127<|.nil<|.seq<|.seq<|.plain 18 I<|.f I (zcC _) Y3 I<|bK h fun x78 q78 h => .p I (.call I (kC I) I (zix _ _ _ q78))<|.m I<|.jA 13 (((x72.kind != 0) && (x72.kind != 1)) || (x72.value != 0)) I (fun b79 => ?_) ?_
     ·refine .qf I (zkn _) Y3 I<|.q I (.ne I)<|.qm I<|.jAnd 3 (b2 := x72.kind != 1) I I I I (.inr ⟨_, _, _, I, I, I⟩) (fun _ _ _ h1 h2 => by cases h1; cases h2; decide) I I (fun b80 => ?_) ?_
      ·refine .qf I (zkn _) Y3 I<|.q I (.ne I)<|.nil I
      refine .qm I<|.jOr 3 (b2 := x72.value != 0) I I I I (.inr ⟨_, _, _, I, I, I⟩) (fun _ _ _ h1 h2 => by cases h1; cases h2; decide) I I (fun b81 => ?_) ?_
      ·refine .qf I (zkp _) Y3 I<|.q I (.ne I)<|.nil I
      exact .nil I
     refine .nil<|.nil<|.keep [] [2, 3, 9, 10, 14, 144] (.c4 I<|.c2 I .nil) I<|.condS I h (fun h => ?_) fun h => ?_
     ·refine .sr<|.z I<|.nil<|.ret (rO h I)
     ·refine .skip<|.seq<|.plain 25 I<|.f I (zcC _) Y3 I<|bK h fun x82 q82 h => .p I (.call I (kC I) I (zix _ _ _ q82))<|.p I (.nt I)<|.m I<|.jA 19 (((x72.kind != 2) || (decide (x72.value < x77.range.lo))) || (decide (x77.range.hi < x72.value))) I (fun b83 => ?_) ?_
      ·refine .qf I (zkn _) Y3 I<|.q I (.ne I)<|.qm I<|.jOr 6 (b2 := decide (x72.value < x77.range.lo)) I I I I (.inr ⟨_, _, _, I, I, I⟩) (fun _ _ _ h1 h2 => by cases h1; cases h2; decide) I I (fun b84 => ?_) ?_
       ·refine .qf I (zkp _) Y3 I<|.q I (.fa I (zdg _))<|.qf I (G87_0 _) Y3 I<|.q I (.ls I)<|.nil I
       refine .qm I<|.jOr 6 (b2 := decide (x77.range.hi < x72.value)) I I I I (.inr ⟨_, _, _, I, I, I⟩) (fun _ _ _ h1 h2 => by cases h1; cases h2; decide) I I (fun b85 => ?_) ?_
       ·refine .qf I (zkp _) Y3 I<|.q I (.fa I (zdg _))<|.qf I (G87_1 _) Y3 I<|.q I (.gt I)<|.nil I
       exact .nil I
      refine .nil<|.nil<|.keep [] [2, 3, 9, 169] (.c4 I .nil) I<|.condS I h (fun h => ?_) fun h => ?_
      ·refine .sr<|.z I<|.nil<|.ret (rO h I)
      ·refine .skip<|.region<|.m I<|.p I (.ad I)<|.z I<|.nil ⟨_, h, _, Fz4 I<|Fz2 I trivial⟩
   ·refine .exit<|.seq<|.plain 10 I<|.f I (G82_1 _) Y49 I<|.p I (.len I U49 I)<|.p I (.le I)<|.m I<|.jA 4 (decide ((t1.updates.length : Int) ≤ 32)) I (fun b86 => ?_) ?_
    ·refine .qf I (G82_2 _) Y80 I<|.q I (.len I U80 I)<|.q I (.le I)<|.nil I
    refine .nil<|.z I<|.nil<|.ret (rO h I)
theorem ziN (n : Nat) (t0 : Model) (r : Bool) (h : zq n t0 = some r) : Pure pg 104 [Model.enc t0] (.bool r) := by
 refine Pure.ot Tryz.func104 I Tryz.ntmps104 I fun A w => .sr<|.p I (.bx I)<|.z I<|.nil<|.sr<|.buildVec [] I I I I I E24 I (fun _ => I) I (enc := D.str)<|.z I<|.nil<|.seq<|.sr<|.z I<|.nil<|.block<|.loopS [1] (fun (v : (List (List UInt8)) × Int) => [(3, .vec 0 (List.length v.1)), (4, .d (.int v.2))]) (fun (v : (List (List UInt8)) × Int) => [(0, .vec 9 1 (List.map D.str v.1))]) (.c I .nil) h ⟨_, Fz4 I<|Fz2 I trivial⟩ (fun _ v h => ?_)
 obtain ⟨b0_35, x36⟩ := v
 refine .seq<|.sr<|.m I<|.f I (G30_4 _) Y26 I<|.p I (.len I U26 I)<|.p I (.ls I)<|.nil<|.keep [.vec 9 1 (List.map D.str b0_35)] [1, 3, 4, 17] (.c4 I .nil) I<|.condS I h (fun h => ?_) fun h => ?_
 ·refine .skip<|.seq<|.block<|.sr<|.f I (G30_4 _) Y26 I<|.m I<|bK h fun x38 q38 h => .p I (.ix I U26 S129 q38)<|.p I (.ld Y129 I)<|.allocStore I I I I I I I I (by simp) I I Z129<|.nil<|.sr<|.m I<|.f I (zm7 _) Y9 I<|.p I (.buildSl [_] I I E24 I (fun _ => I) I (enc := D.str))<|bK h fun x39 q39 h => .app I I I I I I I I E24 I (fun _ => I) q39<|.z I<|.nil<|.seq<|.sr<|.z I<|.nil<|.block<|.loopS [1, 3, 4, 5] (fun (v : Int) => [(6, .d (.int v))]) (fun (v : Int) => []) (.c4 I .nil) h ⟨_, Fz8 I trivial⟩ (fun _ x48 h => ?_)
  refine .seq<|.sr<|.m I<|.f I (zfB _) Y22 I<|.p I (.len I U22 I)<|.p I (.ls I)<|.nil<|.keep [.vec 9 1 (List.map D.str x39)] [1, 3, 4, 5, 6, 34] (.c4 I<|.c2 I .nil) I<|.condS I h (fun h => ?_) fun h => ?_
  ·refine .skip<|.seq<|.block<|.seq<|.draw 17 Hm (by kernel_rfl) (by kernel_rfl)<|.f I (zfB _) Y22 I<|.m I<|bK h fun x50 q50 h => .p I (.ix I U22 S3 q50)<|.p I (.ld Y3 I)<|.p I (.ls I)<|.m I<|gK h fun c52 h => .jO 9 (decide ((t0.sorts.length : Int) ≤ ((idx x38.sorts x48).getD default))) I (fun b51 => ?_) ?_
   ·refine .qf I (zfB _) Y22 I<|.qm I<|.q I (.ix I U22 S3 (someD (impF c52 b51)))<|.q I (.ld Y3 I)<|.qf I (G30_0 _) Y22 I<|.q I (.len I U22 I)<|.q I (.ge I)<|.nil I
   refine .nil<|.nil<|.keep [.vec 9 1 (List.map D.str x39)] [1, 3, 4, 5, 6, 53] (.c4 I<|.c2 I .nil) I<|.condS I h (fun h => ?_) fun h => ?_
   ·refine .sr<|.z I<|.nil<|.ret (rO h I)
   ·refine .skip<|.region<|.m I<|.p I (.ad I)<|.z I<|.nil ⟨_, h, _, Fz8 I trivial⟩
  ·refine .exit<|.sr<|.f I (zfB _) Y22 I<|.p I (.len I U22 I)<|.p I (.gt I)<|.nil<|.condS I h (fun h => ?_) fun h => ?_
   ·refine .sr<|.z I<|.nil<|.ret (rO h I)
   ·refine .skip<|.region<|.m I<|.p I (.ad I)<|.z I<|.nil ⟨_, h, _, Fz4 I<|Fz2 I trivial⟩
 ·refine .exit<|.seq<|.seq<|.plain 15 I<|.f I (G30_4 _) Y26 I<|.p I (.len I U26 I)<|.p I (.gt I)<|.m I<|gK h fun c54 h => .jO 3 (!((zaj n b0_35).getD default)) I (fun b53 => ?_) ?_
  ·refine .qm I<|.q I (.callB I (kC I) (.cons I (.vec I (by simp)) .nil) I (zeX _ _ _ (someD (impF c54 b53))))<|.q I (.nt I)<|.nil I
  refine .m I<|.jO 4 (decide (256 < (t0.actions.length : Int))) I (fun b55 => ?_) ?_
  ·refine .qf I (G30_5 _) Y27 I<|.q I (.len I U27 I)<|.q I (.gt I)<|.nil I
  refine .nil<|.nil<|.condS I h (fun h => ?_) fun h => ?_
  ·refine .sr<|.z I<|.nil<|.keep [.vec 9 1 (List.map D.str b0_35)] [2] (.c I .nil) I<|.ret (rO h I)
  ·refine .skip<|.seq<|.sr<|.z I<|.nil<|.keep [.vec 9 1 (List.map D.str b0_35)] [1, 7] (.c2 I .nil) I<|.block<|.loopS [1] (fun (v : Int) => [(7, .d (.int v))]) (fun (v : Int) => []) (.c I .nil) h ⟨_, Fz4 I<|FzE⟩ (fun _ x152 h => ?_)
   refine .seq<|.sr<|.m I<|.f I (G30_5 _) Y27 I<|.p I (.len I U27 I)<|.p I (.ls I)<|.nil<|.keep [.vec 9 1 (List.map D.str b0_35)] [1, 7, 77] (.c2 I<|.c I .nil) I<|.condS I h (fun h => ?_) fun h => ?_
   ·refine .skip<|.seq<|.block<|.sr<|.f I (G30_5 _) Y27 I<|.m I<|bK h fun x154 q154 h => .p I (.ix I U27 S84 q154)<|.p I (.ld Y84 I)<|.allocStore I I I I I I I I (by simp) I I Z84<|.nil<|.seq<|.seq<|.draw 25 Hm (by kernel_rfl) (by kernel_rfl)<|.f I (G84_0 _) Y3 I<|.p I (.ls I)<|.m I<|.jO 6 (decide ((t0.operations.length : Int) ≤ x154.operation)) I (fun b155 => ?_) ?_
    ·refine .qf I (G84_0 _) Y3 I<|.qf I (G30_4 _) Y26 I<|.q I (.len I U26 I)<|.q I (.ge I)<|.nil I
    refine .m I<|gK h fun c157 h => .jO 12 ((x154.arguments.length : Int) != ((((idx t0.operations x154.operation).getD default).sorts).length : Int)) I (fun b156 => ?_) ?_
    ·refine .qf I (G84_1 _) Y22 I<|.q I (.len I U22 I)<|.qf I (G30_4 _) Y26 I<|.qf I (G84_0 _) Y3 I<|.q I (.ix I U26 S129 (someD (impF c157 b156)))<|.qf I (zfB _) Y22 I<|.q I (.len I U22 I)<|.q I (.ne I)<|.nil I
    refine .nil<|.nil<|.keep [.vec 9 1 (List.map D.str b0_35)] [1, 7, 8, 109] (.c4 I .nil) I<|.condS I h (fun h => ?_) fun h => ?_
    ·refine .sr<|.z I<|.nil<|.ret (rO h I)
    ·refine .skip<|.seq<|.sr<|.z I<|.nil<|.block<|.loopS [1, 7, 8] (fun (v : Int) => [(9, .d (.int v))]) (fun (v : Int) => []) (.c2 I<|.c I .nil) h ⟨_, Fz4 I<|Fz2 I<|FzE⟩ (fun _ x182 h => ?_)
     refine .seq<|.sr<|.m I<|.f I (G84_1 _) Y22 I<|.p I (.len I U22 I)<|.p I (.ls I)<|.nil<|.keep [.vec 9 1 (List.map D.str b0_35)] [1, 7, 8, 9, 114] (.c4 I<|.c I .nil) I<|.condS I h (fun h => ?_) fun h => ?_
     ·refine .skip<|.seq<|.block<|.sr<|.f I (G30_4 _) Y26 I<|.f I (G84_0 _) Y3 I<|bK h fun x184 q184 h => .p I (.ix I U26 S129 q184)<|.f I (zfB _) Y22 I<|.m I<|bK h fun x185 q185 h => .p I (.ix I U22 S3 q185)<|.p I (.ld Y3 I)<|.z I<|.nil<|.seq<|.draw 36 Hm (by kernel_rfl) (by kernel_rfl)<|.m I<|.p I (.ls I)<|.m I<|gK h fun c187 h => gK h fun c188 h => .jA 7 (!((z9 n ((idx x154.arguments x182).getD default) 9999).getD default)) I (fun b186 => ?_) ?_
      ·refine .qf I (G84_1 _) Y22 I<|.qm I<|.q I (.ix I U22 S3 (someD (impT c187 b186)))<|.q I (.ld Y3 I)<|.q I (.call I (kC I) I (zcN _ _ _ _ (someD (impT c188 b186))))<|.q I (.nt I)<|.nil I
      refine .m I<|gK h fun c191 h => gK h fun c193 h => gK h fun c194 h => .jO 23 ((decide (0 ≤ x185)) && ((decide (((idx x154.arguments x182).getD default) < 0)) || (decide (((idx t0.sorts x185).getD default) ≤ ((idx x154.arguments x182).getD default))))) I (fun b189 => ?_) ?_
      ·refine .qm I<|.q I (.ge I)<|.qm I<|.jAnd 19 (b2 := (decide (((idx x154.arguments x182).getD default) < 0)) || (decide (((idx t0.sorts x185).getD default) ≤ ((idx x154.arguments x182).getD default)))) I I I I (.inr ⟨_, _, _, I, I, I⟩) (fun _ _ _ h1 h2 => by cases h1; cases h2; decide) I I (fun b190 => ?_) ?_
       ·refine .qf I (G84_1 _) Y22 I<|.qm I<|.q I (.ix I U22 S3 (someD (impT (impF c191 b189) b190)))<|.q I (.ld Y3 I)<|.q I (.ls I)<|.qm I<|.jOr 11 (b2 := decide (((idx t0.sorts x185).getD default) ≤ ((idx x154.arguments x182).getD default))) I I I I (.inr ⟨_, _, _, I, I, I⟩) (fun _ _ _ h1 h2 => by cases h1; cases h2; decide) I I (fun b192 => ?_) ?_
        ·refine .qf I (G84_1 _) Y22 I<|.qm I<|.q I (.ix I U22 S3 (someD (impF (impT (impF c193 b189) b190) b192)))<|.q I (.ld Y3 I)<|.qf I (G30_0 _) Y22 I<|.qm I<|.q I (.ix I U22 S3 (someD (impF (impT (impF c194 b189) b190) b192)))<|.q I (.ld Y3 I)<|.q I (.ge I)<|.nil I
        exact .nil I
       exact .nil I
      refine .nil<|.nil<|.keep [.vec 9 1 (List.map D.str b0_35)] [1, 7, 8, 9, 162] (.c4 I<|.c I .nil) I<|.condS I h (fun h => ?_) fun h => ?_
      ·refine .sr<|.z I<|.nil<|.ret (rO h I)
      ·refine .skip<|.region<|.m I<|.p I (.ad I)<|.z I<|.nil ⟨_, h, _, Fz4 I<|Fz2 I<|FzE⟩
     ·refine .exit<|.join [1, 7, 8] (fun (v : Unit) => []) (fun (v : Unit) => []) (.c2 I<|.c I .nil) h (fun k_195 h => ?_) (fun v h => ?_)
      ·refine .sr<|.m I<|.p I (.gt I)<|.nil<|.condS I h (fun h => ?_) fun h => ?_
       ·refine .sr<|.f I (G30_5 _) Y27 I<|.m I<|.p I (.sb I)<|bK h fun x196 q196 h => .p I (.ix I U27 S84 q196)<|.p I (.ld Y84 I)<|.allocStore I I I I I I I I (by simp) I I Z84<|.nil<|.seq<|.plain 20 I<|.f I (G84_0 _) Y3 I<|.f I (G84_0 _) Y3 I<|.p I (.gt I)<|.m I<|gK h fun c199 h => .jO 13 ((x196.operation == x154.operation) && (!((zbB n x196.arguments x154.arguments).getD default))) I (fun b197 => ?_) ?_
        ·refine .qf I (G84_0 _) Y3 I<|.qf I (G84_0 _) Y3 I<|.q I (.eq I)<|.qm I<|.jAnd 6 (b2 := !((zbB n x196.arguments x154.arguments).getD default)) I I I I (.inr ⟨_, _, _, I, I, I⟩) (fun _ _ _ h1 h2 => by cases h1; cases h2; decide) I I (fun b198 => ?_) ?_
         ·refine .qf I (G84_1 _) Y22 I<|.qf I (G84_1 _) Y22 I<|.q I (.call I (kC I) I (zla _ _ _ _ (someD (impT (impF c199 b197) b198))))<|.q I (.nt I)<|.nil I
         exact .nil I
        refine .nil<|.nil<|.keep [.vec 9 1 (List.map D.str b0_35)] [1, 7, 8, 190] (.c4 I .nil) I<|.condS I h (fun h => ?_) fun h => ?_
        ·refine .sr<|.z I<|.nil<|.ret (rO h I)
        ·refine .skip ⟨_, h, _, Fz4 I<|Fz2 I trivial⟩
       ·refine .skip ⟨_, h, _, Fz4 I<|Fz2 I trivial⟩
      ·refine .sr<|.p I (.ld Y30 I)<|.f I (G84_2 _) Y82 I<|bK h fun x200 q200 h => .p I (.call I (kC I) I (zjB _ _ _ _ q200))<|.p I (.nt I)<|.nil<|.keep [.vec 9 1 (List.map D.str b0_35)] [1, 7, 195] (.c2 I<|.c I .nil) I<|.condS I h (fun h => ?_) fun h => ?_
       ·refine .sr<|.z I<|.nil<|.ret (rO h I)
       ·refine .skip<|.region<|.m I<|.p I (.ad I)<|.z I<|.nil ⟨_, h, _, Fz4 I<|FzE⟩
   ·refine .exit<|.sr<|.z I<|.nil<|.ret (rO h I)
theorem ziO (n : Nat) (self : Model → Int → Int → Int → Option Bool) (hself : ∀ (t0 : Model) (t1 : Int) (t2 : Int) (t3 : Int) (r : Bool), self t0 t1 t2 t3 = some r → Pure pg 170 [Model.enc t0, .int t1, .int t2, .int t3] (.bool r)) (t0 : Model) (t1 : Int) (t2 : Int) (t3 : Int) (r : Bool) (h : zap.body n self t0 t1 t2 t3 = some r) : Pure pg 170 [Model.enc t0, .int t1, .int t2, .int t3] (.bool r) := by
 refine Pure.ot Tryz.func170 I Tryz.ntmps170 I fun A w => .sr<|.p I (.bx I)<|.z I<|.nil<|.seq<|.sr<|.m I<|.m I<|.p I (.eq I)<|.nil<|.condS I h (fun h => ?_) fun h => ?_
 ·refine .sr<|.z I<|.nil<|.ret (rO h I)
 ·refine .skip<|.seq<|.sr<|.z I<|.nil<|.block<|.loopS [1, 2, 3, 4] (fun (v : Int) => [(9, .d (.int v))]) (fun (v : Int) => []) (.c4 I .nil) h ⟨_, Fz8 I trivial⟩ (fun _ x13 h => ?_)
  refine .seq<|.seq<|.plain 9 I<|.m I<|.f I (G30_6 _) Y28 I<|.p I (.len I U28 I)<|.p I (.ls I)<|.m I<|.jA 2 (decide (0 < t3)) I (fun b15 => ?_) ?_
  ·refine .qm I<|.q I (.gt I)<|.nil I
  refine .nil<|.nil<|.keep [] [1, 2, 3, 4, 9, 21] (.c4 I<|.c2 I .nil) I<|.condS I h (fun h => ?_) fun h => ?_
  ·refine .skip<|.seq<|.block<|.seq<|.draw 21 Hm (by kernel_rfl) (by kernel_rfl)<|.f I (G30_6 _) Y28 I<|.m I<|bK h fun x16 q16 h => .p I (.ix I U28 S179 q16)<|.f I (zfC _) Y3 I<|.m I<|.p I (.eq I)<|.m I<|gK h fun c18 h => gK h fun c19 h => .jA 11 (((self t0 (((idx t0.hides x13).getD default).to) t2 (sub64 t3 1)).getD default)) I (fun b17 => ?_) ?_
   ·refine .q I (.ld Y30 I)<|.qf I (G30_6 _) Y28 I<|.qm I<|.q I (.ix I U28 S179 (someD (impT c18 b17)))<|.qf I (zgA _) Y3 I<|.qm I<|.qm I<|.q I (.sb I)<|.q I (.call I (kC I) I (hself _ _ _ _ _ (someD (impT c19 b17))))<|.nil I
   refine .nil<|.nil<|.keep [] [1, 2, 3, 4, 9, 44] (.c4 I<|.c2 I .nil) I<|.condS I h (fun h => ?_) fun h => ?_
   ·refine .sr<|.z I<|.nil<|.ret (rO h I)
   ·refine .skip<|.region<|.m I<|.p I (.ad I)<|.z I<|.nil ⟨_, h, _, Fz8 I trivial⟩
  ·refine .exit<|.sr<|.z I<|.nil<|.ret (rO h I)
theorem zgN : ∀ (n : Nat) (t0 : Model) (t1 : Int) (t2 : Int) (t3 : Int) (r : Bool) (h : zap n t0 t1 t2 t3 = some r), Pure pg 170 [Model.enc t0, .int t1, .int t2, .int t3] (.bool r)
 | 0, t0, t1, t2, t3, r, h => by cases h
 | n + 1, t0, t1, t2, t3, r, h => ziO n (zap n) (zgN n) t0 t1 t2 t3 r h
theorem zjD (n : Nat) (t0 : Model) (r : Bool) (h : zal n t0 = some r) : Pure pg 105 [Model.enc t0] (.bool r) := by
 refine Pure.ot Tryz.func105 I Tryz.ntmps105 I fun A w => .sr<|.p I (.bx I)<|.z I<|.nil<|.seq<|.sr<|.f I (G30_6 _) Y28 I<|.p I (.len I U28 I)<|.p I (.gt I)<|.nil<|.condS I h (fun h => ?_) fun h => ?_
 ·refine .sr<|.z I<|.nil<|.ret (rO h I)
 ·refine .skip<|.seq<|.sr<|.z I<|.nil<|.block<|.loopS [1] (fun (v : Int) => [(3, .d (.int v))]) (fun (v : Int) => []) (.c I .nil) h ⟨_, Fz4 I<|FzE⟩ (fun _ x31 h => ?_)
  refine .seq<|.sr<|.m I<|.f I (G30_6 _) Y28 I<|.p I (.len I U28 I)<|.p I (.ls I)<|.nil<|.keep [] [1, 3, 16] (.c2 I<|.c I .nil) I<|.condS I h (fun h => ?_) fun h => ?_
  ·refine .skip<|.seq<|.block<|.sr<|.f I (G30_6 _) Y28 I<|.m I<|bK h fun x33 q33 h => .p I (.ix I U28 S179 q33)<|.p I (.ld Y179 I)<|.allocStore I I I I I I I I (by simp) I I Z179<|.nil<|.seq<|.seq<|.plain 31 I<|.f I (zfC _) Y3 I<|.p I (.ls I)<|.m I<|.jO 6 (decide ((t0.tables.length : Int) ≤ x33.table)) I (fun b34 => ?_) ?_
   ·refine .qf I (zfC _) Y3 I<|.qf I (G30_1 _) Y23 I<|.q I (.len I U23 I)<|.q I (.ge I)<|.nil I
   refine .m I<|.jO 3 (decide (x33.to < 0)) I (fun b35 => ?_) ?_
   ·refine .qf I (zgA _) Y3 I<|.q I (.ls I)<|.nil I
   refine .m I<|.jO 6 (decide ((t0.tables.length : Int) ≤ x33.to)) I (fun b36 => ?_) ?_
   ·refine .qf I (zgA _) Y3 I<|.qf I (G30_1 _) Y23 I<|.q I (.len I U23 I)<|.q I (.ge I)<|.nil I
   refine .m I<|.jO 5 (x33.table == x33.to) I (fun b37 => ?_) ?_
   ·refine .qf I (zfC _) Y3 I<|.qf I (zgA _) Y3 I<|.q I (.eq I)<|.nil I
   refine .nil<|.nil<|.keep [] [1, 3, 4, 54] (.c4 I .nil) I<|.condS I h (fun h => ?_) fun h => ?_
   ·refine .sr<|.z I<|.nil<|.ret (rO h I)
   ·refine .skip<|.seq<|.draw 16 Hm (by kernel_rfl) (by kernel_rfl)<|.f I (G30_1 _) Y23 I<|.f I (zfC _) Y3 I<|bK h fun x38 q38 h => .p I (.ix I U23 S127 q38)<|.p I (.ld Y127 I)<|.f I (G30_1 _) Y23 I<|.f I (zgA _) Y3 I<|bK h fun x39 q39 h => .p I (.ix I U23 S127 q39)<|.p I (.ld Y127 I)<|.alloc I I I I ZZ127<|.alloc I I I I ZZ127<|.store I I I I I I Z127<|.store I I I I I I Z127<|.nil<|.freezes [0, 1] (.cons (t := 5) (d := .ref (Table.enc x38)) I (.loc (inIds I) I (.v (.v (.v (.v (.v .v1)))))) (.cons (t := 6) (d := .ref (Table.enc x39)) I (.loc (inIds I) I (.v (.v (.v (.v (.v .v1)))))) .nil))<|.nil<|.keep [.dead, .dead] [1, 3, 4, 5, 6] (.c4 I<|.c I .nil) I<|.seq<|.draw 40 Hm (by kernel_rfl) (by kernel_rfl)<|.f I (zcC _) Y3 I<|.p I (.ne I)<|.m I<|.jO 3 (x39.kind != 0) I (fun b40 => ?_) ?_
    ·refine .qf I (zcC _) Y3 I<|.q I (.ne I)<|.nil I
    refine .m I<|.jO 3 (decide (x33.column < 0)) I (fun b41 => ?_) ?_
    ·refine .qf I (zll _) Y3 I<|.q I (.ls I)<|.nil I
    refine .m I<|.jO 6 (decide ((x38.columns.length : Int) ≤ x33.column)) I (fun b42 => ?_) ?_
    ·refine .qf I (zll _) Y3 I<|.qf I (zbR _) Y22 I<|.q I (.len I U22 I)<|.q I (.ge I)<|.nil I
    refine .m I<|.jO 4 ((x39.columns.length : Int) != 1) I (fun b43 => ?_) ?_
    ·refine .qf I (zbR _) Y22 I<|.q I (.len I U22 I)<|.q I (.ne I)<|.nil I
    refine .m I<|gK h fun c45 h => gK h fun c46 h => .jO 11 (((idx x39.columns 0).getD default) != ((idx x38.columns x33.column).getD default)) I (fun b44 => ?_) ?_
    ·refine .qf I (zbR _) Y22 I<|.q I (.ix I U22 S3 (someD (impF c45 b44)))<|.q I (.ld Y3 I)<|.qf I (zbR _) Y22 I<|.qf I (zll _) Y3 I<|.q I (.ix I U22 S3 (someD (impF c46 b44)))<|.q I (.ld Y3 I)<|.q I (.ne I)<|.nil I
    refine .nil<|.nil<|.keep [.dead, .dead] [1, 3, 106] (.c2 I<|.c I .nil) I<|.condS I h (fun h => ?_) fun h => ?_
    ·refine .sr<|.z I<|.nil<|.ret (rO h I)
    ·refine .skip<|.region<|.m I<|.p I (.ad I)<|.z I<|.nil ⟨_, h, _, Fz4 I<|FzE⟩
  ·refine .exit<|.seq<|.sr<|.z I<|.nil<|.block<|.loopS [1] (fun (v : Int) => [(7, .d (.int v))]) (fun (v : Int) => []) (.c I .nil) h ⟨_, Fz4 I<|FzE⟩ (fun _ x55 h => ?_)
   refine .seq<|.sr<|.m I<|.f I (G30_6 _) Y28 I<|.p I (.len I U28 I)<|.p I (.ls I)<|.nil<|.keep [] [1, 7, 111] (.c2 I<|.c I .nil) I<|.condS I h (fun h => ?_) fun h => ?_
   ·refine .skip<|.seq<|.block<|.seq<|.draw 17 Hm (by kernel_rfl) (by kernel_rfl)<|.p I (.ld Y30 I)<|.f I (G30_6 _) Y28 I<|.m I<|bK h fun x57 q57 h => .p I (.ix I U28 S179 q57)<|.f I (zgA _) Y3 I<|.f I (G30_6 _) Y28 I<|.m I<|bK h fun x58 q58 h => .p I (.ix I U28 S179 q58)<|.f I (zfC _) Y3 I<|.f I (G30_1 _) Y23 I<|.p I (.len I U23 I)<|bK h fun x59 q59 h => .p I (.call I (kC I) I (zgN _ _ _ _ _ _ q59))<|.nil<|.nil<|.keep [] [1, 7, 130] (.c2 I<|.c I .nil) I<|.condS I h (fun h => ?_) fun h => ?_
    ·refine .sr<|.z I<|.nil<|.ret (rO h I)
    ·refine .skip<|.region<|.m I<|.p I (.ad I)<|.z I<|.nil ⟨_, h, _, Fz4 I<|FzE⟩
   ·refine .exit<|.sr<|.z I<|.nil<|.ret (rO h I)
theorem zj6 (n : Nat) (t0 : Model) (r : Bool) (h : zfj n t0 = some r) : Pure pg 41 [Model.enc t0] (.bool r) := by
 refine Pure.ot Tryz.func41 I Tryz.ntmps41 I fun A w => .sr<|.p I (.bx I)<|.z I<|.nil<|.seq<|.seq<|.plain 18 I<|.f I (G30_0 _) Y22 I<|.f I (G30_1 _) Y23 I<|bK h fun x1 q1 h => .p I (.call I (kC I) I (zeD _ _ _ _ q1))<|.p I (.nt I)<|.m I<|.jO 4 (decide (24 < (t0.families.length : Int))) I (fun b2 => ?_) ?_
 ·refine .qf I (G30_2 _) Y24 I<|.q I (.len I U24 I)<|.q I (.gt I)<|.nil I
 refine .m I<|gK h fun c4 h => .jO 4 (!((zaj n t0.families).getD default)) I (fun b3 => ?_) ?_
 ·refine .qf I (G30_2 _) Y24 I<|.q I (.call I (kC I) I (zeX _ _ _ (someD (impF c4 b3))))<|.q I (.nt I)<|.nil I
 refine .nil<|.nil<|.keep [] [1, 20] (.c2 I .nil) I<|.condS I h (fun h => ?_) fun h => ?_
 ·refine .sr<|.z I<|.nil<|.ret (rO h I)
 ·refine .skip<|.seq<|.plain 10 I<|.p I (.ld Y30 I)<|bK h fun x5 q5 h => .p I (.call I (kC I) I (zgw _ _ _ q5))<|.m I<|gK h fun c7 h => .jA 2 (((zq n t0).getD default)) I (fun b6 => ?_) ?_
  ·refine .q I (.ld Y30 I)<|.q I (.call I (kC I) I (ziN _ _ _ (someD (impT c7 b6))))<|.nil I
  refine .m I<|gK h fun c9 h => .jA 2 (((zal n t0).getD default)) I (fun b8 => ?_) ?_
  ·refine .q I (.ld Y30 I)<|.q I (.call I (kC I) I (zjD _ _ _ (someD (impT c9 b8))))<|.nil I
  refine .nil<|.z I<|.nil<|.ret (rO h I)
theorem zbG (n : Nat) (t0 : Effect) (t1 : Int) (r : Int) (h : zaD n t0 t1 = some r) : Pure pg 106 [Effect.enc t0, .int t1] (.int r) := by
 refine Pure.ot Tryz.func106 I Tryz.ntmps106 I fun A w => .sr<|.p I (.bx I)<|.z I<|.nil<|.sr<|.z I<|.nil<|.seq<|.sr<|.z I<|.nil<|.block<|.loopS [1, 2] (fun (v : Int × Int) => [(5, .d (.int v.1)), (6, .d (.int v.2))]) (fun (v : Int × Int) => []) (.c2 I .nil) h ⟨_, Fz4 I<|Fz2 I<|FzE⟩ (fun _ v h => ?_)
 obtain ⟨x13, x14⟩ := v
 refine .seq<|.sr<|.m I<|.f I (G82_0 _) Y79 I<|.p I (.len I U79 I)<|.p I (.ls I)<|.nil<|.keep [] [1, 2, 5, 6, 11] (.c4 I<|.c I .nil) I<|.condS I h (fun h => ?_) fun h => ?_
 ·refine .skip<|.join [1, 2, 6] (fun (v : Int) => [(5, .d (.int v))]) (fun (v : Int) => []) (.c2 I<|.c I .nil) h (fun k_17 h => ?_) (fun x16 h => ?_)
  ·refine .block<|.sr<|.f I (G82_0 _) Y79 I<|.m I<|bK h fun x18 q18 h => .p I (.ix I U79 S131 q18)<|.f I (zhc _) Y3 I<|.m I<|.p I (.eq I)<|.nil<|.condS I h (fun h => ?_) fun h => ?_
   ·refine .region<|.m I<|.f I (G82_0 _) Y79 I<|.m I<|bK h fun x19 q19 h => .p I (.ix I U79 S131 q19)<|.f I (zkm _) Y3 I<|.p I (.ad I)<|.z I<|.nil ⟨_, h, _, Fz4 I<|Fz2 I<|FzE⟩
   ·refine .skip ⟨_, h, _, Fz4 I<|Fz2 I<|FzE⟩
  ·refine .region<|.m I<|.p I (.ad I)<|.z I<|.nil ⟨_, h, _, Fz4 I<|Fz2 I<|FzE⟩
 ·refine .exit<|.sr<|.m I<|.z I<|.nil<|.ret (rO h I)
theorem zdw (n : Nat) (t0 : Effect) (t1 : Row) (r : Int) (h : za3 n t0 t1 = some r) : Pure pg 42 [Effect.enc t0, Row.enc t1] (.int r) := by
 refine Pure.ot Tryz.func42 I Tryz.ntmps42 I fun A w => .sr<|.p I (.bx I)<|.p I (.bx I)<|.z I<|.nil<|.sr<|.z I<|.nil<|.seq<|.sr<|.z I<|.nil<|.block<|.loopS [2, 3] (fun (v : Int × Int) => [(5, .d (.int v.1)), (6, .d (.int v.2))]) (fun (v : Int × Int) => []) (.c2 I .nil) h ⟨_, Fz4 I<|Fz2 I<|FzE⟩ (fun _ v h => ?_)
 obtain ⟨x11, x12⟩ := v
 refine .seq<|.sr<|.m I<|.f I (G33_0 _) Y31 I<|.p I (.len I U31 I)<|.p I (.ls I)<|.nil<|.keep [] [2, 3, 5, 6, 11] (.c4 I<|.c I .nil) I<|.condS I h (fun h => ?_) fun h => ?_
 ·refine .skip<|.seq<|.block<|.draw 18 Hm (by kernel_rfl) (by kernel_rfl)<|.m I<|.f I (G33_0 _) Y31 I<|.m I<|bK h fun x14 q14 h => .p I (.ix I U31 S41 q14)<|.f I (G41_1 _) Y3 I<|.p I (.ld Y82 I)<|.f I (G33_0 _) Y31 I<|.m I<|bK h fun x15 q15 h => .p I (.ix I U31 S41 q15)<|.f I (G41_0 _) Y3 I<|bK h fun x16 q16 h => .p I (.call I (kC I) I (zbG _ _ _ _ q16))<|.p I (.ml I)<|.p I (.ad I)<|.z I<|.nil<|.nil<|.keep [] [2, 3, 5, 6] (.c4 I .nil) I<|.region<|.m I<|.p I (.ad I)<|.z I<|.nil ⟨_, h, _, Fz4 I<|Fz2 I<|FzE⟩
 ·refine .exit<|.sr<|.m I<|.z I<|.nil<|.ret (rO h I)
theorem zka (n : Nat) (t0 : Model) (t1 : Question) (r : Bool) (h : zfk n t0 t1 = some r) : Pure pg 22 [Model.enc t0, Question.enc t1] (.bool r) := by
 refine Pure.ot Tryz.func22 I Tryz.ntmps22 I fun A w => .sr<|.p I (.bx I)<|.p I (.bx I)<|.z I<|.nil<|.seq<|.seq<|.plain 35 I<|.p I (.ld Y30 I)<|bK h fun x1 q1 h => .p I (.call I (kC I) I (zj6 _ _ _ q1))<|.p I (.nt I)<|.m I<|.jO 3 (decide (t1.e < 0)) I (fun b2 => ?_) ?_
 ·refine .qf I (G37_0 _) Y3 I<|.q I (.ls I)<|.nil I
 refine .m I<|.jO 3 (decide (t1.f < 0)) I (fun b3 => ?_) ?_
 ·refine .qf I (G37_1 _) Y3 I<|.q I (.ls I)<|.nil I
 refine .m I<|.jO 6 (decide ((t0.actions.length : Int) ≤ t1.e)) I (fun b4 => ?_) ?_
 ·refine .qf I (G37_0 _) Y3 I<|.qf I (G30_5 _) Y27 I<|.q I (.len I U27 I)<|.q I (.ge I)<|.nil I
 refine .m I<|.jO 6 (decide ((t0.actions.length : Int) ≤ t1.f)) I (fun b5 => ?_) ?_
 ·refine .qf I (G37_1 _) Y3 I<|.qf I (G30_5 _) Y27 I<|.q I (.len I U27 I)<|.q I (.ge I)<|.nil I
 refine .m I<|.jO 4 (decide (t1.target.index < 0)) I (fun b6 => ?_) ?_
 ·refine .q I (.fa I (G37_2 _))<|.qf I (G35_1 _) Y3 I<|.q I (.ls I)<|.nil I
 refine .nil<|.nil<|.keep [] [2, 3, 39] (.c2 I<|.c I .nil) I<|.condS I h (fun h => ?_) fun h => ?_
 ·refine .sr<|.z I<|.nil<|.ret (rO h I)
 ·refine .skip<|.seq<|.sr<|.p I (.fa I (G37_2 _))<|.f I (G35_0 _) Y4 I<|.nil<|.condS I h (fun h => ?_) fun h => ?_
  ·refine .seq<|.draw 14 Hm (by kernel_rfl) (by kernel_rfl)<|.p I (.fa I (G37_2 _))<|.f I (G35_1 _) Y3 I<|.f I (G30_5 _) Y27 I<|.f I (G37_0 _) Y3 I<|bK h fun x7 q7 h => .p I (.ix I U27 S84 q7)<|.p I (.fa I (G84_2 _))<|.f I (G82_1 _) Y49 I<|.p I (.len I U49 I)<|.p I (.ls I)<|.z I<|.nil<|.nil<|.keep [] [4] (.c I .nil) I<|.ret (rO h I)
  ·refine .skip<|.seq<|.plain 14 I<|.f I (G37_0 _) Y3 I<|.f I (G37_1 _) Y3 I<|.p I (.le I)<|.m I<|.jA 7 (decide (t1.target.index < (t0.constraints.length : Int))) I (fun b8 => ?_) ?_
   ·refine .q I (.fa I (G37_2 _))<|.qf I (G35_1 _) Y3 I<|.qf I (G30_3 _) Y25 I<|.q I (.len I U25 I)<|.q I (.ls I)<|.nil I
   refine .nil<|.z I<|.nil<|.keep [] [4] (.c I .nil) I<|.ret (rO h I)
theorem zf8 (n : Nat) (t0 : Effect) (t1 : Constraint) (r : Bool) (h : zbd n t0 t1 = some r) : Pure pg 69 [Effect.enc t0, Constraint.enc t1] (.bool r) := by
 refine Pure.ot Tryz.func69 I Tryz.ntmps69 I fun A w => .sr<|.p I (.bx I)<|.p I (.bx I)<|.z I<|.nil<|.seq<|.sr<|.z I<|.nil<|.block<|.loopS [2, 3] (fun (v : Int) => [(5, .d (.int v))]) (fun (v : Int) => []) (.c2 I .nil) h ⟨_, Fz4 I<|Fz2 I trivial⟩ (fun _ x5 h => ?_)
 refine .seq<|.sr<|.m I<|.f I (G78_4 _) Y3 I<|.f I (G78_4 _) Y3 I<|.p I (.ml I)<|.p I (.ls I)<|.nil<|.keep [] [2, 3, 5, 12] (.c4 I .nil) I<|.condS I h (fun h => ?_) fun h => ?_
 ·refine .skip<|.seq<|.block<|.sr<|.p I (.ld Y82 I)<|.f I (G78_3 _) Y3 I<|.m I<|.p I (.ad I)<|bK h fun x7 q7 h => .p I (.call I (kC I) I (zbG _ _ _ _ q7))<|.p I (.gt I)<|.nil<|.condS I h (fun h => ?_) fun h => ?_
  ·refine .sr<|.z I<|.nil<|.ret (rO h I)
  ·refine .skip<|.region<|.m I<|.p I (.ad I)<|.z I<|.nil ⟨_, h, _, Fz4 I<|Fz2 I trivial⟩
 ·refine .exit<|.sr<|.z I<|.nil<|.ret (rO h I)
theorem zjF (n : Nat) (t0 : Int) (r : Bool) (h : zf7 n t0 = some r) : Pure pg 121 [.int t0] (.bool r) := by
 refine Pure.ot Tryz.func121 I Tryz.ntmps121 I fun A w => .sr<|.z I<|.nil<|.seq<|.plain 6 I<|.m I<|.p I (.eq I)<|.m I<|.jO 2 (t0 == 1) I (fun b1 => ?_) ?_
 ·refine .qm I<|.q I (.eq I)<|.nil I
 refine .nil<|.z I<|.nil<|.ret (rO h I)
theorem zj9 (n : Nat) (t0 : Model) (t1 : Table) (r : Int) (h : zb8 n t0 t1 = some r) : Pure pg 122 [Model.enc t0, Table.enc t1] (.int r) := by
 refine Pure.ot Tryz.func122 I Tryz.ntmps122 I fun A w => .sr<|.p I (.bx I)<|.p I (.bx I)<|.z I<|.nil<|.sr<|.z I<|.nil<|.seq<|.sr<|.z I<|.nil<|.block<|.loopS [2, 3] (fun (v : Int × Int) => [(5, .d (.int v.1)), (6, .d (.int v.2))]) (fun (v : Int × Int) => []) (.c2 I .nil) h ⟨_, Fz4 I<|Fz2 I<|FzE⟩ (fun _ v h => ?_)
 obtain ⟨x9, x10⟩ := v
 refine .seq<|.sr<|.m I<|.f I (zbR _) Y22 I<|.p I (.len I U22 I)<|.p I (.ls I)<|.nil<|.keep [] [2, 3, 5, 6, 11] (.c4 I<|.c I .nil) I<|.condS I h (fun h => ?_) fun h => ?_
 ·refine .skip<|.seq<|.block<|.draw 12 Hm (by kernel_rfl) (by kernel_rfl)<|.m I<|.f I (G30_0 _) Y22 I<|.f I (zbR _) Y22 I<|.m I<|bK h fun x12 q12 h => .p I (.ix I U22 S3 q12)<|.p I (.ld Y3 I)<|bK h fun x13 q13 h => .p I (.ix I U22 S3 q13)<|.p I (.ld Y3 I)<|.p I (.ml I)<|.z I<|.nil<|.nil<|.region<|.m I<|.p I (.ad I)<|.z I<|.nil ⟨_, h, _, Fz4 I<|Fz2 I<|FzE⟩
 ·refine .exit<|.sr<|.m I<|.z I<|.nil<|.ret (rO h I)
theorem zlP (n : Nat) (t0 : Model) (r : List Range) (h : zbH n t0 = some r) : Pure pg 65 [Model.enc t0] (eK r) := by
 refine Pure.ot Tryz.func65 I Tryz.ntmps65 I fun A w => .sr<|.p I (.bx I)<|.p I (.nilS 2 (α := Range) Range.enc I)<|.nil<|.sr<|.buildVec [] I I I I I E48 I (fun _ => I) I (enc := Range.enc)<|.z I<|.nil<|.seq<|.sr<|.z I<|.nil<|.block<|.loopS [1] (fun (v : (List Range) × Int) => [(3, .vec 0 (List.length v.1)), (4, .d (.int v.2))]) (fun (v : (List Range) × Int) => [(0, .vec 87 2 (List.map Range.enc v.1))]) (.c I .nil) h ⟨_, Fz4 I<|Fz2 I trivial⟩ (fun _ v h => ?_)
 obtain ⟨b0_51, x52⟩ := v
 refine .seq<|.sr<|.m I<|.f I (G30_1 _) Y23 I<|.p I (.len I U23 I)<|.p I (.ls I)<|.nil<|.keep [.vec 87 2 (List.map Range.enc b0_51)] [1, 3, 4, 11] (.c4 I .nil) I<|.condS I h (fun h => ?_) fun h => ?_
 ·refine .skip<|.join [1, 4] (fun (v : (List Range)) => [(3, .vec 0 (List.length v))]) (fun (v : (List Range)) => [(0, .vec 87 2 (List.map Range.enc v))]) (.c2 I .nil) h (fun k_55 h => ?_) (fun b0_54 h => ?_)
  ·refine .block<|.sr<|.f I (G30_1 _) Y23 I<|.m I<|bK h fun x56 q56 h => .p I (.ix I U23 S127 q56)<|.f I (zcC _) Y3 I<|bK h fun x57 q57 h => .p I (.call I (kC I) I (zjF _ _ _ q57))<|.nil<|.condS I h (fun h => ?_) fun h => ?_
   ·refine .sr<|.z I<|.nil<|.block<|.loopS [1, 4] (fun (v : (List Range) × Int) => [(3, .vec 0 (List.length v.1)), (5, .d (.int v.2))]) (fun (v : (List Range) × Int) => [(0, .vec 87 2 (List.map Range.enc v.1))]) (.c2 I .nil) h ⟨_, Fz4 I<|Fz2 I<|FzE⟩ (fun _ v h => ?_)
    obtain ⟨b0_70, x71⟩ := v
    refine .seq<|.seq<|.draw 9 Hm (by kernel_rfl) (by kernel_rfl)<|.m I<|.p I (.ld Y30 I)<|.f I (G30_1 _) Y23 I<|.m I<|bK h fun x73 q73 h => .p I (.ix I U23 S127 q73)<|.p I (.ld Y127 I)<|bK h fun x74 q74 h => .p I (.call I (kC I) I (zj9 _ _ _ _ q74))<|.p I (.ls I)<|.nil<|.nil<|.keep [.vec 87 2 (List.map Range.enc b0_70)] [1, 3, 4, 5, 29] (.c4 I<|.c I .nil) I<|.condS I h (fun h => ?_) fun h => ?_
    ·refine .skip<|.seq<|.block<|.region<|.m I<|.f I (G30_1 _) Y23 I<|.m I<|bK h fun x75 q75 h => .p I (.ix I U23 S127 q75)<|.f I (zdg _) Y87 I<|.p I (.buildSl [_] I I E48 I (fun _ => I) I (enc := Range.enc))<|bK h fun x76 q76 h => .app I I I I I I I I E48 I (fun _ => I) q76<|.z I<|.nil<|.region<|.m I<|.p I (.ad I)<|.z I<|.nil ⟨_, h, _, Fz4 I<|Fz2 I<|FzE⟩
    ·refine .exit ⟨_, h, _, Fz4 I<|Fz2 I trivial⟩
   ·refine .skip ⟨_, h, _, Fz4 I<|Fz2 I trivial⟩
  ·refine .region<|.m I<|.p I (.ad I)<|.z I<|.nil ⟨_, h, _, Fz4 I<|Fz2 I trivial⟩
 ·refine .exit<|.sr<|.m I<|.z I<|.nil<|.ret ?_
  cases h
  exact zbv I (.vec I (by simp))
theorem zlS (n : Nat) (t0 : List Int) (t1 : Int) (r : Bool) (h : zeb n t0 t1 = some r) : Pure pg 66 [eA t0, .int t1] (.bool r) := by
 refine Pure.ot Tryz.func66 I Tryz.ntmps66 I fun A w => .sr<|.z I<|.nil<|.seq<|.sr<|.z I<|.nil<|.block<|.loopS [0, 1] (fun (v : Int) => [(5, .d (.int v))]) (fun (v : Int) => []) (.c2 I .nil) h ⟨_, Fz4 I<|Fz2 I trivial⟩ (fun _ x5 h => ?_)
 refine .seq<|.sr<|.m I<|.m I<|.p I (.len I U22 I)<|.p I (.ls I)<|.nil<|.keep [] [0, 1, 5, 9] (.c4 I .nil) I<|.condS I h (fun h => ?_) fun h => ?_
 ·refine .skip<|.seq<|.block<|.sr<|.m I<|.m I<|bK h fun x7 q7 h => .p I (.ix I U22 S3 q7)<|.p I (.ld Y3 I)<|.m I<|.p I (.eq I)<|.nil<|.condS I h (fun h => ?_) fun h => ?_
  ·refine .sr<|.z I<|.nil<|.ret (rO h I)
  ·refine .skip<|.region<|.m I<|.p I (.ad I)<|.z I<|.nil ⟨_, h, _, Fz4 I<|Fz2 I trivial⟩
 ·refine .exit<|.sr<|.z I<|.nil<|.ret (rO h I)
theorem zfl (n : Nat) (t0 : Row) (r : Row) (h : zbZ n t0 = some r) : Pure pg 67 [Row.enc t0] (Row.enc r) := by
 refine Pure.ot Tryz.func67 I Tryz.ntmps67 I fun A w => .sr<|.p I (.bx I)<|.allocZ I I I I (.agg Zc33 (ds' := [eL [], .int 0]) (.o .e1)) I<|.nil<|.sr<|.f I (G33_1 _) Y3 I<|.p I (.build I Pl33 (.agg Zc33 (ds' := [.val (.slice none 0 0), _]) (.e .e1)) I I)<|.allocZ I I I I (.agg Zc33 (ds' := [.val (.slice none 0 0), .int 0]) (.e .e1)) I<|.nilCell 1 0 2 41 I I<|.store I I I I I I (.ofD I) C33 I (yd I)<|.nilCell 1 0 2 41 I I<|.nil<|.seq<|.sr<|.z I<|.nil<|.block<|.loopS [1, 2, 3] (fun (v : (List Term) × Int) => [(4, .d (.int v.2))]) (fun (v : (List Term) × Int) => [(1, .box 33 [.vec 3 (List.length v.1), .d (.int t0.bound)]), (3, .vec 41 2 (List.map Term.enc v.1))]) (.c2 I<|.c I .nil) h ⟨_, Fz4 I<|Fz2 I<|FzE⟩ (fun _ v h => ?_)
 obtain ⟨b3_9, x10⟩ := v
 refine .seq<|.sr<|.m I<|.f I (G33_0 _) Y31 I<|.p I (.len I U31 I)<|.p I (.ls I)<|.nil<|.keep [.box 33 [.d (eL []), .d (.int 0)], .box 33 [.vec 3 (List.length b3_9), .d (.int t0.bound)], .vec 41 2 (List.map Term.enc ([] : List Term)), .vec 41 2 (List.map Term.enc b3_9)] [1, 2, 3, 4, 12] (.c4 I<|.c I .nil) I<|.condS I h (fun h => ?_) fun h => ?_
 ·refine .skip<|.seq<|.block<|.draw 8 Hm (by kernel_rfl) (by kernel_rfl)<|.p I (.fieldAddrLoc I I I F33_0)<|.p I (.loadLoc1 I I I Y31 I)<|.f I (G33_0 _) Y31 I<|.m I<|bK h fun x12 q12 h => .p I (.ix I U31 S41 q12)<|.p I (.ld Y41 I)<|.p I (.buildSl [_] I I E31 I (fun _ => I) I (enc := Term.enc))<|.nil<|bK h fun x13 q13 h => .app I I I I I I I I E31 I (fun _ => I) q13<|.p I (.fieldAddrLoc I I I F33_0)<|.store I I I I I I (.cons (.vec I (by simp)) .nil) C31 I (yd I)<|.nil<|.region<|.m I<|.p I (.ad I)<|.z I<|.nil ⟨_, h, _, Fz4 I<|Fz2 I<|FzE⟩
 ·refine .exit<|.sr<|.p I (.loadLoc I I I Y33 (yd I) I)<|.store I I I I I I (.cons (.vec I (by simp)) (.cons (.d I) .nil)) C33 I (yd I)<|.nil<|.ret ?_
  cases h
  exact zh9 I I Y33 (.cons (.vec I (by simp)) .v1)
theorem zeE (n : Nat) (t0 : Constraint) (t1 : Effect) (r : Graph) (h : za7 n t0 t1 = some r) : Pure pg 68 [Constraint.enc t0, Effect.enc t1] (Graph.enc r) := by
 refine Pure.ot Tryz.func68 I Tryz.ntmps68 I fun A w => .sr<|.p I (.bx I)<|.p I (.bx I)<|.allocZ I I I I (.agg Zc99 (ds' := [.int 0, .int 0, eA []]) (.e (.e .o1))) I<|.nil<|.sr<|.f I (G78_3 _) Y3 I<|.f I (G78_4 _) Y3 I<|.p I (.build I Pl99 (.agg Zc99 (ds' := [_, _, .val (.slice none 0 0)]) (.e (.e .e1))) I I)<|.allocZ I I I I (.agg Zc99 (ds' := [.int 0, .int 0, .val (.slice none 0 0)]) (.e (.e .e1))) I<|.nilCell 1 2 1 3 I I<|.store I I I I I I (.ofD I) C99 I (yd I)<|.nilCell 1 2 1 3 I I<|.nil<|.seq<|.sr<|.z I<|.nil<|.block<|.loopS [2, 3, 4, 5] (fun (v : (List Int) × Int) => [(6, .d (.int v.2))]) (fun (v : (List Int) × Int) => [(1, .box 99 [.d (.int t0.first), .d (.int t0.size), .vec 3 (List.length v.1)]), (3, .vec 3 1 (List.map D.int v.1))]) (.c4 I .nil) h ⟨_, Fz8 I trivial⟩ (fun _ v h => ?_)
 obtain ⟨b3_9, x10⟩ := v
 refine .seq<|.sr<|.m I<|.f I (G78_4 _) Y3 I<|.f I (G78_4 _) Y3 I<|.p I (.ml I)<|.p I (.ls I)<|.nil<|.keep [.box 99 [.d (.int 0), .d (.int 0), .d (eA [])], .box 99 [.d (.int t0.first), .d (.int t0.size), .vec 3 (List.length b3_9)], .vec 3 1 (List.map D.int ([] : List Int)), .vec 3 1 (List.map D.int b3_9)] [2, 3, 4, 5, 6, 18] (.c4 I<|.c2 I .nil) I<|.condS I h (fun h => ?_) fun h => ?_
 ·refine .skip<|.seq<|.block<|.draw 10 Hm (by kernel_rfl) (by kernel_rfl)<|.p I (.fieldAddrLoc I I I F99_2)<|.p I (.loadLoc1 I I I Y22 I)<|.p I (.ld Y82 I)<|.f I (G78_3 _) Y3 I<|.m I<|.p I (.ad I)<|bK h fun x12 q12 h => .p I (.call I (kC I) I (zbG _ _ _ _ q12))<|.p I (.sb I)<|.p I (.buildSl [_] I I E22 I (fun _ => I) I (enc := D.int))<|.nil<|bK h fun x13 q13 h => .app I I I I I I I I E22 I (fun _ => I) q13<|.p I (.fieldAddrLoc I I I F99_2)<|.store I I I I I I (.cons (.vec I (by simp)) .nil) C22 I (yd I)<|.nil<|.region<|.m I<|.p I (.ad I)<|.z I<|.nil ⟨_, h, _, Fz8 I trivial⟩
 ·refine .exit<|.sr<|.p I (.loadLoc I I I Y99 (yd I) I)<|.store I I I I I I (.cons (.d I) (.cons (.d I) (.cons (.vec I (by simp)) .nil))) C99 I (yd I)<|.nil<|.ret ?_
  cases h
  exact zh9 I I Y99 (.v (.v (.cons (.vec I (by simp)) .nil)))
theorem zfv (n : Nat) (t0 : Row) (t1 : Int) (r : Row) (h : zaM n t0 t1 = some r) : Pure pg 70 [Row.enc t0, .int t1] (Row.enc r) := by
 refine Pure.ot Tryz.func70 I Tryz.ntmps70 I fun A w => .sr<|.p I (.bx I)<|.allocZ I I I I (.agg Zc33 (ds' := [eL [], .int 0]) (.o .e1)) I<|.nil<|.sr<|.m I<|.p I (.build I Pl33 (.agg Zc33 (ds' := [.val (.slice none 0 0), _]) (.e .e1)) I I)<|.allocZ I I I I (.agg Zc33 (ds' := [.val (.slice none 0 0), .int 0]) (.e .e1)) I<|.nilCell 1 0 2 41 I I<|.store I I I I I I (.ofD I) C33 I (yd I)<|.nilCell 1 0 2 41 I I<|.nil<|.seq<|.sr<|.z I<|.nil<|.block<|.loopS [2, 4, 5] (fun (v : (List Term) × Int) => [(6, .d (.int v.2))]) (fun (v : (List Term) × Int) => [(1, .box 33 [.vec 3 (List.length v.1), .d (.int t1)]), (3, .vec 41 2 (List.map Term.enc v.1))]) (.c2 I<|.c I .nil) h ⟨_, Fz4 I<|Fz2 I<|FzE⟩ (fun _ v h => ?_)
 obtain ⟨b3_11, x12⟩ := v
 refine .seq<|.sr<|.m I<|.f I (G33_0 _) Y31 I<|.p I (.len I U31 I)<|.p I (.ls I)<|.nil<|.keep [.box 33 [.d (eL []), .d (.int 0)], .box 33 [.vec 3 (List.length b3_11), .d (.int t1)], .vec 41 2 (List.map Term.enc ([] : List Term)), .vec 41 2 (List.map Term.enc b3_11)] [2, 4, 5, 6, 13] (.c4 I<|.c I .nil) I<|.condS I h (fun h => ?_) fun h => ?_
 ·refine .skip<|.seq<|.block<|.draw 17 Hm (by kernel_rfl) (by kernel_rfl)<|.p I (.fieldAddrLoc I I I F33_0)<|.p I (.loadLoc1 I I I Y31 I)<|.f I (G33_0 _) Y31 I<|.m I<|bK h fun x14 q14 h => .p I (.ix I U31 S41 q14)<|.f I (G41_0 _) Y3 I<|.f I (G33_0 _) Y31 I<|.m I<|bK h fun x15 q15 h => .p I (.ix I U31 S41 q15)<|.f I (G41_1 _) Y3 I<|.p I (.neg6 I I)<|.p I (.castD (Term.enc (⟨x14.cell, neg64 x15.factor⟩ : Term)) I (.build I Pl41 (.agg Zc41 (ds' := [_, _]) (.e .e1)) I I))<|.p I (.buildSl [_] I I E31 I (fun _ => I) I (enc := Term.enc))<|.nil<|bK h fun x16 q16 h => .app I I I I I I I I E31 I (fun _ => I) q16<|.p I (.fieldAddrLoc I I I F33_0)<|.store I I I I I I (.cons (.vec I (by simp)) .nil) C31 I (yd I)<|.nil<|.keep [.box 33 [.d (eL []), .d (.int 0)], .box 33 [.vec 3 (List.length x16), .d (.int t1)], .vec 41 2 (List.map Term.enc ([] : List Term)), .vec 41 2 (List.map Term.enc x16)] [2, 4, 5, 6] (.c4 I .nil) I<|.region<|.m I<|.p I (.ad I)<|.z I<|.nil ⟨_, h, _, Fz4 I<|Fz2 I<|FzE⟩
 ·refine .exit<|.sr<|.p I (.loadLoc I I I Y33 (yd I) I)<|.store I I I I I I (.cons (.vec I (by simp)) (.cons (.d I) .nil)) C33 I (yd I)<|.nil<|.ret ?_
  cases h
  exact zh9 I I Y33 (.cons (.vec I (by simp)) .v1)
theorem zkg (n : Nat) (t0 : Int) (t1 : List Bool) (r : Bool) (h : zfm n t0 t1 = some r) : Pure pg 183 [.int t0, eJ t1] (.bool r) := by
 refine Pure.ot Tryz.func183 I Tryz.ntmps183 I fun A w => .sr<|.z I<|.nil<|.seq<|.plain 14 I<|.m I<|.p I (.ge I)<|.m I<|.jA 2 (decide (t0 ≤ 6)) I (fun b1 => ?_) ?_
 ·refine .qm I<|.q I (.le I)<|.nil I
 refine .m I<|.jA 6 ((t1.length : Int) == (mul64 t0 t0)) I (fun b2 => ?_) ?_
 ·refine .qm I<|.q I (.len I U144 I)<|.qm I<|.qm I<|.q I (.ml I)<|.q I (.eq I)<|.nil I
 refine .nil<|.z I<|.nil<|.keep [] [4] (.c I .nil) I<|.ret (rO h I)
theorem zlN (n : Nat) (t0 : List Int) (t1 : Int) (r : Bool) (h : zbF n t0 t1 = some r) : Pure pg 184 [eA t0, .int t1] (.bool r) := by
 refine Pure.ot Tryz.func184 I Tryz.ntmps184 I fun A w => .sr<|.z I<|.nil<|.seq<|.sr<|.z I<|.nil<|.block<|.loopS [0, 1] (fun (v : Int) => [(5, .d (.int v))]) (fun (v : Int) => []) (.c2 I .nil) h ⟨_, Fz4 I<|Fz2 I trivial⟩ (fun _ x5 h => ?_)
 refine .seq<|.sr<|.m I<|.m I<|.p I (.len I U22 I)<|.p I (.ls I)<|.nil<|.keep [] [0, 1, 5, 9] (.c4 I .nil) I<|.condS I h (fun h => ?_) fun h => ?_
 ·refine .skip<|.seq<|.block<|.sr<|.m I<|.m I<|bK h fun x7 q7 h => .p I (.ix I U22 S3 q7)<|.p I (.ld Y3 I)<|.m I<|.p I (.eq I)<|.nil<|.condS I h (fun h => ?_) fun h => ?_
  ·refine .sr<|.z I<|.nil<|.ret (rO h I)
  ·refine .skip<|.region<|.m I<|.p I (.ad I)<|.z I<|.nil ⟨_, h, _, Fz4 I<|Fz2 I trivial⟩
 ·refine .exit<|.sr<|.z I<|.nil<|.ret (rO h I)
theorem zlf (n : Nat) (t0 : List Int) (t1 : Int) (r : List Int) (h : zcy n t0 t1 = some r) : Pure pg 185 [eA t0, .int t1] (eA r) := by
 refine Pure.ot Tryz.func185 I Tryz.ntmps185 I fun A w => .sr<|.p I (.nilS 1 (α := Int) D.int I)<|.nil<|.sr<|.buildVec [] I I I I I E22 I (fun _ => I) I (enc := D.int)<|.z I<|.nil<|.seq<|.sr<|.z I<|.nil<|.block<|.loopS [0, 1] (fun (v : (List Int) × Int) => [(5, .vec 0 (List.length v.1)), (6, .d (.int v.2))]) (fun (v : (List Int) × Int) => [(0, .vec 3 1 (List.map D.int v.1))]) (.c2 I .nil) h ⟨_, Fz4 I<|Fz2 I<|FzE⟩ (fun _ v h => ?_)
 obtain ⟨b0_9, x10⟩ := v
 refine .seq<|.sr<|.m I<|.m I<|.p I (.len I U22 I)<|.p I (.ls I)<|.nil<|.keep [.vec 3 1 (List.map D.int b0_9)] [0, 1, 5, 6, 11] (.c4 I<|.c I .nil) I<|.condS I h (fun h => ?_) fun h => ?_
 ·refine .skip<|.seq<|.block<|.region<|.m I<|.m I<|.m I<|bK h fun x12 q12 h => .p I (.ix I U22 S3 q12)<|.p I (.ld Y3 I)<|.p I (.buildSl [_] I I E22 I (fun _ => I) I (enc := D.int))<|bK h fun x13 q13 h => .app I I I I I I I I E22 I (fun _ => I) q13<|.z I<|.nil<|.region<|.m I<|.p I (.ad I)<|.z I<|.nil ⟨_, h, _, Fz4 I<|Fz2 I<|FzE⟩
 ·refine .exit<|.sr<|.m I<|.m I<|.p I (.buildSl [_] I I E22 I (fun _ => I) I (enc := D.int))<|bK h fun x14 q14 h => .app I I I I I I I I E22 I (fun _ => I) q14<|.z I<|.nil<|.ret ?_
  cases h
  exact zbv I (.vec I (by simp))
theorem zjH (n : Nat) (t0 : Int) (t1 : List Bool) (r : List (List Int)) (h : zy n t0 t1 = some r) : Pure pg 123 [.int t0, eJ t1] (eN r) := by
 refine Pure.ot Tryz.func123 I Tryz.ntmps123 I fun A w => .sr<|.p I (.nilS 1 (α := List Int) eA I)<|.nil<|.sr<|.buildVec [] I I I I I E145 I (fun _ => I) I (enc := eA)<|.z I<|.nil<|.seq<|.sr<|.m I<|.m I<|bK h fun x1 q1 h => .p I (.call I (kC I) I (zkg _ _ _ _ q1))<|.p I (.nt I)<|.nil<|.condS I h (fun h => ?_) fun h => ?_
 ·refine .sr<|.m I<|.z I<|.nil<|.ret ?_
  cases h
  exact zbv I (.vec I (by simp))
 ·refine .skip<|.sr<|.buildVec [] I I I I I E145 I (fun _ => I) I (enc := eA)<|.z I<|.nil<|.seq<|.sr<|.z I<|.nil<|.block<|.loopS [0, 1, 5] (fun (v : (List (List Int)) × Int) => [(6, .vec 1 (List.length v.1)), (7, .d (.int v.2))]) (fun (v : (List (List Int)) × Int) => [(1, .vec 22 1 (List.map eA v.1))]) (.c2 I<|.c I .nil) h ⟨_, Fz8 I trivial⟩ (fun _ v h => ?_)
  obtain ⟨b1_8, x9⟩ := v
  refine .seq<|.sr<|.m I<|.m I<|.p I (.ls I)<|.nil<|.keep [.vec 22 1 (List.map eA ([] : List (List Int))), .vec 22 1 (List.map eA b1_8)] [0, 1, 5, 6, 7, 23] (.c4 I<|.c2 I .nil) I<|.condS I h (fun h => ?_) fun h => ?_
  ·refine .skip<|.seq<|.block<|.region<|.m I<|.m I<|.p I (.buildSl [_] I I E22 I (fun _ => I) I (enc := D.int))<|.p I (.buildSl [_] I I E145 I (fun _ => I) I (enc := eA))<|bK h fun x11 q11 h => .app I I I I I I I I E145 I (fun _ => I) q11<|.z I<|.nil<|.region<|.m I<|.p I (.ad I)<|.z I<|.nil ⟨_, h, _, Fz8 I trivial⟩
  ·refine .exit<|.seq<|.sr<|.z I<|.nil<|.freezes [1] (.cons (t := 6) I (.vec (inIds I) I (by simp)) .nil)<|.block<|.loopS [0, 1] (fun (v : (List (List Int)) × (List (List Int)) × Int) => [(5, .vec 0 (List.length v.1)), (6, .d (eN v.2.1)), (8, .d (.int v.2.2))]) (fun (v : (List (List Int)) × (List (List Int)) × Int) => [(0, .vec 22 1 (List.map eA v.1))]) (.c2 I .nil) h ⟨_, Fz8 I trivial⟩ (fun _ v h => ?_)
   obtain ⟨b0_302, x303, x304⟩ := v
   refine .seq<|.sr<|.m I<|.m I<|.p I (.ls I)<|.nil<|.keep [.vec 22 1 (List.map eA b0_302), .dead] [0, 1, 5, 6, 8, 33] (.c4 I<|.c2 I .nil) I<|.condS I h (fun h => ?_) fun h => ?_
   ·refine .skip<|.seq<|.block<|.sr<|.buildVec [] I I I I I E145 I (fun _ => I) I (enc := eA)<|.z I<|.nil<|.seq<|.sr<|.z I<|.nil<|.block<|.loopS [0, 1, 6, 8] (fun (v : (List (List Int)) × (List (List Int)) × Int) => [(5, .vec 0 (List.length v.1)), (9, .vec 2 (List.length v.2.1)), (10, .d (.int v.2.2))]) (fun (v : (List (List Int)) × (List (List Int)) × Int) => [(0, .vec 22 1 (List.map eA v.1)), (2, .vec 22 1 (List.map eA v.2.1))]) (.c4 I .nil) h ⟨_, Fz8 I<|Fz2 I trivial⟩ (fun _ v h => ?_)
    obtain ⟨b0_400, b2_401, x402⟩ := v
    refine .seq<|.sr<|.m I<|.m I<|.p I (.len I U145 I)<|.p I (.ls I)<|.nil<|.keep [.vec 22 1 (List.map eA b0_400), .dead, .vec 22 1 (List.map eA b2_401)] [0, 1, 5, 6, 8, 9, 10, 40] (.c8 I .nil) I<|.condS I h (fun h => ?_) fun h => ?_
    ·refine .skip<|.seq<|.block<|.sr<|.m I<|.m I<|bK h fun x404 q404 h => .p I (.ix I U145 S22 q404)<|.p I (.ld Y22 I)<|bK h fun x405 q405 h => .p I (.ix I U22 S3 q405)<|.p I (.ld Y3 I)<|.z I<|.nil<|.seq<|.draw 13 Hm (by kernel_rfl) (by kernel_rfl)<|.m I<|.m I<|bK h fun x406 q406 h => .p I (.ix I U145 S22 q406)<|.p I (.ld Y22 I)<|.m I<|.m I<|bK h fun x407 q407 h => .p I (.ix I U145 S22 q407)<|.p I (.ld Y22 I)<|.p I (.len I U22 I)<|.p I (.sb I)<|bK h fun x408 q408 h => .p I (.ix I U22 S3 q408)<|.p I (.ld Y3 I)<|.z I<|.nil<|.nil<|.keep [.vec 22 1 (List.map eA b0_400), .dead, .vec 22 1 (List.map eA b2_401)] [0, 1, 5, 6, 8, 9, 10, 11, 12] (.c8 I<|.c I .nil) I<|.join [0, 1, 6, 8, 9, 10, 11, 12] (fun (v : (List (List Int))) => [(5, .vec 0 (List.length v))]) (fun (v : (List (List Int))) => [(0, .vec 22 1 (List.map eA v))]) (.c8 I .nil) h (fun k_410 h => ?_) (fun b0_409 h => ?_)
     ·refine .sr<|.m I<|.m I<|.m I<|.p I (.ml I)<|.m I<|.p I (.ad I)<|bK h fun x411 q411 h => .p I (.ix I U144 S4 q411)<|.p I (.ld Y4 I)<|.nil<|.condS I h (fun h => ?_) fun h => ?_
      ·refine .region<|.m I<|.m I<|.m I<|bK h fun x412 q412 h => .p I (.ix I U145 S22 q412)<|.p I (.ld Y22 I)<|.p I (.buildSl [_] I I E145 I (fun _ => I) I (enc := eA))<|bK h fun x413 q413 h => .app I I I I I I I I E145 I (fun _ => I) q413<|.z I<|.nil ⟨_, h, _, Fz8 I<|Fz4 I trivial⟩
      ·refine .skip ⟨_, h, _, Fz8 I<|Fz4 I trivial⟩
     ·refine .sr<|.m I<|.p I (.ad I)<|.z I<|.nil<|.keep [.vec 22 1 (List.map eA b0_409), .dead, .vec 22 1 (List.map eA b2_401)] [0, 1, 5, 6, 8, 9, 10, 12, 13] (.c8 I<|.c I .nil) I<|.block<|.loopS [0, 1, 5, 6, 8, 10, 12] (fun (v : (List (List Int)) × Int) => [(9, .vec 2 (List.length v.1)), (13, .d (.int v.2))]) (fun (v : (List (List Int)) × Int) => [(2, .vec 22 1 (List.map eA v.1))]) (.c4 I<|.c2 I<|.c I .nil) h ⟨_, Fz8 I<|Fz4 I trivial⟩ (fun _ v h => ?_)
      obtain ⟨b2_436, x437⟩ := v
      refine .seq<|.sr<|.m I<|.m I<|.p I (.ls I)<|.nil<|.keep [.vec 22 1 (List.map eA b0_409), .dead, .vec 22 1 (List.map eA b2_436)] [0, 1, 5, 6, 8, 9, 10, 12, 13, 80] (.c8 I<|.c2 I .nil) I<|.condS I h (fun h => ?_) fun h => ?_
      ·refine .skip<|.join [0, 1, 5, 6, 8, 10, 12, 13] (fun (v : (List (List Int))) => [(9, .vec 2 (List.length v))]) (fun (v : (List (List Int))) => [(2, .vec 22 1 (List.map eA v))]) (.c8 I .nil) h (fun k_440 h => ?_) (fun b2_439 h => ?_)
       ·refine .block<|.seq<|.plain 17 I<|.m I<|.m I<|.m I<|.p I (.ml I)<|.m I<|.p I (.ad I)<|bK h fun x441 q441 h => .p I (.ix I U144 S4 q441)<|.p I (.ld Y4 I)<|.m I<|gK h fun c443 h => gK h fun c444 h => .jA 7 (!((zbF n ((idx x303 x402).getD default) x437).getD default)) I (fun b442 => ?_) ?_
        ·refine .qm I<|.qm I<|.q I (.ix I U145 S22 (someD (impT c443 b442)))<|.q I (.ld Y22 I)<|.qm I<|.q I (.call I (kC I) I (zlN _ _ _ _ (someD (impT c444 b442))))<|.q I (.nt I)<|.nil I
        refine .nil<|.nil<|.keep [.vec 22 1 (List.map eA b0_409), .dead, .vec 22 1 (List.map eA b2_436)] [0, 1, 5, 6, 8, 9, 10, 12, 13, 99] (.c8 I<|.c2 I .nil) I<|.condS I h (fun h => ?_) fun h => ?_
        ·refine .region<|.m I<|.m I<|.m I<|bK h fun x445 q445 h => .p I (.ix I U145 S22 q445)<|.p I (.ld Y22 I)<|.m I<|bK h fun x446 q446 h => .p I (.call I (kC I) I (zlf _ _ _ _ q446))<|.p I (.buildSl [_] I I E145 I (fun _ => I) I (enc := eA))<|bK h fun x447 q447 h => .app I I I I I I I I E145 I (fun _ => I) q447<|.z I<|.nil ⟨_, h, _, Fz8 I<|Fz4 I trivial⟩
        ·refine .skip ⟨_, h, _, Fz8 I<|Fz4 I trivial⟩
       ·refine .region<|.m I<|.p I (.ad I)<|.z I<|.nil ⟨_, h, _, Fz8 I<|Fz4 I trivial⟩
      ·refine .exit<|.region<|.m I<|.p I (.ad I)<|.z I<|.nil ⟨_, h, _, Fz8 I<|Fz2 I trivial⟩
    ·refine .exit<|.region<|.m I<|.freezes [2] (.cons (t := 109) I (.vec (inIds I) I (by simp)) .nil)<|.z I<|.nil<|.region<|.m I<|.p I (.ad I)<|.z I<|.nil ⟨_, h, _, Fz8 I trivial⟩
   ·refine .exit<|.sr<|.m I<|.z I<|.nil<|.ret ?_
    cases h
    exact zbv I (.vec I (by simp))
theorem zkh (n : Nat) (t0 : List Range) (t1 : Constraint) (t2 : Effect) (t3 : Effect) (r : List (List Row)) (h : zX n t0 t1 t2 t3 = some r) : Pure pg 71 [eK t0, Constraint.enc t1, Effect.enc t2, Effect.enc t3] (eR r) := by
 refine Pure.ot Tryz.func71 I Tryz.ntmps71 I fun A w => .sr<|.p I (.bx I)<|.p I (.bx I)<|.p I (.bx I)<|.p I (.nilS 1 (α := List Row) eH I)<|.nil<|.sr<|.buildVec [] I I I I I E144 I (fun _ => I) I (enc := D.bool)<|.z I<|.nil<|.seq<|.sr<|.z I<|.nil<|.block<|.loopS [0, 5, 6, 7] (fun (v : (List Bool) × Int) => [(9, .vec 0 (List.length v.1)), (10, .d (.int v.2))]) (fun (v : (List Bool) × Int) => [(0, .vec 4 1 (List.map D.bool v.1))]) (.c4 I .nil) h ⟨_, Fz8 I<|FzE⟩ (fun _ v h => ?_)
 obtain ⟨b0_13, x14⟩ := v
 refine .seq<|.sr<|.m I<|.f I (G78_4 _) Y3 I<|.f I (G78_4 _) Y3 I<|.p I (.ml I)<|.p I (.ls I)<|.nil<|.keep [.vec 4 1 (List.map D.bool b0_13)] [0, 5, 6, 7, 9, 10, 27] (.c4 I<|.c2 I<|.c I .nil) I<|.condS I h (fun h => ?_) fun h => ?_
 ·refine .skip<|.seq<|.block<|.draw 25 Hm (by kernel_rfl) (by kernel_rfl)<|.m I<|.m I<|.f I (G78_3 _) Y3 I<|.m I<|.p I (.ad I)<|bK h fun x16 q16 h => .p I (.ix I U48 S87 q16)<|.f I (G87_1 _) Y3 I<|.p I (.ld Y82 I)<|.f I (G78_3 _) Y3 I<|.m I<|.p I (.ad I)<|bK h fun x17 q17 h => .p I (.call I (kC I) I (zbG _ _ _ _ q17))<|.p I (.ad I)<|.p I (.ld Y82 I)<|.f I (G78_3 _) Y3 I<|.m I<|.p I (.ad I)<|bK h fun x18 q18 h => .p I (.call I (kC I) I (zbG _ _ _ _ q18))<|.p I (.ad I)<|.p I (.ge I)<|.p I (.buildSl [_] I I E144 I (fun _ => I) I (enc := D.bool))<|.nil<|bK h fun x19 q19 h => .app I I I I I I I I E144 I (fun _ => I) q19<|.z I<|.nil<|.keep [.vec 4 1 (List.map D.bool x19)] [0, 5, 6, 7, 9, 10] (.c4 I<|.c2 I .nil) I ?_
  refine .region<|.m I<|.p I (.ad I)<|.z I<|.nil ⟨_, h, _, Fz8 I<|FzE⟩
 ·refine .exit<|.seq<|.freezes [0] (.cons (t := 9) I (.vec (inIds I) I (by simp)) .nil)<|.region<|.f I (G78_4 _) Y3 I<|.m I<|bK h fun x21 q21 h => .p I (.call I (kC I) I (zjH _ _ _ _ q21))<|.z I<|.nil<|.sr<|.buildVec [] I I I I I E51 I (fun _ => I) I (enc := eH)<|.z I<|.nil<|.seq<|.sr<|.z I<|.nil<|.block<|.loopS [5, 6, 7, 11] (fun (v : (List (List Row)) × Int) => [(12, .vec 1 (List.length v.1)), (13, .d (.int v.2))]) (fun (v : (List (List Row)) × Int) => [(1, .vec 49 1 (List.map eH v.1))]) (.c4 I .nil) h ⟨_, Fz8 I<|FzE⟩ (fun _ v h => ?_)
  obtain ⟨b1_144, x145⟩ := v
  refine .seq<|.sr<|.m I<|.m I<|.p I (.len I U145 I)<|.p I (.ls I)<|.nil<|.keep [.dead, .vec 49 1 (List.map eH b1_144)] [5, 6, 7, 11, 12, 13, 64] (.c4 I<|.c2 I<|.c I .nil) I<|.condS I h (fun h => ?_) fun h => ?_
  ·refine .skip<|.join [5, 6, 7, 11, 13] (fun (v : (List (List Row))) => [(12, .vec 1 (List.length v))]) (fun (v : (List (List Row))) => [(1, .vec 49 1 (List.map eH v))]) (.c4 I<|.c I .nil) h (fun k_148 h => ?_) (fun b1_147 h => ?_)
   ·refine .block<|.sr<|.buildVec [] I I I I I E49 I (fun _ => I) I (enc := Row.enc)<|.z I<|.nil<|.sr<|.z I<|.nil<|.sr<|.z I<|.nil<|.seq<|.sr<|.z I<|.nil<|.block<|.loopS [5, 6, 7, 11, 12, 13] (fun (v : (List Row) × Bool × Bool × Int) => [(14, .vec 2 (List.length v.1)), (15, .d (.bool v.2.1)), (16, .d (.bool v.2.2.1)), (17, .d (.int v.2.2.2))]) (fun (v : (List Row) × Bool × Bool × Int) => [(2, .vec 33 2 (List.map Row.enc v.1))]) (.c4 I<|.c2 I .nil) h ⟨_, Fz8 I<|Fz4 I<|FzE⟩ (fun _ v h => ?_)
    obtain ⟨b2_185, x186, x187, x188⟩ := v
    refine .seq<|.sr<|.m I<|.m I<|.m I<|bK h fun x190 q190 h => .p I (.ix I U145 S22 q190)<|.p I (.ld Y22 I)<|.p I (.len I U22 I)<|.p I (.ls I)<|.nil<|.keep [.dead, .vec 49 1 (List.map eH b1_144), .vec 33 2 (List.map Row.enc b2_185)] [5, 6, 7, 11, 12, 13, 14, 15, 16, 17, 74] (.c8 I<|.c2 I<|.c I .nil) I<|.condS I h (fun h => ?_) fun h => ?_
    ·refine .skip<|.seq<|.block<|.seq<|.draw 15 Hm (by kernel_rfl) (by kernel_rfl)<|.m I<|.m I<|bK h fun x191 q191 h => .p I (.ix I U145 S22 q191)<|.p I (.ld Y22 I)<|.m I<|.p I (.ad I)<|.m I<|.m I<|bK h fun x192 q192 h => .p I (.ix I U145 S22 q192)<|.p I (.ld Y22 I)<|.p I (.len I U22 I)<|bK h fun x193 q193 h => .p I (.rem6 I I I q193)<|bK h fun x194 q194 h => .p I (.ix I U22 S3 q194)<|.p I (.ld Y3 I)<|.z I<|.nil<|.nil<|.seq<|.draw 16 Hm (by kernel_rfl) (by kernel_rfl)<|.f I (G78_3 _) Y3 I<|.m I<|.m I<|bK h fun x195 q195 h => .p I (.ix I U145 S22 q195)<|.p I (.ld Y22 I)<|.m I<|bK h fun x196 q196 h => .p I (.ix I U22 S3 q196)<|.p I (.ld Y3 I)<|.p I (.fa I (G78_4 _)) ?_
     refine .p I (.ld Y3 I)<|.p I (.ml I)<|.p I (.ad I)<|.m I<|.p I (.ad I)<|.z I<|.nil<|.nil<|.keep [.dead, .vec 49 1 (List.map eH b1_144), .vec 33 2 (List.map Row.enc b2_185)] [5, 6, 7, 11, 12, 13, 14, 15, 16, 17, 19] (.c8 I<|.c2 I<|.c I .nil) I<|.seq<|.plain 7 I<|.m I<|.m I<|gK h fun c198 h => .jO 4 (decide (0 < ((zaD n t2 (add64 (add64 t1.first (mul64 x196 t1.size)) x194)).getD default))) I (fun b197 => ?_) ?_
     ·refine .q I (.ld Y82 I)<|.qm I<|.q I (.call I (kC I) I (zbG _ _ _ _ (someD (impF c198 b197))))<|.q I (.gt I)<|.nil I
     refine .nil<|.z I<|.nil<|.seq<|.plain 7 I<|.m I<|.m I<|gK h fun c200 h => .jO 4 (decide (0 < ((zaD n t3 (add64 (add64 t1.first (mul64 x196 t1.size)) x194)).getD default))) I (fun b199 => ?_) ?_
     ·refine .q I (.ld Y82 I)<|.qm I<|.q I (.call I (kC I) I (zbG _ _ _ _ (someD (impF c200 b199))))<|.q I (.gt I)<|.nil I
     refine .nil<|.z I<|.nil<|.keep [.dead, .vec 49 1 (List.map eH b1_144), .vec 33 2 (List.map Row.enc b2_185)] [5, 6, 7, 11, 12, 13, 14, 15, 16, 17, 19] (.c8 I<|.c2 I<|.c I .nil) I<|.draw 14 Hm (by kernel_rfl) (by kernel_rfl)<|.m I<|.m I<|.p I (.castD (Term.enc (⟨add64 (add64 t1.first (mul64 x196 t1.size)) x194, (-1)⟩ : Term)) I (.build I Pl41 (.agg Zc41 (ds' := [_, _]) (.e .e1)) I I))<|.p I (.buildSl [_] I I E31 I (fun _ => I) I (enc := Term.enc))<|.p I (.ld Y82 I)<|.m I<|bK h fun x201 q201 h => .p I (.call I (kC I) I (zbG _ _ _ _ q201))<|.p I (.ad I)<|.p I (.ld Y82 I)<|.m I<|bK h fun x202 q202 h => .p I (.call I (kC I) I (zbG _ _ _ _ q202))<|.p I (.ad I)<|.p I (.castD (Row.enc (⟨[(⟨add64 (add64 t1.first (mul64 x196 t1.size)) x194, (-1)⟩ : Term)], add64 (add64 (-1) x201) x202⟩ : Row)) I (.build I Pl33 (.agg Zc33 (ds' := [_, _]) (.e .e1)) I I))<|.p I (.buildSl [_] I I E49 I (fun _ => I) I (enc := Row.enc))<|.nil<|bK h fun x203 q203 h => .app I I I I I I I I E49 I (fun _ => I) q203<|.z I<|.nil<|.keep [.dead, .vec 49 1 (List.map eH b1_144), .vec 33 2 (List.map Row.enc x203)] [5, 6, 7, 11, 12, 13, 14, 15, 16, 17] (.c8 I<|.c2 I .nil) I<|.region<|.m I<|.p I (.ad I)<|.z I<|.nil ⟨_, h, _, Fz8 I<|Fz4 I<|FzE⟩
    ·refine .exit<|.seq<|.plain 4 I<|.m I<|.m I<|.jA 1 (x187) I (fun b204 => ?_) ?_
     ·refine .qm I<|.nil I
     refine .nil<|.nil<|.condS I h (fun h => ?_) fun h => ?_
     ·refine .freezes [2] (.cons (t := 14) I (.vec (inIds I) I (by simp)) .nil)<|.region<|.m I<|.m I<|.p I (.buildSl [_] I I E51 I (fun _ => I) I (enc := eH))<|bK h fun x205 q205 h => .app I I I I I I I I E51 I (fun _ => I) q205<|.z I<|.nil ⟨_, h, _, Fz8 I<|FzE⟩
     ·refine .skip ⟨_, h, _, Fz8 I<|FzE⟩
   ·refine .region<|.m I<|.p I (.ad I)<|.z I<|.nil ⟨_, h, _, Fz8 I<|FzE⟩
  ·refine .exit<|.sr<|.m I<|.z I<|.nil<|.ret ?_
   cases h
   exact zbv I (.vec I (by simp))
theorem zda (n : Nat) (t0 : Int) (t1 : Int) (t2 : Int) (r : Bool) (h : za2 n t0 t1 t2 = some r) : Pure pg 127 [.int t0, .int t1, .int t2] (.bool r) := by
 refine Pure.ot Tryz.func127 I Tryz.ntmps127 I fun A w => .sr<|.z I<|.nil<|.seq<|.plain 8 I<|.m I<|.m I<|.p I (.ge I)<|.m I<|.jA 3 (decide (t0 ≤ t2)) I (fun b1 => ?_) ?_
 ·refine .qm I<|.qm I<|.q I (.le I)<|.nil I
 refine .nil<|.z I<|.nil<|.ret (rO h I)
theorem zlM (n : Nat) (t0 : Row) (t1 : Int) (r : Bool) (h : zc9 n t0 t1 = some r) : Pure pg 186 [Row.enc t0, .int t1] (.bool r) := by
 refine Pure.ot Tryz.func186 I Tryz.ntmps186 I fun A w => .sr<|.p I (.bx I)<|.z I<|.nil<|.sr<|.z I<|.nil<|.seq<|.sr<|.z I<|.nil<|.block<|.loopS [1, 2] (fun (v : Int × Int) => [(5, .d (.int v.1)), (6, .d (.int v.2))]) (fun (v : Int × Int) => []) (.c2 I .nil) h ⟨_, Fz4 I<|Fz2 I<|FzE⟩ (fun _ v h => ?_)
 obtain ⟨x15, x16⟩ := v
 refine .seq<|.sr<|.m I<|.f I (G33_0 _) Y31 I<|.p I (.len I U31 I)<|.p I (.ls I)<|.nil<|.keep [] [1, 2, 5, 6, 12] (.c4 I<|.c I .nil) I<|.condS I h (fun h => ?_) fun h => ?_
 ·refine .skip<|.seq<|.block<|.sr<|.f I (G33_0 _) Y31 I<|.m I<|bK h fun x18 q18 h => .p I (.ix I U31 S41 q18)<|.p I (.ld Y41 I)<|.allocStore I I I I I I I I (by simp) I I Z41<|.nil<|.seq<|.seq<|.plain 21 I<|.f I (G41_0 _) Y3 I<|.m I<|.p I (.le I)<|.m I<|.jO 4 (decide (t1 ≤ x18.cell)) I (fun b19 => ?_) ?_
  ·refine .qf I (G41_0 _) Y3 I<|.qm I<|.q I (.ge I)<|.nil I
  refine .m I<|.jO 3 (x18.factor == 0) I (fun b20 => ?_) ?_
  ·refine .qf I (G41_1 _) Y3 I<|.q I (.eq I)<|.nil I
  refine .m I<|gK h fun c22 h => .jO 4 (!((za2 n x18.factor (-1000) 1000).getD default)) I (fun b21 => ?_) ?_
  ·refine .qf I (G41_1 _) Y3 I<|.q I (.call I (kC I) I (zda _ _ _ _ _ (someD (impF c22 b21))))<|.q I (.nt I)<|.nil I
  refine .nil<|.nil<|.keep [] [1, 2, 6, 7, 40] (.c4 I<|.c I .nil) I<|.condS I h (fun h => ?_) fun h => ?_
  ·refine .sr<|.z I<|.nil<|.ret (rO h I)
  ·refine .skip<|.region<|.f I (G41_0 _) Y3 I<|.z I<|.nil<|.region<|.m I<|.p I (.ad I)<|.z I<|.nil ⟨_, h, _, Fz4 I<|Fz2 I<|FzE⟩
 ·refine .exit<|.sr<|.f I (G33_1 _) Y3 I<|bK h fun x23 q23 h => .p I (.call I (kC I) I (zda _ _ _ _ _ q23))<|.z I<|.nil<|.ret (rO h I)
theorem zgQ (n : Nat) (t0 : List Range) (t1 : List Row) (r : Bool) (h : zae n t0 t1 = some r) : Pure pg 124 [eK t0, eH t1] (.bool r) := by
 refine Pure.ot Tryz.func124 I Tryz.ntmps124 I fun A w => .sr<|.z I<|.nil<|.seq<|.sr<|.m I<|.p I (.len I U48 I)<|.p I (.gt I)<|.nil<|.condS I h (fun h => ?_) fun h => ?_
 ·refine .sr<|.z I<|.nil<|.ret (rO h I)
 ·refine .skip<|.seq<|.sr<|.z I<|.nil<|.block<|.loopS [0, 1] (fun (v : Int) => [(5, .d (.int v))]) (fun (v : Int) => []) (.c2 I .nil) h ⟨_, Fz4 I<|Fz2 I trivial⟩ (fun _ x13 h => ?_)
  refine .seq<|.sr<|.m I<|.m I<|.p I (.len I U48 I)<|.p I (.ls I)<|.nil<|.keep [] [0, 1, 5, 13] (.c4 I .nil) I<|.condS I h (fun h => ?_) fun h => ?_
  ·refine .skip<|.seq<|.block<|.seq<|.plain 16 I<|.m I<|.m I<|bK h fun x15 q15 h => .p I (.ix I U48 S87 q15)<|.f I (G87_0 _) Y3 I<|bK h fun x16 q16 h => .p I (.call I (kC I) I (zda _ _ _ _ _ q16))<|.p I (.nt I)<|.m I<|gK h fun c18 h => gK h fun c19 h => .jO 7 (!((za2 n (((idx t0 x13).getD default).hi) (-1000000) 1000000).getD default)) I (fun b17 => ?_) ?_
   ·refine .qm I<|.qm I<|.q I (.ix I U48 S87 (someD (impF c18 b17)))<|.qf I (G87_1 _) Y3 I<|.q I (.call I (kC I) I (zda _ _ _ _ _ (someD (impF c19 b17))))<|.q I (.nt I)<|.nil I
   refine .nil<|.nil<|.keep [] [0, 1, 5, 31] (.c4 I .nil) I<|.condS I h (fun h => ?_) fun h => ?_
   ·refine .sr<|.z I<|.nil<|.ret (rO h I)
   ·refine .skip<|.region<|.m I<|.p I (.ad I)<|.z I<|.nil ⟨_, h, _, Fz4 I<|Fz2 I trivial⟩
  ·refine .exit<|.seq<|.sr<|.z I<|.nil<|.block<|.loopS [0, 1] (fun (v : Int) => [(6, .d (.int v))]) (fun (v : Int) => []) (.c2 I .nil) h ⟨_, Fz4 I<|Fz2 I trivial⟩ (fun _ x26 h => ?_)
   refine .seq<|.sr<|.m I<|.m I<|.p I (.len I U49 I)<|.p I (.ls I)<|.nil<|.keep [] [0, 1, 6, 35] (.c4 I .nil) I<|.condS I h (fun h => ?_) fun h => ?_
   ·refine .skip<|.seq<|.block<|.sr<|.m I<|.m I<|bK h fun x28 q28 h => .p I (.ix I U49 S33 q28)<|.p I (.ld Y33 I)<|.m I<|.p I (.len I U48 I)<|bK h fun x29 q29 h => .p I (.call I (kC I) I (zlM _ _ _ _ q29))<|.p I (.nt I)<|.nil<|.condS I h (fun h => ?_) fun h => ?_
    ·refine .sr<|.z I<|.nil<|.ret (rO h I)
    ·refine .skip<|.region<|.m I<|.p I (.ad I)<|.z I<|.nil ⟨_, h, _, Fz4 I<|Fz2 I trivial⟩
   ·refine .exit<|.sr<|.z I<|.nil<|.ret (rO h I)
theorem zkc (n : Nat) (t0 : List Range) (r : Bool) (h : zbt n t0 = some r) : Pure pg 125 [eK t0] (.bool r) := by
 refine Pure.ot Tryz.func125 I Tryz.ntmps125 I fun A w => .sr<|.z I<|.nil<|.seq<|.sr<|.z I<|.nil<|.block<|.loopS [0] (fun (v : Int) => [(3, .d (.int v))]) (fun (v : Int) => []) (.c I .nil) h ⟨_, Fz4 I<|FzE⟩ (fun _ x7 h => ?_)
 refine .seq<|.sr<|.m I<|.m I<|.p I (.len I U48 I)<|.p I (.ls I)<|.nil<|.keep [] [0, 3, 7] (.c2 I<|.c I .nil) I<|.condS I h (fun h => ?_) fun h => ?_
 ·refine .skip<|.seq<|.block<|.seq<|.draw 11 Hm (by kernel_rfl) (by kernel_rfl)<|.m I<|.m I<|bK h fun x9 q9 h => .p I (.ix I U48 S87 q9)<|.f I (G87_0 _) Y3 I<|.m I<|.m I<|bK h fun x10 q10 h => .p I (.ix I U48 S87 q10)<|.f I (G87_1 _) Y3 I<|.p I (.gt I)<|.nil<|.nil<|.condS I h (fun h => ?_) fun h => ?_
  ·refine .sr<|.z I<|.nil<|.ret (rO h I)
  ·refine .skip<|.region<|.m I<|.p I (.ad I)<|.z I<|.nil ⟨_, h, _, Fz4 I<|FzE⟩
 ·refine .exit<|.sr<|.z I<|.nil<|.ret (rO h I)
theorem zkf (n : Nat) (t0 : System) (r : Bool) (h : zW n t0 = some r) : Pure pg 72 [System.enc t0] (.bool r) := by
 refine Pure.ot Tryz.func72 I Tryz.ntmps72 I fun A w => .sr<|.p I (.bx I)<|.z I<|.nil<|.seq<|.seq<|.plain 29 I<|.f I (G53_1 _) Y49 I<|.p I (.len I U49 I)<|.p I (.gt I)<|.m I<|.jO 4 (decide (64 < (t0.graphs.length : Int))) I (fun b1 => ?_) ?_
 ·refine .qf I (G53_2 _) Y50 I<|.q I (.len I U50 I)<|.q I (.gt I)<|.nil I
 refine .m I<|.jO 4 (decide (1024 < (t0.cases.length : Int))) I (fun b2 => ?_) ?_
 ·refine .qf I (G53_3 _) Y51 I<|.q I (.len I U51 I)<|.q I (.gt I)<|.nil I
 refine .m I<|gK h fun c4 h => .jO 6 (!((zae n t0.box t0.rows).getD default)) I (fun b3 => ?_) ?_
 ·refine .qf I (G53_0 _) Y48 I<|.qf I (G53_1 _) Y49 I<|.q I (.call I (kC I) I (zgQ _ _ _ _ (someD (impF c4 b3))))<|.q I (.nt I)<|.nil I
 refine .m I<|gK h fun c6 h => .jO 3 (((zbt n t0.box).getD default)) I (fun b5 => ?_) ?_
 ·refine .qf I (G53_0 _) Y48 I<|.q I (.call I (kC I) I (zkc _ _ _ (someD (impF c6 b5))))<|.nil I
 refine .nil<|.nil<|.keep [] [1, 35] (.c2 I .nil) I<|.condS I h (fun h => ?_) fun h => ?_
 ·refine .sr<|.z I<|.nil<|.ret (rO h I)
 ·refine .skip<|.seq<|.sr<|.z I<|.nil<|.block<|.loopS [1] (fun (v : Int) => [(3, .d (.int v))]) (fun (v : Int) => []) (.c I .nil) h ⟨_, Fz4 I<|FzE⟩ (fun _ x17 h => ?_)
  refine .seq<|.sr<|.m I<|.f I (G53_3 _) Y51 I<|.p I (.len I U51 I)<|.p I (.ls I)<|.nil<|.keep [] [1, 3, 40] (.c2 I<|.c I .nil) I<|.condS I h (fun h => ?_) fun h => ?_
  ·refine .skip<|.seq<|.block<|.seq<|.draw 18 Hm (by kernel_rfl) (by kernel_rfl)<|.f I (G53_3 _) Y51 I<|.m I<|bK h fun x19 q19 h => .p I (.ix I U51 S49 q19)<|.p I (.ld Y49 I)<|.p I (.len I U49 I)<|.p I (.gt I)<|.m I<|gK h fun c21 h => gK h fun c22 h => .jO 9 (!((zae n t0.box ((idx t0.cases x17).getD default)).getD default)) I (fun b20 => ?_) ?_
   ·refine .qf I (G53_0 _) Y48 I<|.qf I (G53_3 _) Y51 I<|.qm I<|.q I (.ix I U51 S49 (someD (impF c21 b20)))<|.q I (.ld Y49 I)<|.q I (.call I (kC I) I (zgQ _ _ _ _ (someD (impF c22 b20))))<|.q I (.nt I)<|.nil I
   refine .nil<|.nil<|.keep [] [1, 3, 60] (.c2 I<|.c I .nil) I<|.condS I h (fun h => ?_) fun h => ?_
   ·refine .sr<|.z I<|.nil<|.ret (rO h I)
   ·refine .skip<|.region<|.m I<|.p I (.ad I)<|.z I<|.nil ⟨_, h, _, Fz4 I<|FzE⟩
  ·refine .exit<|.seq<|.sr<|.z I<|.nil<|.block<|.loopS [1] (fun (v : Int) => [(4, .d (.int v))]) (fun (v : Int) => []) (.c I .nil) h ⟨_, Fz4 I<|FzE⟩ (fun _ x61 h => ?_)
   refine .seq<|.sr<|.m I<|.f I (G53_2 _) Y50 I<|.p I (.len I U50 I)<|.p I (.ls I)<|.nil<|.keep [] [1, 4, 65] (.c2 I<|.c I .nil) I<|.condS I h (fun h => ?_) fun h => ?_
   ·refine .skip<|.seq<|.block<|.sr<|.f I (G53_2 _) Y50 I<|.m I<|bK h fun x63 q63 h => .p I (.ix I U50 S99 q63)<|.p I (.ld Y99 I)<|.allocStore I I I I I I I I (by simp) I I Z99<|.nil<|.seq<|.seq<|.plain 38 I<|.f I (G99_1 _) Y3 I<|.p I (.ls I)<|.m I<|.jO 3 (decide (6 < x63.size)) I (fun b64 => ?_) ?_
    ·refine .qf I (G99_1 _) Y3 I<|.q I (.gt I)<|.nil I
    refine .m I<|.jO 3 (decide (x63.first < 0)) I (fun b65 => ?_) ?_
    ·refine .qf I (G99_0 _) Y3 I<|.q I (.ls I)<|.nil I
    refine .m I<|.jO 12 (decide (sub64 (t0.box.length : Int) (mul64 x63.size x63.size) < x63.first)) I (fun b66 => ?_) ?_
    ·refine .qf I (G99_0 _) Y3 I<|.qf I (G53_0 _) Y48 I<|.q I (.len I U48 I)<|.qf I (G99_1 _) Y3 I<|.qf I (G99_1 _) Y3 I<|.q I (.ml I)<|.q I (.sb I)<|.q I (.gt I)<|.nil I
    refine .m I<|.jO 9 ((x63.least.length : Int) != (mul64 x63.size x63.size)) I (fun b67 => ?_) ?_
    ·refine .qf I (G99_2 _) Y22 I<|.q I (.len I U22 I)<|.qf I (G99_1 _) Y3 I<|.qf I (G99_1 _) Y3 I<|.q I (.ml I)<|.q I (.ne I)<|.nil I
    refine .nil<|.nil<|.keep [] [1, 4, 5, 110] (.c4 I .nil) I<|.condS I h (fun h => ?_) fun h => ?_
    ·refine .sr<|.z I<|.nil<|.ret (rO h I)
    ·refine .skip<|.sr<|.z I<|.nil<|.block<|.loopS [1, 4, 5] (fun (v : Int) => [(6, .d (.int v))]) (fun (v : Int) => []) (.c2 I<|.c I .nil) h ⟨_, Fz4 I<|Fz2 I<|FzE⟩ (fun _ x76 h => ?_)
     refine .seq<|.sr<|.m I<|.f I (G99_2 _) Y22 I<|.p I (.len I U22 I)<|.p I (.ls I)<|.nil<|.keep [] [1, 4, 5, 6, 115] (.c4 I<|.c I .nil) I<|.condS I h (fun h => ?_) fun h => ?_
     ·refine .skip<|.seq<|.block<|.seq<|.plain 14 I<|.f I (G99_2 _) Y22 I<|.m I<|bK h fun x78 q78 h => .p I (.ix I U22 S3 q78)<|.p I (.ld Y3 I)<|.p I (.ls I)<|.m I<|gK h fun c80 h => .jO 6 (decide (4000000 < ((idx x63.least x76).getD default))) I (fun b79 => ?_) ?_
      ·refine .qf I (G99_2 _) Y22 I<|.qm I<|.q I (.ix I U22 S3 (someD (impF c80 b79)))<|.q I (.ld Y3 I)<|.q I (.gt I)<|.nil I
      refine .nil<|.nil<|.condS I h (fun h => ?_) fun h => ?_
      ·refine .sr<|.z I<|.nil<|.ret (rO h I)
      ·refine .skip<|.region<|.m I<|.p I (.ad I)<|.z I<|.nil ⟨_, h, _, Fz4 I<|Fz2 I<|FzE⟩
     ·refine .exit<|.region<|.m I<|.p I (.ad I)<|.z I<|.nil ⟨_, h, _, Fz4 I<|FzE⟩
   ·refine .exit<|.sr<|.z I<|.nil<|.ret (rO h I)
theorem zjI (n : Nat) (t0 : Model) (t1 : Question) (t2 : List Int) (r : System × Int) (h : zk n t0 t1 t2 = some r) : Pure pg 20 [Model.enc t0, Question.enc t1, eA t2] (.tup [System.enc r.1, .int r.2]) := by
 refine Pure.ot Tryz.func20 I Tryz.ntmps20 I fun A w => .sr<|.p I (.bx I)<|.p I (.bx I)<|.allocZ I I I I (.agg Zc53 (ds' := [eK [], eH [], eO [], eR []]) (.o (.o (.o .o1)))) I<|.z I<|.nil<|.seq<|.sr<|.p I (.ld Y30 I)<|.p I (.ld Y37 I)<|bK h fun x1 q1 h => .p I (.call I (kC I) I (zka _ _ _ _ q1))<|.p I (.nt I)<|.nil<|.condS I h (fun h => ?_) fun h => ?_
 ·refine .sr<|.p I (.castD (System.enc (⟨[], [], [], []⟩ : System)) I (.build I Pl53 (.agg Zc53 (ds' := [eK [], eH [], eO [], eR []]) (.o (.o (.o .o1)))) I I))<|.store I I I I I I (.ofD I) C53 I (yd I)<|.z I<|.nil<|.ret ?_
  cases h
  exact zcz I I Y53 (.v (.v (.v .v1))) I (.d _)
 ·refine .skip<|.seq<|.sr<|.z I<|.nil<|.block<|.loopS [2, 3, 4, 6] (fun (v : Int) => [(8, .d (.int v))]) (fun (v : Int) => []) (.c4 I .nil) h ⟨_, Fz8 I trivial⟩ (fun _ x16 h => ?_)
  refine .seq<|.sr<|.m I<|.m I<|.p I (.len I U22 I)<|.p I (.ls I)<|.nil<|.keep [.box 53 [.d (eK []), .d (eH []), .d (eO []), .d (eR [])]] [2, 3, 4, 6, 8, 32] (.c4 I<|.c2 I .nil) I<|.condS I h (fun h => ?_) fun h => ?_
  ·refine .skip<|.seq<|.block<|.seq<|.draw 27 Hm (by kernel_rfl) (by kernel_rfl)<|.m I<|.m I<|bK h fun x18 q18 h => .p I (.ix I U22 S3 q18)<|.p I (.ld Y3 I)<|.p I (.ls I)<|.m I<|gK h fun c20 h => .jO 8 (decide ((t0.constraints.length : Int) ≤ ((idx t2 x16).getD default))) I (fun b19 => ?_) ?_
   ·refine .qm I<|.qm I<|.q I (.ix I U22 S3 (someD (impF c20 b19)))<|.q I (.ld Y3 I)<|.qf I (G30_3 _) Y25 I<|.q I (.len I U25 I)<|.q I (.ge I)<|.nil I
   refine .m I<|gK h fun c22 h => gK h fun c23 h => .jO 10 ((((idx t0.constraints ((idx t2 x16).getD default)).getD default).kind) != 0) I (fun b21 => ?_) ?_
   ·refine .qf I (G30_3 _) Y25 I<|.qm I<|.qm I<|.q I (.ix I U22 S3 (someD (impF c22 b21)))<|.q I (.ld Y3 I)<|.q I (.ix I U25 S78 (someD (impF c23 b21)))<|.qf I (G78_0 _) Y3 I<|.q I (.ne I)<|.nil I
   refine .nil<|.nil<|.keep [.box 53 [.d (eK []), .d (eH []), .d (eO []), .d (eR [])]] [2, 3, 4, 6, 8, 61] (.c4 I<|.c2 I .nil) I<|.condS I h (fun h => ?_) fun h => ?_
   ·refine .sr<|.p I (.castD (System.enc (⟨[], [], [], []⟩ : System)) I (.build I Pl53 (.agg Zc53 (ds' := [eK [], eH [], eO [], eR []]) (.o (.o (.o .o1)))) I I))<|.store I I I I I I (.ofD I) C53 I (yd I)<|.z I<|.nil<|.ret ?_
    cases h
    exact zcz I I Y53 (.v (.v (.v .v1))) I (.d _)
   ·refine .skip<|.region<|.m I<|.p I (.ad I)<|.z I<|.nil ⟨_, h, _, Fz8 I trivial⟩
  ·refine .exit<|.sr<|.f I (G30_5 _) Y27 I<|.f I (G37_0 _) Y3 I<|bK h fun x24 q24 h => .p I (.ix I U27 S84 q24)<|.f I (G84_2 _) Y82 I<|.allocStore I I I I I I I I (by simp) I I Z82<|.nil<|.sr<|.f I (G30_5 _) Y27 I<|.f I (G37_1 _) Y3 I<|bK h fun x25 q25 h => .p I (.ix I U27 S84 q25)<|.f I (G84_2 _) Y82 I<|.allocStore I I I I I I I I (by simp) I I Z82<|.nil<|.keep [.box 53 [.d (eK []), .d (eH []), .d (eO []), .d (eR [])]] [2, 3, 4, 6, 9, 10] (.c4 I<|.c2 I .nil) I<|.sr<|.p I (.ld Y30 I)<|bK h fun x26 q26 h => .p I (.call I (kC I) I (zlP _ _ _ q26))<|.p I (.build I Pl53 (.agg Zc53 (ds' := [_, .val (.slice none 0 0), .val (.slice none 0 0), eR []]) (.e (.e (.e .o1)))) I I)<|.allocZ I I I I (.agg Zc53 (ds' := [eK [], .val (.slice none 0 0), .val (.slice none 0 0), eR []]) (.o (.e (.e .o1)))) I<|.nilCell 1 1 2 33 I I<|.nilCell 1 2 3 99 I I<|.store I I I I I I (.ofD I) C53 I (yd I)<|.nilCell 1 1 2 33 I I ?_
   refine .nilCell 1 2 3 99 I I<|.nil<|.seq<|.sr<|.z I<|.nil<|.block<|.loopS [2, 3, 4, 6, 9, 10, 11] (fun (v : (List Row) × Int) => [(12, .d (.int v.2))]) (fun (v : (List Row) × Int) => [(1, .box 53 [.d (eK x26), .vec 4 (List.length v.1), .vec 5 (List.length ([] : List Graph)), .d (eR [])]), (4, .vec 33 2 (List.map Row.enc v.1))]) (.c4 I<|.c2 I<|.c I .nil) h ⟨_, Fz8 I<|Fz2 I<|FzE⟩ (fun _ v h => ?_)
   obtain ⟨b4_55, x56⟩ := v
   refine .seq<|.sr<|.m I<|.f I (G30_3 _) Y25 I<|.p I (.len I U25 I)<|.p I (.ls I)<|.nil<|.keep [.box 53 [.d (eK []), .d (eH []), .d (eO []), .d (eR [])], .box 53 [.d (eK x26), .vec 4 (List.length b4_55), .vec 5 (List.length ([] : List Graph)), .d (eR [])], .vec 33 2 (List.map Row.enc ([] : List Row)), .vec 99 3 (List.map Graph.enc ([] : List Graph)), .vec 33 2 (List.map Row.enc b4_55), .vec 99 3 (List.map Graph.enc ([] : List Graph))] [2, 3, 4, 6, 9, 10, 11, 12, 84] (.c8 I<|.c I .nil) I<|.condS I h (fun h => ?_) fun h => ?_
   ·refine .skip<|.join [2, 3, 4, 6, 9, 10, 11, 12] (fun (v : (List Row)) => []) (fun (v : (List Row)) => [(1, .box 53 [.d (eK x26), .vec 4 (List.length v), .vec 5 (List.length ([] : List Graph)), .d (eR [])]), (4, .vec 33 2 (List.map Row.enc v))]) (.c8 I .nil) h (fun k_59 h => ?_) (fun b4_58 h => ?_)
    ·refine .block<|.sr<|.f I (G30_3 _) Y25 I<|.m I<|bK h fun x60 q60 h => .p I (.ix I U25 S78 q60)<|.p I (.ld Y78 I)<|.allocStore I I I I I I I I (by simp) I I Z78<|.nil<|.seq<|.sr<|.f I (G78_0 _) Y3 I<|.p I (.ne I)<|.nil<|.condS I h (fun h => ?_) fun h => ?_
     ·refine .exit ⟨_, h, _, Fz8 I<|Fz2 I<|FzE⟩
     ·refine .skip<|.sr<|.p I (.ld Y82 I)<|.f I (G78_2 _) Y33 I<|bK h fun x61 q61 h => .p I (.call I (kC I) I (zdw _ _ _ _ q61))<|.z I<|.nil<|.sr<|.p I (.ld Y82 I)<|.f I (G78_2 _) Y33 I<|bK h fun x62 q62 h => .p I (.call I (kC I) I (zdw _ _ _ _ q62))<|.z I<|.nil<|.keep [.box 53 [.d (eK []), .d (eH []), .d (eO []), .d (eR [])], .box 53 [.d (eK x26), .vec 4 (List.length b4_55), .vec 5 (List.length ([] : List Graph)), .d (eR [])], .vec 33 2 (List.map Row.enc ([] : List Row)), .vec 99 3 (List.map Graph.enc ([] : List Graph)), .vec 33 2 (List.map Row.enc b4_55), .vec 99 3 (List.map Graph.enc ([] : List Graph))] [2, 3, 4, 6, 9, 10, 11, 12, 13, 14, 15] (.c8 I<|.c2 I<|.c I .nil) I<|.sr<|.m I<|.m I<|.p I (.max3 I I I I)<|.z I<|.nil<|.join [2, 3, 4, 6, 9, 10, 11, 12, 13] (fun (v : Int) => [(16, .d (.int v))]) (fun (v : Int) => []) (.c8 I<|.c I .nil) h (fun k_64 h => ?_) (fun x63 h => ?_)
      ·refine .seq<|.plain 15 I<|.m I<|.m I<|bK h fun x65 q65 h => .p I (.call I (kC I) I (zlS _ _ _ _ q65))<|.m I<|.jA 10 (t1.target.hold || (t1.target.index != x56)) I (fun b66 => ?_) ?_
       ·refine .q I (.fa I (G37_2 _))<|.qf I (G35_0 _) Y4 I<|.qm I<|.jOr 5 (b2 := t1.target.index != x56) I I I I (.inr ⟨_, _, _, I, I, I⟩) (fun _ _ _ h1 h2 => by cases h1; cases h2; decide) I I (fun b67 => ?_) ?_
        ·refine .q I (.fa I (G37_2 _))<|.qf I (G35_1 _) Y3 I<|.qm I<|.q I (.ne I)<|.nil I
        exact .nil I
       refine .nil<|.nil<|.keep [.box 53 [.d (eK []), .d (eH []), .d (eO []), .d (eR [])], .box 53 [.d (eK x26), .vec 4 (List.length b4_55), .vec 5 (List.length ([] : List Graph)), .d (eR [])], .vec 33 2 (List.map Row.enc ([] : List Row)), .vec 99 3 (List.map Graph.enc ([] : List Graph)), .vec 33 2 (List.map Row.enc b4_55), .vec 99 3 (List.map Graph.enc ([] : List Graph))] [2, 3, 4, 6, 9, 10, 11, 12, 13, 14, 15, 16, 120] (.c8 I<|.c4 I<|.c I .nil) I<|.condS I h (fun h => ?_) fun h => ?_
       ·refine .region<|.m I<|.m I<|.m I<|.p I (.ad I)<|.p I (.max2 I I I)<|.z I<|.nil ⟨_, h, _, Fz8 I<|Fz4 I<|FzE⟩
       ·refine .skip ⟨_, h, _, Fz8 I<|Fz4 I<|FzE⟩
      ·refine .sr<|.f I (G78_2 _) Y33 I<|bK h fun x68 q68 h => .p I (.call I (kC I) I (zfl _ _ _ q68))<|.allocZ I I I I (.agg Zc33 (ds' := [eL [], .int 0]) (.o .e1)) I<|.store I I I I I I (.ofD I) C33 I (yd I)<|.nil<|.keep [.box 53 [.d (eK []), .d (eH []), .d (eO []), .d (eR [])], .box 53 [.d (eK x26), .vec 4 (List.length b4_55), .vec 5 (List.length ([] : List Graph)), .d (eR [])], .vec 33 2 (List.map Row.enc ([] : List Row)), .vec 99 3 (List.map Graph.enc ([] : List Graph)), .vec 33 2 (List.map Row.enc b4_55), .vec 99 3 (List.map Graph.enc ([] : List Graph)), .box 33 [.d (eL x68.terms), .d (.int x68.bound)]] [2, 3, 4, 6, 9, 10, 11, 12, 16, 17] (.c8 I<|.c2 I .nil) I<|.sr<|.p I (.fieldAddrLoc I I I F33_1)<|.p I (.loadLoc1 I I I Y3 I)<|.m I<|.p I (.sb I)<|.p I (.fieldAddrLoc I I I F33_1)<|.store I I I I I I (.ofD I) C3 I (yd I)<|.nil<|.region<|.p I (.fieldAddrLoc I I I F53_1)<|.p I (.loadLoc1 I I I Y49 I)<|.p I (.loadLoc I I I Y33 (yd I) (v := .d (Row.enc (⟨x68.terms, sub64 x68.bound x63⟩ : Row))) I)<|.p I (.buildSl [_] I I E49 I (fun _ => I) I (enc := Row.enc))<|bK h fun x69 q69 h => .app I I I I I I I I E49 I (fun _ => I) q69<|.p I (.fieldAddrLoc I I I F53_1)<|.store I I I I I I (.cons (.vec I (by simp)) .nil) C49 I (yd I)<|.nil ⟨_, h, _, Fz8 I<|Fz2 I<|FzE⟩
    ·refine .region<|.m I<|.p I (.ad I)<|.z I<|.nil ⟨_, h, _, Fz8 I<|Fz2 I<|FzE⟩
   ·refine .exit<|.seq<|.sr<|.z I<|.nil<|.block<|.loopS [3, 4, 6, 9, 10, 11] (fun (v : (List Row) × Int) => [(18, .d (.int v.2))]) (fun (v : (List Row) × Int) => [(1, .box 53 [.d (eK x26), .vec 4 (List.length v.1), .vec 5 (List.length ([] : List Graph)), .d (eR [])]), (4, .vec 33 2 (List.map Row.enc v.1))]) (.c4 I<|.c2 I .nil) h ⟨_, Fz8 I<|Fz2 I trivial⟩ (fun _ v h => ?_)
    obtain ⟨b4_80, x81⟩ := v
    refine .seq<|.sr<|.m I<|.f I (G82_1 _) Y49 I<|.p I (.len I U49 I)<|.p I (.ls I)<|.nil<|.keep [.box 53 [.d (eK []), .d (eH []), .d (eO []), .d (eR [])], .box 53 [.d (eK x26), .vec 4 (List.length b4_80), .vec 5 (List.length ([] : List Graph)), .d (eR [])], .vec 33 2 (List.map Row.enc ([] : List Row)), .vec 99 3 (List.map Graph.enc ([] : List Graph)), .vec 33 2 (List.map Row.enc b4_80), .vec 99 3 (List.map Graph.enc ([] : List Graph))] [3, 4, 6, 9, 10, 11, 18, 144] (.c8 I .nil) I<|.condS I h (fun h => ?_) fun h => ?_
    ·refine .skip<|.seq<|.block<|.draw 9 Hm (by kernel_rfl) (by kernel_rfl)<|.p I (.fieldAddrLoc I I I F53_1)<|.p I (.loadLoc1 I I I Y49 I)<|.f I (G82_1 _) Y49 I<|.m I<|bK h fun x83 q83 h => .p I (.ix I U49 S33 q83)<|.p I (.ld Y33 I)<|bK h fun x84 q84 h => .p I (.call I (kC I) I (zfl _ _ _ q84))<|.p I (.buildSl [_] I I E49 I (fun _ => I) I (enc := Row.enc))<|.nil<|bK h fun x85 q85 h => .app I I I I I I I I E49 I (fun _ => I) q85<|.p I (.fieldAddrLoc I I I F53_1)<|.store I I I I I I (.cons (.vec I (by simp)) .nil) C49 I (yd I)<|.nil<|.region<|.m I<|.p I (.ad I)<|.z I<|.nil ⟨_, h, _, Fz8 I<|Fz2 I trivial⟩
    ·refine .exit<|.seq<|.sr<|.z I<|.nil<|.block<|.loopS [3, 4, 6, 9, 10, 11] (fun (v : (List Row) × Int) => [(19, .d (.int v.2))]) (fun (v : (List Row) × Int) => [(1, .box 53 [.d (eK x26), .vec 4 (List.length v.1), .vec 5 (List.length ([] : List Graph)), .d (eR [])]), (4, .vec 33 2 (List.map Row.enc v.1))]) (.c4 I<|.c2 I .nil) h ⟨_, Fz8 I<|Fz2 I trivial⟩ (fun _ v h => ?_)
     obtain ⟨b4_98, x99⟩ := v
     refine .seq<|.seq<|.plain 12 I<|.m I<|.f I (G82_1 _) Y49 I<|.p I (.len I U49 I)<|.p I (.ls I)<|.m I<|.jA 5 (t1.e != t1.f) I (fun b101 => ?_) ?_
     ·refine .qf I (G37_0 _) Y3 I<|.qf I (G37_1 _) Y3 I<|.q I (.ne I)<|.nil I
     refine .nil<|.nil<|.keep [.box 53 [.d (eK []), .d (eH []), .d (eO []), .d (eR [])], .box 53 [.d (eK x26), .vec 4 (List.length b4_98), .vec 5 (List.length ([] : List Graph)), .d (eR [])], .vec 33 2 (List.map Row.enc ([] : List Row)), .vec 99 3 (List.map Graph.enc ([] : List Graph)), .vec 33 2 (List.map Row.enc b4_98), .vec 99 3 (List.map Graph.enc ([] : List Graph))] [3, 4, 6, 9, 10, 11, 19, 169] (.c8 I .nil) I<|.condS I h (fun h => ?_) fun h => ?_
     ·refine .skip<|.seq<|.block<|.draw 9 Hm (by kernel_rfl) (by kernel_rfl)<|.p I (.fieldAddrLoc I I I F53_1)<|.p I (.loadLoc1 I I I Y49 I)<|.f I (G82_1 _) Y49 I<|.m I<|bK h fun x102 q102 h => .p I (.ix I U49 S33 q102)<|.p I (.ld Y33 I)<|bK h fun x103 q103 h => .p I (.call I (kC I) I (zfl _ _ _ q103))<|.p I (.buildSl [_] I I E49 I (fun _ => I) I (enc := Row.enc))<|.nil<|bK h fun x104 q104 h => .app I I I I I I I I E49 I (fun _ => I) q104<|.p I (.fieldAddrLoc I I I F53_1)<|.store I I I I I I (.cons (.vec I (by simp)) .nil) C49 I (yd I)<|.nil<|.region<|.m I<|.p I (.ad I)<|.z I<|.nil ⟨_, h, _, Fz8 I<|Fz2 I trivial⟩
     ·refine .exit<|.seq<|.sr<|.z I<|.nil<|.block<|.loopS [3, 4, 6, 9, 10, 11] (fun (v : (List Graph) × Int) => [(20, .d (.int v.2))]) (fun (v : (List Graph) × Int) => [(1, .box 53 [.d (eK x26), .vec 4 (List.length b4_98), .vec 5 (List.length v.1), .d (eR [])]), (5, .vec 99 3 (List.map Graph.enc v.1))]) (.c4 I<|.c2 I .nil) h ⟨_, Fz8 I<|Fz2 I trivial⟩ (fun _ v h => ?_)
      obtain ⟨b5_137, x138⟩ := v
      refine .seq<|.sr<|.m I<|.f I (G30_3 _) Y25 I<|.p I (.len I U25 I)<|.p I (.ls I)<|.nil<|.keep [.box 53 [.d (eK []), .d (eH []), .d (eO []), .d (eR [])], .box 53 [.d (eK x26), .vec 4 (List.length b4_98), .vec 5 (List.length b5_137), .d (eR [])], .vec 33 2 (List.map Row.enc ([] : List Row)), .vec 99 3 (List.map Graph.enc ([] : List Graph)), .vec 33 2 (List.map Row.enc b4_98), .vec 99 3 (List.map Graph.enc b5_137)] [3, 4, 6, 9, 10, 11, 20, 187] (.c8 I .nil) I<|.condS I h (fun h => ?_) fun h => ?_
      ·refine .skip<|.join [3, 4, 6, 9, 10, 11, 20] (fun (v : (List Graph)) => []) (fun (v : (List Graph)) => [(1, .box 53 [.d (eK x26), .vec 4 (List.length b4_98), .vec 5 (List.length v), .d (eR [])]), (5, .vec 99 3 (List.map Graph.enc v))]) (.c4 I<|.c2 I<|.c I .nil) h (fun k_141 h => ?_) (fun b5_140 h => ?_)
       ·refine .block<|.sr<|.f I (G30_3 _) Y25 I<|.m I<|bK h fun x142 q142 h => .p I (.ix I U25 S78 q142)<|.p I (.ld Y78 I)<|.allocStore I I I I I I I I (by simp) I I Z78<|.nil<|.seq<|.sr<|.f I (G78_0 _) Y3 I<|.p I (.ne I)<|.nil<|.condS I h (fun h => ?_) fun h => ?_
        ·refine .exit ⟨_, h, _, Fz8 I<|Fz2 I trivial⟩
        ·refine .skip<|.seq<|.draw 6 Hm (by kernel_rfl) (by kernel_rfl)<|.p I (.fieldAddrLoc I I I F53_2)<|.p I (.loadLoc1 I I I Y50 I)<|.p I (.ld Y78 I)<|.p I (.castD (Effect.enc (⟨[], [], []⟩ : Effect)) I (.build I Pl82 (.agg Zc82 (ds' := [eM [], eH [], eI []]) (.o (.o .o1))) I I))<|bK h fun x143 q143 h => .p I (.call I (kC I) I (zeE _ _ _ _ q143))<|.p I (.buildSl [_] I I E50 I (fun _ => I) I (enc := Graph.enc))<|.nil<|bK h fun x144 q144 h => .app I I I I I I I I E50 I (fun _ => I) q144<|.p I (.fieldAddrLoc I I I F53_2)<|.store I I I I I I (.cons (.vec I (by simp)) .nil) C50 I (yd I)<|.nil<|.keep [.box 53 [.d (eK []), .d (eH []), .d (eO []), .d (eR [])], .box 53 [.d (eK x26), .vec 4 (List.length b4_98), .vec 5 (List.length x144), .d (eR [])], .vec 33 2 (List.map Row.enc ([] : List Row)), .vec 99 3 (List.map Graph.enc ([] : List Graph)), .vec 33 2 (List.map Row.enc b4_98), .vec 99 3 (List.map Graph.enc x144)] [3, 4, 6, 9, 10, 11, 20, 21] (.c8 I .nil) I<|.join [3, 4, 6, 9, 10, 11, 20, 21] (fun (v : (List Graph)) => []) (fun (v : (List Graph)) => [(1, .box 53 [.d (eK x26), .vec 4 (List.length b4_98), .vec 5 (List.length v), .d (eR [])]), (5, .vec 99 3 (List.map Graph.enc v))]) (.c8 I .nil) h (fun k_146 h => ?_) (fun b5_145 h => ?_)
         ·refine .sr<|.p I (.ld Y82 I)<|.p I (.ld Y78 I)<|bK h fun x147 q147 h => .p I (.call I (kC I) I (zf8 _ _ _ _ q147))<|.nil<|.condS I h (fun h => ?_) fun h => ?_
          ·refine .draw 6 Hm (by kernel_rfl) (by kernel_rfl)<|.p I (.fieldAddrLoc I I I F53_2)<|.p I (.loadLoc1 I I I Y50 I)<|.p I (.ld Y78 I)<|.p I (.ld Y82 I)<|bK h fun x148 q148 h => .p I (.call I (kC I) I (zeE _ _ _ _ q148))<|.p I (.buildSl [_] I I E50 I (fun _ => I) I (enc := Graph.enc))<|.nil<|bK h fun x149 q149 h => .app I I I I I I I I E50 I (fun _ => I) q149<|.p I (.fieldAddrLoc I I I F53_2)<|.store I I I I I I (.cons (.vec I (by simp)) .nil) C50 I (yd I)<|.nil ⟨_, h, _, Fz8 I<|Fz2 I<|FzE⟩
          ·refine .skip ⟨_, h, _, Fz8 I<|Fz2 I<|FzE⟩
         ·refine .seq<|.plain 10 I<|.p I (.ld Y82 I)<|.p I (.ld Y78 I)<|bK h fun x150 q150 h => .p I (.call I (kC I) I (zf8 _ _ _ _ q150))<|.m I<|.jA 5 (t1.e != t1.f) I (fun b151 => ?_) ?_
          ·refine .qf I (G37_0 _) Y3 I<|.qf I (G37_1 _) Y3 I<|.q I (.ne I)<|.nil I
          refine .nil<|.nil<|.keep [.box 53 [.d (eK []), .d (eH []), .d (eO []), .d (eR [])], .box 53 [.d (eK x26), .vec 4 (List.length b4_98), .vec 5 (List.length b5_145), .d (eR [])], .vec 33 2 (List.map Row.enc ([] : List Row)), .vec 99 3 (List.map Graph.enc ([] : List Graph)), .vec 33 2 (List.map Row.enc b4_98), .vec 99 3 (List.map Graph.enc b5_145)] [3, 4, 6, 9, 10, 11, 20, 21, 226] (.c8 I<|.c I .nil) I<|.condS I h (fun h => ?_) fun h => ?_
          ·refine .draw 6 Hm (by kernel_rfl) (by kernel_rfl)<|.p I (.fieldAddrLoc I I I F53_2)<|.p I (.loadLoc1 I I I Y50 I)<|.p I (.ld Y78 I)<|.p I (.ld Y82 I)<|bK h fun x152 q152 h => .p I (.call I (kC I) I (zeE _ _ _ _ q152))<|.p I (.buildSl [_] I I E50 I (fun _ => I) I (enc := Graph.enc))<|.nil<|bK h fun x153 q153 h => .app I I I I I I I I E50 I (fun _ => I) q153<|.p I (.fieldAddrLoc I I I F53_2)<|.store I I I I I I (.cons (.vec I (by simp)) .nil) C50 I (yd I)<|.nil ⟨_, h, _, Fz8 I<|Fz2 I trivial⟩
          ·refine .skip ⟨_, h, _, Fz8 I<|Fz2 I trivial⟩
       ·refine .region<|.m I<|.p I (.ad I)<|.z I<|.nil ⟨_, h, _, Fz8 I<|Fz2 I trivial⟩
      ·refine .exit<|.join [6, 11] (fun (v : (List Row) × (List (List Row))) => []) (fun (v : (List Row) × (List (List Row))) => [(1, .box 53 [.d (eK x26), .vec 4 (List.length v.1), .vec 5 (List.length b5_137), .d (eR v.2)]), (4, .vec 33 2 (List.map Row.enc v.1))]) (.c2 I .nil) h (fun k_156 h => ?_) (fun v h => ?_)
       ·refine .sr<|.p I (.fa I (G37_2 _))<|.f I (G35_0 _) Y4 I<|.nil<|.condS I h (fun h => ?_) fun h => ?_
        ·refine .sr<|.f I (G82_1 _) Y49 I<|.p I (.fa I (G37_2 _))<|.f I (G35_1 _) Y3 I<|bK h fun x157 q157 h => .p I (.ix I U49 S33 q157)<|.p I (.ld Y33 I)<|.allocStore I I I I I I I I (by simp) I I Z33<|.nil<|.draw 13 Hm (by kernel_rfl) (by kernel_rfl)<|.p I (.fieldAddrLoc I I I F53_1)<|.p I (.loadLoc1 I I I Y49 I)<|.p I (.ld Y33 I)<|.f I (G33_1 _) Y3 I<|.p I (.neg6 I I)<|.p I (.ld Y82 I)<|.p I (.ld Y33 I)<|bK h fun x158 q158 h => .p I (.call I (kC I) I (zdw _ _ _ _ q158))<|.p I (.ad I)<|.p I (.sb I)<|bK h fun x159 q159 h => .p I (.call I (kC I) I (zfv _ _ _ _ q159))<|.p I (.buildSl [_] I I E49 I (fun _ => I) I (enc := Row.enc))<|.nil<|bK h fun x160 q160 h => .app I I I I I I I I E49 I (fun _ => I) q160<|.p I (.fieldAddrLoc I I I F53_1)<|.store I I I I I I (.cons (.vec I (by simp)) .nil) C49 I (yd I)<|.nil ⟨_, h, _, Fz4 I<|FzE⟩
        ·refine .sr<|.f I (G30_3 _) Y25 I<|.p I (.fa I (G37_2 _))<|.f I (G35_1 _) Y3 I<|bK h fun x161 q161 h => .p I (.ix I U25 S78 q161)<|.p I (.ld Y78 I)<|.allocStore I I I I I I I I (by simp) I I Z78<|.nil<|.sr<|.f I (G78_0 _) Y3 I<|.p I (.eq I)<|.nil<|.condS I h (fun h => ?_) fun h => ?_
         ·refine .draw 21 Hm (by kernel_rfl) (by kernel_rfl)<|.p I (.fieldAddrLoc I I I F53_1)<|.p I (.loadLoc1 I I I Y49 I)<|.f I (G78_2 _) Y33 I<|.p I (.fa I (G78_2 _))<|.f I (G33_1 _) Y3 I<|.p I (.neg6 I I)<|.p I (.ld Y82 I)<|.f I (G78_2 _) Y33 I<|bK h fun x162 q162 h => .p I (.call I (kC I) I (zdw _ _ _ _ q162))<|.p I (.ad I)<|.p I (.ld Y82 I)<|.f I (G78_2 _) Y33 I<|bK h fun x163 q163 h => .p I (.call I (kC I) I (zdw _ _ _ _ q163))<|.p I (.ad I)<|.p I (.sb I)<|bK h fun x164 q164 h => .p I (.call I (kC I) I (zfv _ _ _ _ q164))<|.p I (.buildSl [_] I I E49 I (fun _ => I) I (enc := Row.enc))<|.nil<|bK h fun x165 q165 h => .app I I I I I I I I E49 I (fun _ => I) q165<|.p I (.fieldAddrLoc I I I F53_1)<|.store I I I I I I (.cons (.vec I (by simp)) .nil) C49 I (yd I)<|.nil ⟨_, h, _, Fz4 I<|FzE⟩
         ·refine .sr<|.p I (.fieldAddrLoc I I I F53_0)<|.p I (.loadLoc1 I I I Y48 I)<|.p I (.ld Y78 I)<|.p I (.ld Y82 I)<|.p I (.ld Y82 I)<|bK h fun x166 q166 h => .p I (.call I (kC I) I (zkh _ _ _ _ _ _ q166))<|.p I (.fieldAddrLoc I I I F53_3)<|.store I I I I I I (.ofD I) C51 I (yd I)<|.nil<|.keep [.box 53 [.d (eK []), .d (eH []), .d (eO []), .d (eR [])], .box 53 [.d (eK x26), .vec 4 (List.length b4_98), .vec 5 (List.length b5_137), .d (eR x166)], .vec 33 2 (List.map Row.enc ([] : List Row)), .vec 99 3 (List.map Graph.enc ([] : List Graph)), .vec 33 2 (List.map Row.enc b4_98), .vec 99 3 (List.map Graph.enc b5_137)] [6, 11] (.c2 I .nil) I<|.sr<|.p I (.fieldAddrLoc I I I F53_3)<|.p I (.loadLoc1 I I I Y51 I)<|.p I (.len I U51 I)<|.p I (.eq I)<|.nil<|.condS I h (fun h => ?_) fun h => ?_
          ·refine .region<|.p I (.fieldAddrLoc I I I F53_1)<|.p I (.loadLoc1 I I I Y49 I)<|.p I (.castD (Row.enc (⟨[], (-1)⟩ : Row)) I (.build I Pl33 (.agg Zc33 (ds' := [eL [], _]) (.o .e1)) I I))<|.p I (.buildSl [_] I I E49 I (fun _ => I) I (enc := Row.enc))<|bK h fun x167 q167 h => .app I I I I I I I I E49 I (fun _ => I) q167<|.p I (.fieldAddrLoc I I I F53_1)<|.store I I I I I I (.cons (.vec I (by simp)) .nil) C49 I (yd I)<|.nil ⟨_, h, _, Fz4 I<|FzE⟩
          ·refine .skip ⟨_, h, _, Fz4 I<|FzE⟩
       ·obtain ⟨b4_154, c1_3_155⟩ := v
        refine .seq<|.sr<|.p I (.loadLoc I I I Y53 (yd I) I)<|bK h fun x168 q168 h => .p I (.callB I (kC I) (.cons I (.agg (.v (.cons (.vec I (by simp)) (.cons (.vec I (by simp)) .v1)))) .nil) I (zkf _ _ _ q168))<|.p I (.nt I)<|.nil<|.keep [.box 53 [.d (eK []), .d (eH []), .d (eO []), .d (eR [])], .box 53 [.d (eK x26), .vec 4 (List.length b4_154), .vec 5 (List.length b5_137), .d (eR c1_3_155)], .vec 33 2 (List.map Row.enc ([] : List Row)), .vec 99 3 (List.map Graph.enc ([] : List Graph)), .vec 33 2 (List.map Row.enc b4_154), .vec 99 3 (List.map Graph.enc b5_137)] [6, 11, 312] (.c2 I<|.c I .nil) I<|.condS I h (fun h => ?_) fun h => ?_
        ·refine .sr<|.p I (.castD (System.enc (⟨[], [], [], []⟩ : System)) I (.build I Pl53 (.agg Zc53 (ds' := [eK [], eH [], eO [], eR []]) (.o (.o (.o .o1)))) I I))<|.store I I I I I I (.ofD I) C53 I (yd I)<|.z I<|.nil<|.ret ?_
         cases h
         exact zcz I I Y53 (.v (.v (.v .v1))) I (.d _)
        ·refine .skip<|.sr<|.p I (.loadLoc I I I Y53 (yd I) I)<|.store I I I I I I (.cons (.d I) (.cons (.vec I (by simp)) (.cons (.vec I (by simp)) (.cons (.d I) .nil)))) C53 I (yd I)<|.z I<|.nil<|.ret ?_
         cases h
         exact zcz I I Y53 (.v (.cons (.vec I (by simp)) (.cons (.vec I (by simp)) .v1))) I (.d _)
theorem zlc (n : Nat) (t0 : List Range) (t1 : List Range) (r : Bool) (h : zcx n t0 t1 = some r) : Pure pg 73 [eK t0, eK t1] (.bool r) := by
 refine Pure.ot Tryz.func73 I Tryz.ntmps73 I fun A w => .sr<|.z I<|.nil<|.seq<|.sr<|.m I<|.p I (.len I U48 I)<|.m I<|.p I (.len I U48 I)<|.p I (.ne I)<|.nil<|.condS I h (fun h => ?_) fun h => ?_
 ·refine .sr<|.z I<|.nil<|.ret (rO h I)
 ·refine .skip<|.seq<|.sr<|.z I<|.nil<|.block<|.loopS [0, 1] (fun (v : Int) => [(5, .d (.int v))]) (fun (v : Int) => []) (.c2 I .nil) h ⟨_, Fz4 I<|Fz2 I trivial⟩ (fun _ x7 h => ?_)
  refine .seq<|.sr<|.m I<|.m I<|.p I (.len I U48 I)<|.p I (.ls I)<|.nil<|.keep [] [0, 1, 5, 14] (.c4 I .nil) I<|.condS I h (fun h => ?_) fun h => ?_
  ·refine .skip<|.seq<|.block<|.seq<|.draw 9 Hm (by kernel_rfl) (by kernel_rfl)<|.m I<|.m I<|bK h fun x9 q9 h => .p I (.ix I U48 S87 q9)<|.p I (.ld Y87 I)<|.m I<|.m I<|bK h fun x10 q10 h => .p I (.ix I U48 S87 q10)<|.p I (.ld Y87 I)<|.p I (.sneq I SE87 I I (xs := Range.vals _) (ys := Range.vals _) I I I I (SQ87 _ _))<|.nil<|.nil<|.condS I h (fun h => ?_) fun h => ?_
   ·refine .sr<|.z I<|.nil<|.ret (rO h I)
   ·refine .skip<|.region<|.m I<|.p I (.ad I)<|.z I<|.nil ⟨_, h, _, Fz4 I<|Fz2 I trivial⟩
  ·refine .exit<|.sr<|.z I<|.nil<|.ret (rO h I)
theorem zkd (n : Nat) (t0 : Row) (t1 : Row) (r : Bool) (h : zbu n t0 t1 = some r) : Pure pg 126 [Row.enc t0, Row.enc t1] (.bool r) := by
 refine Pure.ot Tryz.func126 I Tryz.ntmps126 I fun A w => .sr<|.p I (.bx I)<|.p I (.bx I)<|.z I<|.nil<|.seq<|.sr<|.f I (G33_0 _) Y31 I<|.p I (.len I U31 I)<|.f I (G33_0 _) Y31 I<|.p I (.len I U31 I)<|.p I (.ne I)<|.nil<|.condS I h (fun h => ?_) fun h => ?_
 ·refine .sr<|.z I<|.nil<|.ret (rO h I)
 ·refine .skip<|.seq<|.sr<|.z I<|.nil<|.block<|.loopS [2, 3] (fun (v : Int) => [(5, .d (.int v))]) (fun (v : Int) => []) (.c2 I .nil) h ⟨_, Fz4 I<|Fz2 I trivial⟩ (fun _ x7 h => ?_)
  refine .seq<|.sr<|.m I<|.f I (G33_0 _) Y31 I<|.p I (.len I U31 I)<|.p I (.ls I)<|.nil<|.keep [] [2, 3, 5, 17] (.c4 I .nil) I<|.condS I h (fun h => ?_) fun h => ?_
  ·refine .skip<|.seq<|.block<|.seq<|.draw 11 Hm (by kernel_rfl) (by kernel_rfl)<|.f I (G33_0 _) Y31 I<|.m I<|bK h fun x9 q9 h => .p I (.ix I U31 S41 q9)<|.p I (.ld Y41 I)<|.f I (G33_0 _) Y31 I<|.m I<|bK h fun x10 q10 h => .p I (.ix I U31 S41 q10)<|.p I (.ld Y41 I)<|.p I (.sneq I SE41 I I (xs := Term.vals _) (ys := Term.vals _) I I I I (SQ41 _ _))<|.nil<|.nil<|.condS I h (fun h => ?_) fun h => ?_
   ·refine .sr<|.z I<|.nil<|.ret (rO h I)
   ·refine .skip<|.region<|.m I<|.p I (.ad I)<|.z I<|.nil ⟨_, h, _, Fz4 I<|Fz2 I trivial⟩
  ·refine .exit<|.sr<|.z I<|.nil<|.ret (rO h I)
theorem zhA (n : Nat) (t0 : List Row) (t1 : List Row) (r : Bool) (h : zbC n t0 t1 = some r) : Pure pg 74 [eH t0, eH t1] (.bool r) := by
 refine Pure.ot Tryz.func74 I Tryz.ntmps74 I fun A w => .sr<|.z I<|.nil<|.seq<|.sr<|.m I<|.p I (.len I U49 I)<|.m I<|.p I (.len I U49 I)<|.p I (.ne I)<|.nil<|.condS I h (fun h => ?_) fun h => ?_
 ·refine .sr<|.z I<|.nil<|.ret (rO h I)
 ·refine .skip<|.seq<|.sr<|.z I<|.nil<|.block<|.loopS [0, 1] (fun (v : Int) => [(5, .d (.int v))]) (fun (v : Int) => []) (.c2 I .nil) h ⟨_, Fz4 I<|Fz2 I trivial⟩ (fun _ x15 h => ?_)
  refine .seq<|.sr<|.m I<|.m I<|.p I (.len I U49 I)<|.p I (.ls I)<|.nil<|.keep [] [0, 1, 5, 14] (.c4 I .nil) I<|.condS I h (fun h => ?_) fun h => ?_
  ·refine .skip<|.seq<|.block<|.seq<|.draw 23 Hm (by kernel_rfl) (by kernel_rfl)<|.m I<|.m I<|bK h fun x17 q17 h => .p I (.ix I U49 S33 q17)<|.f I (G33_1 _) Y3 I<|.m I<|.m I<|bK h fun x18 q18 h => .p I (.ix I U49 S33 q18)<|.f I (G33_1 _) Y3 I<|.p I (.ne I)<|.m I<|gK h fun c20 h => gK h fun c21 h => gK h fun c22 h => .jO 10 (!((zbu n ((idx t0 x15).getD default) ((idx t1 x15).getD default)).getD default)) I (fun b19 => ?_) ?_
   ·refine .qm I<|.qm I<|.q I (.ix I U49 S33 (someD (impF c20 b19)))<|.q I (.ld Y33 I)<|.qm I<|.qm I<|.q I (.ix I U49 S33 (someD (impF c21 b19)))<|.q I (.ld Y33 I)<|.q I (.call I (kC I) I (zkd _ _ _ _ (someD (impF c22 b19))))<|.q I (.nt I)<|.nil I
   refine .nil<|.nil<|.keep [] [0, 1, 5, 39] (.c4 I .nil) I<|.condS I h (fun h => ?_) fun h => ?_
   ·refine .sr<|.z I<|.nil<|.ret (rO h I)
   ·refine .skip<|.region<|.m I<|.p I (.ad I)<|.z I<|.nil ⟨_, h, _, Fz4 I<|Fz2 I trivial⟩
  ·refine .exit<|.sr<|.z I<|.nil<|.ret (rO h I)
theorem zlb (n : Nat) (t0 : List Int) (t1 : List Int) (r : Bool) (h : zbY n t0 t1 = some r) : Pure pg 75 [eA t0, eA t1] (.bool r) := by
 refine Pure.ot Tryz.func75 I Tryz.ntmps75 I fun A w => .sr<|.z I<|.nil<|.seq<|.sr<|.m I<|.p I (.len I U22 I)<|.m I<|.p I (.len I U22 I)<|.p I (.ne I)<|.nil<|.condS I h (fun h => ?_) fun h => ?_
 ·refine .sr<|.z I<|.nil<|.ret (rO h I)
 ·refine .skip<|.seq<|.sr<|.z I<|.nil<|.block<|.loopS [0, 1] (fun (v : Int) => [(5, .d (.int v))]) (fun (v : Int) => []) (.c2 I .nil) h ⟨_, Fz4 I<|Fz2 I trivial⟩ (fun _ x7 h => ?_)
  refine .seq<|.sr<|.m I<|.m I<|.p I (.len I U22 I)<|.p I (.ls I)<|.nil<|.keep [] [0, 1, 5, 14] (.c4 I .nil) I<|.condS I h (fun h => ?_) fun h => ?_
  ·refine .skip<|.seq<|.block<|.seq<|.draw 9 Hm (by kernel_rfl) (by kernel_rfl)<|.m I<|.m I<|bK h fun x9 q9 h => .p I (.ix I U22 S3 q9)<|.p I (.ld Y3 I)<|.m I<|.m I<|bK h fun x10 q10 h => .p I (.ix I U22 S3 q10)<|.p I (.ld Y3 I)<|.p I (.ne I)<|.nil<|.nil<|.condS I h (fun h => ?_) fun h => ?_
   ·refine .sr<|.z I<|.nil<|.ret (rO h I)
   ·refine .skip<|.region<|.m I<|.p I (.ad I)<|.z I<|.nil ⟨_, h, _, Fz4 I<|Fz2 I trivial⟩
  ·refine .exit<|.sr<|.z I<|.nil<|.ret (rO h I)
theorem zld (n : Nat) (t0 : System) (t1 : System) (r : Bool) (h : zaR n t0 t1 = some r) : Pure pg 21 [System.enc t0, System.enc t1] (.bool r) := by
 refine Pure.ot Tryz.func21 I Tryz.ntmps21 I fun A w => .sr<|.p I (.bx I)<|.p I (.bx I)<|.z I<|.nil<|.seq<|.seq<|.plain 32 I<|.f I (G53_0 _) Y48 I<|.f I (G53_0 _) Y48 I<|bK h fun x1 q1 h => .p I (.call I (kC I) I (zlc _ _ _ _ q1))<|.p I (.nt I)<|.m I<|gK h fun c3 h => .jO 6 (!((zbC n t0.rows t1.rows).getD default)) I (fun b2 => ?_) ?_
 ·refine .qf I (G53_1 _) Y49 I<|.qf I (G53_1 _) Y49 I<|.q I (.call I (kC I) I (zhA _ _ _ _ (someD (impF c3 b2))))<|.q I (.nt I)<|.nil I
 refine .m I<|.jO 7 ((t0.graphs.length : Int) != (t1.graphs.length : Int)) I (fun b4 => ?_) ?_
 ·refine .qf I (G53_2 _) Y50 I<|.q I (.len I U50 I)<|.qf I (G53_2 _) Y50 I<|.q I (.len I U50 I)<|.q I (.ne I)<|.nil I
 refine .m I<|.jO 7 ((t0.cases.length : Int) != (t1.cases.length : Int)) I (fun b5 => ?_) ?_
 ·refine .qf I (G53_3 _) Y51 I<|.q I (.len I U51 I)<|.qf I (G53_3 _) Y51 I<|.q I (.len I U51 I)<|.q I (.ne I)<|.nil I
 refine .nil<|.nil<|.keep [] [2, 3, 38] (.c2 I<|.c I .nil) I<|.condS I h (fun h => ?_) fun h => ?_
 ·refine .sr<|.z I<|.nil<|.ret (rO h I)
 ·refine .skip<|.seq<|.sr<|.z I<|.nil<|.block<|.loopS [2, 3] (fun (v : Int) => [(5, .d (.int v))]) (fun (v : Int) => []) (.c2 I .nil) h ⟨_, Fz4 I<|Fz2 I trivial⟩ (fun _ x26 h => ?_)
  refine .seq<|.sr<|.m I<|.f I (G53_2 _) Y50 I<|.p I (.len I U50 I)<|.p I (.ls I)<|.nil<|.keep [] [2, 3, 5, 43] (.c4 I .nil) I<|.condS I h (fun h => ?_) fun h => ?_
  ·refine .skip<|.seq<|.block<|.seq<|.draw 44 Hm (by kernel_rfl) (by kernel_rfl)<|.f I (G53_2 _) Y50 I<|.m I<|bK h fun x28 q28 h => .p I (.ix I U50 S99 q28)<|.f I (G99_0 _) Y3 I<|.f I (G53_2 _) Y50 I<|.m I<|bK h fun x29 q29 h => .p I (.ix I U50 S99 q29)<|.f I (G99_0 _) Y3 I<|.p I (.ne I)<|.m I<|gK h fun c31 h => gK h fun c32 h => .jO 13 ((((idx t0.graphs x26).getD default).size) != (((idx t1.graphs x26).getD default).size)) I (fun b30 => ?_) ?_
   ·refine .qf I (G53_2 _) Y50 I<|.qm I<|.q I (.ix I U50 S99 (someD (impF c31 b30)))<|.qf I (G99_1 _) Y3 I<|.qf I (G53_2 _) Y50 I<|.qm I<|.q I (.ix I U50 S99 (someD (impF c32 b30)))<|.qf I (G99_1 _) Y3 I<|.q I (.ne I)<|.nil I
   refine .m I<|gK h fun c34 h => gK h fun c35 h => gK h fun c36 h => .jO 14 (!((zbY n (((idx t0.graphs x26).getD default).least) (((idx t1.graphs x26).getD default).least)).getD default)) I (fun b33 => ?_) ?_
   ·refine .qf I (G53_2 _) Y50 I<|.qm I<|.q I (.ix I U50 S99 (someD (impF c34 b33)))<|.qf I (G99_2 _) Y22 I<|.qf I (G53_2 _) Y50 I<|.qm I<|.q I (.ix I U50 S99 (someD (impF c35 b33)))<|.qf I (G99_2 _) Y22 I<|.q I (.call I (kC I) I (zlb _ _ _ _ (someD (impF c36 b33))))<|.q I (.nt I)<|.nil I
   refine .nil<|.nil<|.keep [] [2, 3, 5, 89] (.c4 I .nil) I<|.condS I h (fun h => ?_) fun h => ?_
   ·refine .sr<|.z I<|.nil<|.ret (rO h I)
   ·refine .skip<|.region<|.m I<|.p I (.ad I)<|.z I<|.nil ⟨_, h, _, Fz4 I<|Fz2 I trivial⟩
  ·refine .exit<|.seq<|.sr<|.z I<|.nil<|.block<|.loopS [2, 3] (fun (v : Int) => [(6, .d (.int v))]) (fun (v : Int) => []) (.c2 I .nil) h ⟨_, Fz4 I<|Fz2 I trivial⟩ (fun _ x45 h => ?_)
   refine .seq<|.sr<|.m I<|.f I (G53_3 _) Y51 I<|.p I (.len I U51 I)<|.p I (.ls I)<|.nil<|.keep [] [2, 3, 6, 94] (.c4 I .nil) I<|.condS I h (fun h => ?_) fun h => ?_
   ·refine .skip<|.seq<|.block<|.seq<|.draw 12 Hm (by kernel_rfl) (by kernel_rfl)<|.f I (G53_3 _) Y51 I<|.m I<|bK h fun x47 q47 h => .p I (.ix I U51 S49 q47)<|.p I (.ld Y49 I)<|.f I (G53_3 _) Y51 I<|.m I<|bK h fun x48 q48 h => .p I (.ix I U51 S49 q48)<|.p I (.ld Y49 I)<|bK h fun x49 q49 h => .p I (.call I (kC I) I (zhA _ _ _ _ q49))<|.p I (.nt I)<|.nil<|.nil<|.condS I h (fun h => ?_) fun h => ?_
    ·refine .sr<|.z I<|.nil<|.ret (rO h I)
    ·refine .skip<|.region<|.m I<|.p I (.ad I)<|.z I<|.nil ⟨_, h, _, Fz4 I<|Fz2 I trivial⟩
   ·refine .exit<|.sr<|.z I<|.nil<|.ret (rO h I)
theorem zez (n : Nat) (t0 : Model) (t1 : Question) (t2 : List Int) (r : Bool) (h : zcf n t0 t1 t2 = some r) : Pure pg 5 [Model.enc t0, Question.enc t1, eA t2] (.bool r) := by
 refine Pure.ot Tryz.func5 I Tryz.ntmps5 I fun A w => .sr<|.p I (.bx I)<|.p I (.bx I)<|.z I<|.nil<|.seq<|.sr<|bK h fun x1 q1 h => .p I (.call I (kC I) I (zjW _  _ q1))<|.p I (.nt I)<|.nil<|.condS I h (fun h => ?_) fun h => ?_
 ·refine .sr<|.z I<|.nil<|.ret (rO h I)
 ·refine .skip<|.seq<|.seq<|.plain 8 I<|.p I (.ld Y30 I)<|bK h fun x2 q2 h => .p I (.call I (kC I) I (zlK _ _ _ q2))<|.p I (.nt I)<|.m I<|.jO 3 (decide (50 < (t2.length : Int))) I (fun b3 => ?_) ?_
  ·refine .qm I<|.q I (.len I U22 I)<|.q I (.gt I)<|.nil I
  refine .nil<|.nil<|.condS I h (fun h => ?_) fun h => ?_
  ·refine .sr<|.z I<|.nil<|.ret (rO h I)
  ·refine .skip<|.sr<|.p I (.ld Y30 I)<|.p I (.ld Y37 I)<|.m I<|bK h fun x4 q4 h => .p I (.call I (kC I) I (zdR _ _ _ _ _ q4))<|.m I<|.p I (.extract I I I)<|.p I (.extract I I I)<|.allocStore I I I I I I I I (by simp) I I Z53<|.z I<|.nil<|.keep [] [2, 3, 4, 7, 8] (.c4 I<|.c I .nil) I<|.sr<|.p I (.ld Y30 I)<|.p I (.ld Y37 I)<|.m I<|bK h fun x5 q5 h => .p I (.call I (kC I) I (zjI _ _ _ _ _ q5))<|.m I<|.p I (.extract I I I)<|.p I (.extract I I I)<|.allocStore I I I I I I I I (by simp) I I Z53<|.z I<|.nil<|.seq<|.plain 8 I<|.m I<|.m I<|.p I (.eq I)<|.m I<|gK h fun c7 h => .jA 3 (((zaR n x4.1 x5.1).getD default)) I (fun b6 => ?_) ?_
   ·refine .q I (.ld Y53 I)<|.q I (.ld Y53 I)<|.q I (.call I (kC I) I (zld _ _ _ _ (someD (impT c7 b6))))<|.nil I
   refine .nil<|.z I<|.nil<|.keep [] [6] (.c I .nil) I<|.ret (rO h I)
theorem zI {σ R : Type} {body : (σ → Option R) → σ → Option R} {len : Nat} {st : Nat → σ} {g : Nat → Option R}
  (hb : ∀ rec i, i < len → rec (st (i + 1)) = g (i + 1) → body rec (st i) = g i) (he : ∀ rec, body rec (st len) = g len) :
  ∀ n i, i ≤ len → len - i < n → loopF body n (st i) = g i
 | 0, _, _, h => by omega
 | n + 1, i, hi, h => by
  simp only [loopF];by_cases e : i = len
  ·subst e; exact he _
  ·exact hb _ i (by omega) (zI hb he n (i + 1) (by omega) (by omega))
theorem zb {i : Nat} (h : i < 4611686018427387904) : add64 (i : Int) 1 = ((i + 1 : Nat) : Int) := by
 unfold add64; rw [zcY (by omega) (by omega)]; omega
theorem za {α : Type} {l : List α} {i : Nat} (h : i < l.length) : idx l (i : Int) = some l[i] := by
 unfold idx; rw [if_pos (by omega)]; simp [h]
theorem zi {α : Type} {l : List α} {i : Nat} (h : i < l.length) : decide ((i : Int) < (l.length : Int)) = true := by simp; omega
theorem zaw {α : Type} {l : List α} : decide (((l.length : Nat) : Int) < (l.length : Int)) = false := by simp
def zac : List Change → Int → Int
 | [], _ => 0
 | d :: l, c => if d.cell = c then d.add else zac l c
theorem zo {α : Type} {l : List α} {i : Nat} (h : i < l.length) : l.drop i = l[i] :: l.drop (i + 1) := List.drop_eq_getElem_cons h
theorem z0 {n : Nat} {a : Action} (c : Int) (hl : a.effect.delta.length < 4611686018427387904) (hn : a.effect.delta.length < n) : zC n a c = some (zac a.effect.delta c) := by
 have := zI (body := zC.l1 n a c) (len := a.effect.delta.length) (st := fun i => (i : Int)) (g := fun i => some (zac (a.effect.delta.drop i) c)) (fun rec i hi hr => ?_) (fun rec => ?_) n 0 (yo _) (by omega)
 ·simpa [zC] using this
 ·simp only [zC.l1, zi hi, if_true, za hi, ya, zb (i := i) (by omega), hr];rw [zo hi];simp only [zac, beq_iff_eq];split <;> rfl
 ·simp [zC.l1, zac]
def zcP (f : Int → Int) : List Term → Int → Int
 | [], s => s
 | t :: l, s => zcP f l (add64 s (mul64 t.factor (f t.cell)))
def takeP (f : Int → Int) (l : List Term) (i : Nat) : Int := zcP f (l.take i) 0
theorem zgC (f : Int → Int) : ∀ (l m : List Term) (s : Int), zcP f (l ++ m) s = zcP f m (zcP f l s)
 | [], _, _ => rfl
 | _ :: l, m, s => by simp only [yZ, zcP]; exact zgC f l m _
theorem zkL (f : Int → Int) {l : List Term} {i : Nat} (h : i < l.length) : takeP f l (i + 1) = add64 (takeP f l i) (mul64 l[i].factor (f l[i].cell)) := by
 unfold takeP;rw [yF h, zgC];rfl
theorem zdS {n : Nat} {a : Action} {r : Row} (h1 : a.effect.delta.length < 4611686018427387904) (h2 : a.effect.delta.length < n) (h3 : r.terms.length < 4611686018427387904) (h4 : r.terms.length < n) :
  zj n a r = some (zcP (zac a.effect.delta) r.terms 0) := by
 have := zI (body := zj.l1 n a r) (len := r.terms.length) (st := fun i => (takeP (zac a.effect.delta) r.terms i, (i : Int))) (g := fun _ => some (zcP (zac a.effect.delta) r.terms 0)) (fun rec i hi hr => ?_) (fun rec => ?_) n 0 (yo _) (by omega)
 ·simpa [zj, takeP, zcP] using this
 ·simp only [zj.l1, zi hi, if_true, za hi, ya, z0 _ h1 h2, zb (i := i) (by omega), ← zkL _ hi, hr]
 ·simp [zj.l1, takeP]
def addP (c : Int) : List Change → Int → Int
 | [], s => s
 | d :: l, s => addP c l (if d.cell = c then add64 s d.add else s)
theorem ziY (c : Int) : ∀ (l m : List Change) (s : Int), addP c (l ++ m) s = addP c m (addP c l s)
 | [], _, _ => rfl
 | _ :: l, m, s => by simp only [yZ, addP]; exact ziY c l m _
theorem zeo {n : Nat} {e : Effect} (c : Int) (hl : e.delta.length < 4611686018427387904) (hn : e.delta.length < n) : zaD n e c = some (addP c e.delta 0) := by
 have := zI (body := zaD.l1 n e c) (len := e.delta.length) (st := fun i => (addP c (e.delta.take i) 0, (i : Int))) (g := fun _ => some (addP c e.delta 0)) (fun rec i hi hr => ?_) (fun rec => ?_) n 0 (yo _) (by omega)
 ·simpa [zaD, addP] using this
 ·rw [yF hi, ziY] at hr;simp only [addP] at hr;simp only [zaD.l1, zi hi, if_true, za hi, ya, jn, zb (i := i) (by omega), beq_iff_eq];split at hr <;> rename_i h
  ·rw [if_pos h, hr]
  ·rw [if_neg h, hr]
 ·simp [zaD.l1]
theorem zlQ {n : Nat} {e : Effect} {r : Row} (h1 : e.delta.length < 4611686018427387904) (h2 : e.delta.length < n) (h3 : r.terms.length < 4611686018427387904) (h4 : r.terms.length < n) :
  za3 n e r = some (zcP (fun c => addP c e.delta 0) r.terms 0) := by
 have := zI (body := za3.l1 n e r) (len := r.terms.length) (st := fun i => (takeP (fun c => addP c e.delta 0) r.terms i, (i : Int))) (g := fun _ => some (zcP (fun c => addP c e.delta 0) r.terms 0)) (fun rec i hi hr => ?_) (fun rec => ?_) n 0 (yo _) (by omega)
 ·simpa [za3, takeP, zcP] using this
 ·rw [zkL _ hi] at hr;simp only [za3.l1, zi hi, if_true, za hi, ya, zeo _ h1 h2, zb (i := i) (by omega), hr]
 ·simp [za3.l1, takeP]
theorem zkr (c : Int) : ∀ (l : List Change) (s : Int), (∀ d ∈ l, d.cell ≠ c) → addP c l s = s
 | [], _, _ => rfl
 | d :: l, s, h => by
  simp only [addP]; rw [if_neg (h d (by simp))]; exact zkr c l s fun x hx => h x (by simp [hx])
theorem ziX (c : Int) : ∀ (l : List Change), (l.map (·.cell)).Nodup → (∀ d ∈ l, -9223372036854775808 ≤ d.add ∧ d.add ≤ 9223372036854775807) → addP c l 0 = zac l c
 | [], _, _ => rfl
 | d :: l, hn, hb => by
  simp only [yQ, List.nodup_cons, yY, not_exists, not_and] at hn;simp only [addP, zac];split <;> rename_i h
  ·rw [zkr c l _ fun x hx e => hn.1 x hx (e.trans h.symm)];have := hb d (by simp);unfold add64; rw [Int.zero_add]; exact zcY this.1 this.2
  ·exact ziX c l hn.2 fun x hx => hb x (by simp [hx])
section
variable {κ : Type} [DecidableEq κ]
structure SetIs (m : GMap κ Bool) (l : List κ) : Prop where
 tru : ∀ e ∈ m.es, e.2.2 = true
 mem : ∀ k, k ∈ m.es.map (fun e => e.2.1) ↔ k ∈ l
theorem zjc (k : κ) : ∀ (es : List (Nat × κ × Bool)), (∀ e ∈ es, e.2.2 = true) → ((findK k es).map (·.2)).getD false = decide (k ∈ es.map (fun e => e.2.1))
 | [], _ => by simp [findK]
 | e :: es, h => by
  simp only [findK, yQ, yM];by_cases hk : k = e.2.1
  ·simp [hk, h e (by simp)]
  ·rw [if_neg hk];have := zjc k es fun x hx => h x (by simp [hx])
   simp only [hk, false_or, ← this, Option.map_map];cases findK k es <;> rfl
theorem zmy (k : κ) : ∀ (es : List (Nat × κ × Bool)), findK k es = none → k ∉ es.map (fun e => e.2.1)
 | [], _ => by simp
 | e :: es, h => by
  simp only [findK] at h;split at h
  ·cases h
  ·rename_i hk;simp only [Option.map_eq_none_iff] at h;simp only [yQ, yM, not_or];exact ⟨hk, zmy k es h⟩
theorem zjd (k : κ) : ∀ (es : List (Nat × κ × Bool)) (p : Nat × Bool), findK k es = some p → k ∈ es.map (fun e => e.2.1)
 | [], _, h => by simp [findK] at h
 | e :: es, p, h => by
  simp only [findK] at h;split at h
  ·rename_i hk; simp [hk]
  ·simp only [Option.map_eq_some_iff] at h;obtain ⟨q, h1, _⟩ := h;exact uq _ (zjd k es q h1)
theorem SetIs.get {m : GMap κ Bool} {l : List κ} (h : SetIs m l) (k : κ) : (m.get? k).getD false = decide (k ∈ l) := by
 unfold GMap.get?;rw [zjc k m.es h.tru];exact decide_eq_decide.2 (h.mem k)
theorem SetIs.empty : SetIs (GMap.empty : GMap κ Bool) [] := ⟨fun e he => (by simp [GMap.empty] at he), fun k => by simp [GMap.empty]⟩
theorem zg5 (f : Nat × κ × Bool → Nat × κ × Bool) (hf : ∀ e, (f e).2.1 = e.2.1) : ∀ (es : List (Nat × κ × Bool)) (i : Nat), (es.modify i f).map (fun e => e.2.1) = es.map (fun e => e.2.1)
 | [], _ => by simp
 | e :: es, 0 => by simp [hf]
 | e :: es, i + 1 => by simp [zg5 f hf es i]
theorem zh6 {p : Nat × κ × Bool → Prop} (f : Nat × κ × Bool → Nat × κ × Bool) (hf : ∀ e, p (f e)) : ∀ (es : List (Nat × κ × Bool)) (i : Nat), (∀ e ∈ es, p e) → ∀ e ∈ es.modify i f, p e
 | [], _, _ => by simp
 | e :: es, 0, h => by
  intro x hx;simp only [List.modify_zero_cons, yM] at hx;rcases hx with rfl | hx
  ·exact hf e
  ·exact h x (by simp [hx])
 | e :: es, i + 1, h => by
  intro x hx;simp only [List.modify_succ_cons, yM] at hx;rcases hx with rfl | hx
  ·exact h x (by simp)
  ·exact zh6 f hf es i (fun y hy => h y (by simp [hy])) x hx
theorem SetIs.put {m : GMap κ Bool} {l : List κ} (h : SetIs m l) (k : κ) : SetIs (m.put k true) (l ++ [k]) := by
 unfold GMap.put;cases hk : findK k m.es with
 | none =>
  simp only [];refine ⟨fun e he => ?_, fun x => ?_⟩
  ·simp only [yC, yN] at he;rcases he with he | rfl
   ·exact h.tru e he
   ·rfl
  ·simp only [uk, yQ, List.map_nil, yC, yN, h.mem x]
 | some p =>
  obtain ⟨i, b⟩ := p;simp only [];have hkl : k ∈ l := (h.mem k).1 (zjd k m.es _ hk);refine ⟨zh6 (p := fun e => e.2.2 = true) _ (fun e => rfl) m.es i h.tru, fun x => ?_⟩;rw [zg5 (fun e : Nat × κ × Bool => (e.1, e.2.1, true)) (fun e => rfl) m.es i, h.mem x];simp only [yC, yN];exact ⟨.inl, fun hx => hx.elim id fun e => by rw [e]; exact hkl⟩
end
def ixP {α : Type} (p : α → Bool) : List α → Nat → Int
 | [], _ => -1
 | x :: l, i => if p x = true then (i : Int) else ixP p l (i + 1)
theorem znq {α : Type} (p : α → Bool) : ∀ (l : List α) (i : Nat), 0 ≤ ixP p l i ↔ l.any p = true
 | [], _ => by simp [ixP]
 | x :: l, i => by
  have ih := znq p l (i + 1);rw [ixP, uQ];by_cases h : p x = true
  ·rw [if_pos h, h]; simp
  ·rw [if_neg h, ih]; simp only [yz] at h; rw [h, uj]
theorem zfN {α : Type} (p : α → Bool) (l : List α) (i : Nat) : decide (0 ≤ ixP p l i) = l.any p := by
 have := znq p l i;cases h : l.any p with
 | true => exact decide_eq_true (this.2 h)
 | false => exact decide_eq_false fun hc => by rw [this.1 hc] at h; cases h
theorem zhO {n : Nat} {l : List Int} {f : Int → Option Bool} {p : Int → Bool} (hf : ∀ x ∈ l, f x = some (p x)) (hl : l.length < 4611686018427387904) (hn : l.length < n) : zN n l f = some (ixP p l 0) := by
 have := zI (body := zN.l1 n l f) (len := l.length) (st := fun i => (i : Int)) (g := fun i => some (ixP p (l.drop i) i)) (fun rec i hi hr => ?_) (fun rec => ?_) n 0 (yo _) (by omega)
 ·simpa [zN] using this
 ·simp only [zN.l1, zi hi, if_true, za hi, ya, hf _ (yk hi), zb (i := i) (by omega), hr];rw [zo hi];simp only [ixP];split <;> rfl
 ·simp [zN.l1, ixP]
theorem zbO {n : Nat} {l : List Int} {f : Int → Option Bool} {p : Int → Bool} (hf : ∀ x ∈ l, f x = some (p x)) (hl : l.length < 4611686018427387904) (hn : l.length < n) : zr n l f = some (l.any p) := by
 unfold zr;rw [zhO hf hl hn, ya, zfN]
def zcc (x : Int) : Bool := decide (1 ≤ x) && decide (x ≤ 6)
def colOK (sizes : List Int) (c : Int) : Bool := decide (0 ≤ c) && decide (c < (sizes.length : Int))
theorem zi1 {α : Type} (p : α → Bool) (l : List α) : (!l.any fun x => !p x) = l.all p := by
 induction l with
 | nil => rfl
 | cons x l ih => simp only [uQ, uw, ← ih]; cases p x <;> simp
theorem zjU {n : Nat} {l : List Int} (hl : l.length < 4611686018427387904) (hn : l.length < n) : ze6 n l = some (l.all zcc) := by
 unfold ze6;rw [zbO (p := fun x => !zcc x) (fun x _ => by simp [ze7, zds, zcc]) hl hn, ya, zi1]
theorem zhP {n : Nat} {sizes cols : List Int} (hl : cols.length < 4611686018427387904) (hn : cols.length < n) : zdm n sizes cols = some (decide (cols.length ≤ 3) && cols.all (colOK sizes)) := by
 unfold zdm;rw [zbO (p := fun x => !colOK sizes x) (fun x _ => by
  simp only [zb9, colOK, yh, Bool.not_and];congr 1
  ·rw [← decide_not]; exact decide_eq_decide.2 (by omega)
  ·rw [← decide_not]; exact decide_eq_decide.2 (by omega)) hl hn]
 simp only [yj, yr, grd, if_true, yg, zi1, yh];congr 1;exact decide_eq_decide.2 (by omega)
theorem zgL {n : Nat} {l : List Int} (hl : l.length < 4611686018427387904) (hn : l.length < n) : zaX n l = some (l.all zcc) := by
 have := zI (body := zaX.l1 n l) (len := l.length) (st := fun i => (i : Int)) (g := fun i => some ((l.drop i).all zcc)) (fun rec i hi hr => ?_) (fun rec => ?_) n 0 (yo _) (by omega)
 ·simpa [zaX] using this
 ·simp only [zaX.l1, zi hi, if_true, za hi, ya, yj, yr, grd, yg, zb (i := i) (by omega), hr];rw [zo hi];simp only [uw, zcc];by_cases h : 1 ≤ l[i] ∧ l[i] ≤ 6
  ·rw [if_neg (by simp; omega)]; simp [h.1, h.2]
  ·rw [if_pos (by simp; omega)];have : (decide (1 ≤ l[i]) && decide (l[i] ≤ 6)) = false := by
    simp only [ug, yH]; omega
   rw [this, yW]
 ·simp [zaX.l1]
def zaf (sizes : List Int) : List Int → Int → Int
 | [], s => s
 | c :: l, s => zaf sizes l (mul64 s (sizes.getD c.toNat 0))
theorem zdd (sizes : List Int) : ∀ (l m : List Int) (s : Int), zaf sizes (l ++ m) s = zaf sizes m (zaf sizes l s)
 | [], _, _ => rfl
 | _ :: l, m, s => by simp only [yZ, zaf]; exact zdd sizes l m _
theorem zfb {sizes : List Int} {c : Int} (h : colOK sizes c = true) : idx sizes c = some (sizes.getD c.toNat 0) := by
 simp only [colOK, yc, yf] at h;obtain ⟨n, rfl⟩ := y7 h.1;have : n < sizes.length := by omega
 rw [za this]; simp [List.getD, this]
theorem zex {n : Nat} {sizes cols : List Int} (hc : cols.all (colOK sizes) = true) (hl : cols.length < 4611686018427387904) (hn : cols.length < n) : zaV n sizes cols = some (zaf sizes cols 1) := by
 have := zI (body := zaV.l1 n sizes cols) (len := cols.length) (st := fun i => (zaf sizes (cols.take i) 1, (i : Int))) (g := fun _ => some (zaf sizes cols 1)) (fun rec i hi hr => ?_) (fun rec => ?_) n 0 (yo _) (by omega)
 ·simpa [zaV, zaf] using this
 ·rw [yF hi, zdd] at hr;simp only [zaf] at hr;simp only [zaV.l1, zi hi, if_true, za hi, ya, zfb (yp.1 hc _ (yk hi)), zb (i := i) (by omega), hr]
 ·simp [zaV.l1]
theorem zmf {n : Nat} {sizes cols : List Int} (hl : cols.length < 4611686018427387904) (hn : cols.length < n) : loopF (zY.l1 n sizes cols) n (1, 0) = some (if cols.all (colOK sizes) = true then zaf sizes cols 1 else 0) := by
 by_cases hc : cols.all (colOK sizes) = true
 ·rw [if_pos hc];have := zI (body := zY.l1 n sizes cols) (len := cols.length) (st := fun i => (zaf sizes (cols.take i) 1, (i : Int))) (g := fun _ => some (zaf sizes cols 1)) (fun rec i hi hr => ?_) (fun rec => ?_) n 0 (yo _) (by omega)
  ·simpa [zaf] using this
  ·rw [yF hi, zdd] at hr;simp only [zaf] at hr;have hcol := yp.1 hc _ (yk hi);have h2 := zfb hcol;simp only [colOK, yc, yf] at hcol;have hif : ((decide (cols[i] < 0)) || (decide ((sizes.length : Int) ≤ cols[i]))) = false := by
    simp only [ul, yH]; omega
   simp only [zY.l1, zi hi, if_true, za hi, ya, yj, yr, grd, yg, hif, ye, if_false, h2, zb (i := i) (by omega), hr]
  ·simp [zY.l1]
 ·rw [if_neg hc];have := zI (body := zY.l1 n sizes cols) (len := cols.length) (st := fun i => (zaf sizes (cols.take i) 1, (i : Int))) (g := fun i => some (if (cols.drop i).all (colOK sizes) = true then zaf sizes cols 1 else 0)) (fun rec i hi hr => ?_) (fun rec => ?_) n 0 (yo _) (by omega)
  ·simpa [zaf, hc] using this
  ·rw [yF hi, zdd] at hr;simp only [zaf] at hr;rw [zo hi, uw];by_cases hcol : colOK sizes cols[i] = true
   ·have h2 := zfb hcol;rw [hcol, yA];simp only [colOK, yc, yf] at hcol;have hif : ((decide (cols[i] < 0)) || (decide ((sizes.length : Int) ≤ cols[i]))) = false := by
     simp only [ul, yH]; omega
    simp only [zY.l1, zi hi, if_true, za hi, ya, yj, yr, grd, yg, hif, ye, if_false, h2, zb (i := i) (by omega), hr]
   ·have hif : ((decide (cols[i] < 0)) || (decide ((sizes.length : Int) ≤ cols[i]))) = true := by
     simp only [colOK, yc, yf] at hcol;simp only [yv, yf]; omega
    simp only [yz] at hcol;rw [hcol, yW, if_neg (by simp)];simp only [zY.l1, zi hi, if_true, za hi, ya, yj, yr, grd, yg, hif]
  ·simp [zY.l1]
theorem zd7 {n : Nat} {sizes cols : List Int} (hl : cols.length < 4611686018427387904) (hn : cols.length < n) (hs : sizes.length < 4611686018427387904) (hsn : sizes.length < n) :
  zY n sizes cols = some (if (decide (cols.length ≤ 3) && sizes.all zcc && cols.all (colOK sizes)) = true then zaf sizes cols 1 else 0) := by
 unfold zY;rw [zgL hs hsn, zmf hl hn];simp only [yj, yr, grd, if_true, yg];by_cases h3 : cols.length ≤ 3
 ·cases h4 : sizes.all zcc with
  | true => rw [if_neg (by simp; omega)]; simp [h3]
  | false => rw [if_pos (by simp)]; simp
 ·rw [if_pos (by simp; left; omega)]; simp [h3]
theorem zdY {S R : Type} {body : (S → Option R) → S → Option R} (μ : S → Nat) (I : S → Prop) (Q : S → Option R → Prop)
  (hb : ∀ rec s, I s → (∀ s', I s' → μ s' < μ s → Q s' (rec s')) → Q s (body rec s)) : ∀ n s, I s → μ s < n → Q s (loopF body n s)
 | 0, _, _, h => by omega
 | n + 1, s, hI, h => hb _ s hI fun s' hI' hlt => zdY μ I Q hb n s' hI' (by omega)
theorem zby {σ S R : Type} {body : (S → Option R) → S → Option R} {len : Nat} {st : σ → Nat → S} {g : Nat → σ → Option R} (I : Nat → σ → Prop)
  (hb : ∀ rec i s, i < len → I i s → (∀ s', I (i + 1) s' → rec (st s' (i + 1)) = g (i + 1) s') → body rec (st s i) = g i s) (he : ∀ rec s, I len s → body rec (st s len) = g len s) :
  ∀ n i s, i ≤ len → len - i < n → I i s → loopF body n (st s i) = g i s
 | 0, _, _, _, h, _ => by omega
 | n + 1, i, s, hi, h, hI => by
  simp only [loopF];by_cases e : i = len
  ·subst e; exact he _ _ hI
  ·exact hb _ i s (by omega) hI fun s' hI' => zby I hb he n (i + 1) s' (by omega) (by omega) hI'
theorem zfS {S R : Type} {body : (S → Option R) → S → Option R} {n : Nat} (h : 0 < n) (s : S) : loopF body n s = body (loopF body (n - 1)) s := by
 obtain ⟨m, rfl⟩ : ∃ m, n = m + 1 := ⟨n - 1, by omega⟩
 rfl
theorem zdQ {a b : Nat} (h : a + b < 9223372036854775808) : add64 (a : Int) (b : Int) = ((a + b : Nat) : Int) := by
 unfold add64; rw [zcY (by omega) (by omega)]; omega
theorem zcO {l : List UInt8} {i : Nat} (h : i < l.length) : sidx l (i : Int) = some ((l[i].toNat : Nat) : Int) := by
 unfold sidx; rw [if_pos (by omega)]; simp [h]
theorem zfL {α : Type} {l : List α} {a b : Nat} (h1 : a ≤ b) (h2 : b ≤ l.length) : cut l (a : Int) (b : Int) = some ((l.drop a).take (b - a)) := by
 unfold cut; rw [if_pos (by omega)]; simp
theorem zi9 {α : Type} {l : List α} {a : Nat} (h1 : a ≤ l.length) : cut l (a : Int) (l.length : Int) = some (l.drop a) := by
 rw [zfL h1 (yn _), List.take_of_length_le (by simp)]
theorem zoe {α : Type} {l : List α} : cut l 0 (l.length : Int) = some l := by
 have := zi9 (l := l) (a := 0) (by omega); simpa using this
theorem zhq {i k : Nat} (h : i < k) : decide ((i : Int) < (k : Int)) = true := by simp; omega
theorem zft {i k : Nat} (h : k ≤ i) : decide ((i : Int) < (k : Int)) = false := by simp; omega
def runP (p : Int → Bool) : List UInt8 → Nat
 | [] => 0
 | b :: l => if p (b.toNat : Nat) = true then runP p l + 1 else 0
theorem zjL (p : Int → Bool) : ∀ l, runP p l ≤ l.length
 | [] => yn _
 | b :: l => by
  simp only [runP, yP]; split
  ·exact Nat.succ_le_succ (zjL p l)
  ·omega
theorem zfO {n : Nat} {l : List UInt8} {f : Int → Option Bool} {p : Int → Bool} (hf : ∀ q, f q = some (p q)) (hl : l.length < 4611686018427387904) (hn : l.length < n) : zcl n l f = some ((runP p l : Nat) : Int) := by
 have := zI (body := zcl.l1 n l f) (len := l.length) (st := fun i => (i : Int)) (g := fun i => some ((i + runP p (l.drop i) : Nat) : Int)) (fun rec i hi hr => ?_) (fun rec => ?_) n 0 (yo _) (by omega)
 ·simpa [zcl] using this
 ·simp only [zcl.l1, zi hi, zcO hi, yj, yT, uj, grd, if_true, yg, hf, yA, zb (i := i) (by omega), hr];rw [zo hi];simp only [runP];split <;> simp <;> omega
 ·simp [zcl.l1, runP, grd]
def zbx (q : Int) : Bool := decide (97 ≤ q) && decide (q ≤ 122)
def zin (q : Int) : Bool := decide (48 ≤ q) && decide (q ≤ 57)
def partP (q : Int) : Bool := (zbx q || zin q) || (q == 95)
theorem zjm {n : Nat} {q : Int} : zck n q = some (zbx q) := rfl
theorem zjX {n : Nat} {q : Int} : za5 n q = some (zin q) := rfl
theorem zfn {n : Nat} {q : Int} : zaA n q = some (zbx q) := rfl
theorem zep {n : Nat} {q : Int} : zaO n q = some (zin q) := rfl
def zc0 (q : Int) : Bool := !(q == 9 || q == 10 || q == 13 || q == 32 || q == 35)
theorem zdu {q : Int} (h : zbx q = true) : zc0 q = true := by
 simp only [zbx, yc, yf] at h;simp only [zc0, yG, ul, y6]; omega
theorem zk4 {n : Nat} {l : List UInt8} (hl : l.length < 1000000) (hn : 1000000 ≤ n) :
  ∃ k : Nat, zcv n l = some (k : Int) ∧ k ≤ l.length ∧ (∀ h : 0 < l.length, zc0 (l[0].toNat : Nat) = true → k = 0) ∧ (∀ h : 0 < l.length, zc0 (l[0].toNat : Nat) = false → 0 < k) := by
 have := zdY (body := zcv.l1 n l) (fun s : Int => l.length - s.toNat) (fun s => ∃ i : Nat, s = i ∧ i ≤ l.length) (fun s o => ∃ k : Nat, o = some (k : Int) ∧ k ≤ l.length ∧ s.toNat ≤ k ∧ ∀ h : s.toNat < l.length, (zc0 (l[s.toNat].toNat : Nat) = true → k = s.toNat) ∧ (zc0 (l[s.toNat].toNat : Nat) = false → s.toNat < k))
  (fun rec s hI hr => by
   obtain ⟨i, rfl, hi⟩ := hI;by_cases hlt : i < l.length
   ·simp only [zcv.l1, zi hlt, if_true, zcO hlt, ya, zbL, yD];by_cases hw : ((((((l[i].toNat : Nat) : Int) == 32) || (((l[i].toNat : Nat) : Int) == 9)) || (((l[i].toNat : Nat) : Int) == 10)) || (((l[i].toNat : Nat) : Int) == 13)) = true
    ·rw [if_pos hw, zb (i := i) (by omega)];obtain ⟨k, e, k1, k2, -⟩ := hr ((i + 1 : Nat) : Int) ⟨i + 1, rfl, by omega⟩ (by simp only [yD]; omega);simp only [yD] at k2;refine ⟨k, e, k1, by omega, fun h => ⟨fun hb => ?_, fun hb => by omega⟩⟩;exfalso;simp only [yv, beq_iff_eq] at hw;simp only [zc0, yG, ul, y6] at hb;omega
    ·rw [if_neg hw];by_cases hh : ((l[i].toNat : Nat) : Int) = 35
     ·rw [if_pos (by simp [hh]), zi9 hi, ya, zfO (f := fun q => zfQ n q) (p := fun q => q != 10) (fun q => rfl) (by rw [yU]; omega) (by rw [yU]; omega), ya];have hrun : 1 ≤ runP (fun q => q != 10) (l.drop i) := by
       rw [zo hlt, runP, hh]; simp
      have hle := zjL (fun q => q != 10) (l.drop i);simp only [yU] at hle;rw [zdQ (by omega)];obtain ⟨k, e, k1, k2, -⟩ := hr ((i + runP (fun q => q != 10) (l.drop i) : Nat) : Int) ⟨_, rfl, by omega⟩ (by simp only [yD]; omega);simp only [yD] at k2;refine ⟨k, e, k1, by omega, fun h => ⟨fun hb => ?_, fun hb => by omega⟩⟩;rw [hh] at hb; exact absurd hb (by decide)
     ·rw [if_neg (by simpa using hh)];refine ⟨i, rfl, hi, yn _, fun h => ⟨fun _ => rfl, fun hb => ?_⟩⟩;exfalso;simp only [yv, beq_iff_eq, not_or] at hw;simp only [zc0, Bool.not_eq_false', yv, beq_iff_eq] at hb;omega
   ·have : i = l.length := by omega
    subst this;refine ⟨l.length, by simp [zcv.l1], yn _, by simp, fun h => by simp at h⟩) n 0 ⟨0, rfl, by omega⟩ (by simp; omega)
 obtain ⟨k, e, k1, -, k2⟩ := this;exact ⟨k, by simpa [zcv] using e, k1, fun h hb => (k2 h).1 hb, fun h hb => (k2 h).2 hb⟩
theorem zfR {n : Nat} {l : List UInt8} (hn : 1000000 ≤ n) : ∃ k : Int, za0 n l = some k := by
 have := zdY (body := za0.l1 n l) (fun s : Int => 5 - s.toNat) (fun s => ∃ i : Nat, s = i ∧ i ≤ 5) (fun _ o => ∃ k : Int, o = some k) (fun rec s hI hr => by
  obtain ⟨i, rfl, hi⟩ := hI;simp only [za0.l1];generalize hL : ([[61, 61], [33, 61], [60, 61], [62, 61], [46, 46]] : List (List UInt8)) = L;have hLl : L.length = 5 := by rw [← hL]; rfl
  by_cases hlt : i < L.length
  ·have hp : ∃ b, zcB n l L[i] = some b := by
    simp only [zcB, zba];by_cases h : L[i].length ≤ l.length
    ·have : cut l 0 (L[i].length : Int) = some ((l.drop 0).take (L[i].length - 0)) := zfL (a := 0) (by omega) (by omega)
     simp [this, grd]
    ·simp [h, grd]
   obtain ⟨b, hp⟩ := hp;have hd : decide ((i : Int) < (([[61, 61], [33, 61], [60, 61], [62, 61], [46, 46]] : List (List Nat)).length : Int)) = true := by simp; omega
   simp only [hd, if_true, za hlt, ya, hp, zb (i := i) (by omega)];split
   ·exact ⟨_, rfl⟩
   ·exact hr _ ⟨i + 1, rfl, by omega⟩ (by simp only [yD]; omega)
  ·have hd : decide ((i : Int) < (([[61, 61], [33, 61], [60, 61], [62, 61], [46, 46]] : List (List Nat)).length : Int)) = false := by simp; omega
   rw [hd, if_neg (by simp)];cases l with
   | nil => simp [grd]
   | cons b l =>
    have h0 : sidx (b :: l) 0 = some ((b.toNat : Nat) : Int) := zcO (l := b :: l) (i := 0) (by simp)
    simp only [h0, zb0, zbb, ya, yj, yr, grd, if_true, yg];split <;> exact ⟨_, rfl⟩) n 0 ⟨0, rfl, by omega⟩ (by simp; omega)
 simpa [za0] using this
theorem zjl {n : Nat} {l : List UInt8} (hn : 1000000 ≤ n) (h : 0 < l.length) : ∃ b, zcW n l = some b := by
 obtain ⟨k, hk⟩ := zfR (n := n) (l := l) hn;have h0 : sidx l 0 = some ((l[0].toNat : Nat) : Int) := zcO (i := 0) h;simp [zcW, h0, zck, za5, hk, grd]
theorem zjY {n : Nat} {l : List UInt8} {k : (Int × Int) → Option Token} (hl : l.length < 1000000) (hn : 1000000 ≤ n) (h1 : 0 < l.length) : ∃ e, loopF (zas.l2 n l k) n 1 = k (5, e) := by
 refine zdY (body := zas.l2 n l k) (fun s : Int => l.length - s.toNat) (fun s => ∃ i : Nat, s = i ∧ i ≤ l.length) (fun _ o => ∃ e, o = k (5, e)) (fun rec s hI hr => ?_) n 1 ⟨1, rfl, h1⟩ (by simp; omega);obtain ⟨i, rfl, hi⟩ := hI;by_cases hlt : i < l.length
 ·obtain ⟨b, hb⟩ := zjl (n := n) (l := l.drop i) hn (by simp; omega);simp only [zas.l2, zi hlt, zcO hlt, zbL, zi9 hi, hb, yj, yr, grd, if_true, yg, zb (i := i) (by omega)];split
  ·exact hr _ ⟨i + 1, rfl, by omega⟩ (by simp only [yD]; omega)
  ·exact ⟨_, rfl⟩
 ·have : i = l.length := by omega
  subst this;exact ⟨(l.length : Int), by simp [zas.l2, grd]⟩
def wordP (w : List UInt8) : Bool := (match w with | [] => false | b :: _ => zbx (b.toNat : Nat)) && decide (runP partP w = w.length)
theorem zif (w : List UInt8) (h : 0 < w.length) : wordP w = (zbx (w[0].toNat : Nat) && decide (runP partP w = w.length)) := by
 cases w with
 | nil => simp at h
 | cons b l => rfl
theorem zme {n : Nat} {w : List UInt8} {kw : GMap (List UInt8) Bool} (hl : w.length < 1000000) (hn : 1000000 ≤ n) (h0 : 0 < w.length) :
  ∃ t, zas n w kw = some t ∧ (t.at_ = 0 ∧ t.end_ = (w.length : Int) ∧ t.kind = 1 ↔ wordP w = true ∧ (kw.get? w).getD false = false) := by
 obtain ⟨k, e, k1, k2, k3⟩ := zk4 (n := n) (l := w) hl hn;unfold zas;rw [zfS (by omega)];have hz : add64 0 (k : Int) = (k : Int) := by have := zdQ (a := 0) (b := k) (by omega); simpa using this
 simp only [zas.l1, zoe, ya, e, hz, zi9 k1, jn];by_cases hk : k = w.length
 ·subst hk;rw [if_pos (by simp)];refine ⟨_, rfl, ?_⟩;simp only [];constructor
  ·rintro ⟨-, -, h⟩; simp at h
  ·rintro ⟨h, -⟩;exfalso;rw [zif w h0, yc] at h;have := k2 h0 (zdu h.1); omega
 ·have hd : 0 < (w.drop k).length := by simp; omega
  rw [if_neg (by simp; omega)];have hs : sidx (w.drop k) 0 = some (((w.drop k)[0].toNat : Nat) : Int) := zcO (i := 0) hd;simp only [hs, ya, zjm];rw [zif w h0];by_cases hlet : zbx (((w.drop k)[0].toNat : Nat) : Int) = true
  ·rw [if_pos hlet, zfO (p := partP) (fun q => by simp [zh4, zck, za5, grd, partP, zbx, zin]) (by simp; omega) (by simp; omega)];have hle := zjL partP (w.drop k);have hc := zfL (l := w.drop k) (a := 0) (b := runP partP (w.drop k)) (by omega) hle;simp only [ya, Int.natCast_zero] at hc ⊢;rw [hc];simp only [yU] at hle;have ha : add64 (k : Int) (runP partP (w.drop k) : Nat) = ((k + runP partP (w.drop k) : Nat) : Int) := zdQ (by omega)
   simp only [ya, ha, List.drop_zero, Nat.sub_zero];by_cases hk0 : k = 0
   ·subst hk0;simp only [List.drop_zero] at hlet ⊢;by_cases hrun : runP partP w = w.length
    ·rw [hrun, List.take_of_length_le (yn _)];by_cases hkw : (kw.get? w).getD false = true
     ·rw [if_pos hkw];refine ⟨_, rfl, ?_⟩;simp [hkw]
     ·rw [if_neg hkw];refine ⟨_, rfl, ?_⟩;simp only [yz] at hkw;simp [hkw, hlet]
    ·split
     all_goals
      refine ⟨_, rfl, ?_⟩;simp [hrun]
      try omega
   ·have hbl : zc0 (w[0].toNat : Nat) = false := by
     cases hb : zc0 (w[0].toNat : Nat) with
     | false => rfl
     | true => exact absurd (k2 h0 hb) hk0
    have hnl : zbx (w[0].toNat : Nat) = false := by
     cases hb : zbx (w[0].toNat : Nat) with
     | false => rfl
     | true => rw [zdu hb] at hbl; cases hbl
    split
    all_goals
     refine ⟨_, rfl, ?_⟩;simp [hnl, hk0]
  ·rw [if_neg hlet];have hno : k = 0 → zbx (w[0].toNat : Nat) = false := by
    intro hk0; subst hk0;simp only [List.drop_zero, yz] at hlet;exact hlet
   have hno' : zbx (w[0].toNat : Nat) = false := by
    by_cases hk0 : k = 0
    ·exact hno hk0
    ·cases hb : zbx (w[0].toNat : Nat) with
     | false => rfl
     | true => exact absurd (k2 h0 (zdu hb)) hk0
   simp only [zjX, ya, hno', yW, ye, false_and, iff_false];split
   ·rw [zfO (p := zin) (fun q => rfl) (by simp; omega) (by simp; omega)];exact ⟨_, rfl, by simp⟩
   ·obtain ⟨v, hv⟩ := zfR (n := n) (l := w.drop k) hn;simp only [hv, ya];split
    ·exact ⟨_, rfl, by simp⟩
    ·obtain ⟨e, he⟩ := zjY (n := n) (l := w.drop k) (k := fun v => some (⟨v.1, 0, (k : Int), add64 (k : Int) v.2⟩ : Token)) (by simp; omega) hn hd;rw [he];exact ⟨_, rfl, by simp⟩
def kwL : List (List UInt8) := [[115, 111, 114, 116], [114, 101, 108, 97, 116, 105, 111, 110], [99, 111, 117, 110, 116, 101, 114], [115, 101, 116], [114, 101, 103, 105, 115, 116, 101, 114], [105, 110, 118, 97, 114, 105, 97, 110, 116], [111, 112, 101, 114, 97, 116, 105, 111, 110], [107, 101, 121], [114, 101, 102, 101, 114, 101, 110, 99, 101], [116, 111], [99, 111, 117, 110, 116], [97, 99, 121, 99, 108, 105, 99], [97, 108, 108], [115, 117, 109], [105, 110], [97, 100, 100, 119, 105, 110, 115], [114, 101, 109, 111, 118, 101, 119, 105, 110, 115], [108, 97, 115, 116], [109, 117, 108, 116, 105], [104, 105, 100, 101], [111, 114, 100, 101, 114, 101, 100], [114, 101, 113, 117, 105, 114, 101], [104, 111, 108, 100], [105, 110, 115, 101, 114, 116], [100, 101, 108, 101, 116, 101], [97, 100, 100], [102, 114, 111, 109], [112, 117, 116], [100, 114, 111, 112], [97, 115, 115, 105, 103, 110], [102, 111, 114], [119, 104, 101, 114, 101], [97, 110, 100], [111, 114], [110, 111, 116]]
structure Fuel (n : Nat) : Prop where
 big : 4294967296 ≤ n
 kw : ∃ m, zbn n = some m ∧ SetIs m kwL
def nameP (w : List UInt8) : Bool := decide (w.length ≤ 16) && (wordP w && !decide (w ∈ kwL))
theorem zhn {n : Nat} {w : List UInt8} (hF : Fuel n) : zeQ n w = some (nameP w) := by
 have hn := hF.big;unfold zeQ nameP;by_cases h16 : w.length ≤ 16
 ·have hd : decide ((w.length : Int) ≤ 16) = true := by simp; omega
  simp only [hd, h16, decide_true, yA, yT, uj];unfold zdM;obtain ⟨m, hm, hs⟩ := hF.kw;cases hw : w with
  | nil => simp [grd, wordP]
  | cons b l =>
   rw [← hw];have h0 : 0 < w.length := by rw [hw]; simp
   rw [if_neg (by simp; exact ⟨by rw [hw]; simp, by omega⟩), hm, ya];obtain ⟨t, ht, hiff⟩ := zme (n := n) (w := w) (kw := m) (by omega) (by omega) h0;rw [hs.get] at hiff;simp only [ht, ya];by_cases hc : t.at_ = 0 ∧ t.end_ = (w.length : Int) ∧ t.kind = 1
   ·have := hiff.1 hc;rw [if_neg (by simp [hc.1, hc.2.1])];simp only [yH] at this;simp [grd, hc.2.2, this.1, this.2]
   ·have hr : (wordP w && !decide (w ∈ kwL)) = false := by
     cases hx : (wordP w && !decide (w ∈ kwL)) with
     | false => rfl
     | true =>
      simp only [yc, yG, yH] at hx;exact absurd (hiff.2 ⟨hx.1, by simp [hx.2]⟩) hc
    rw [hr];split
    ·simp [grd]
    ·rename_i hne;simp only [yv, bne_iff_ne, ne_eq, not_or, Decidable.not_not] at hne;have : t.kind ≠ 1 := fun e => hc ⟨hne.1, hne.2, e⟩
     simp [grd, this]
 ·have hd : decide ((w.length : Int) ≤ 16) = false := by simp; omega
  simp [hd, h16, grd]
theorem zmj {n : Nat} {t : List UInt8} {rec : Int → Option Int} {x : Nat} (hx : x ≤ t.length) (hl : t.length < 1000000) (hn : 1000000 ≤ n) :
  ∃ y : Nat, x ≤ y ∧ y ≤ t.length ∧ loopF (zaZ.l2 n t rec) n x = rec (y : Int) ∧ ∀ h : x < t.length, (t[x].toNat : Nat) = 35 → x < y := by
 have := zdY (body := zaZ.l2 n t rec) (fun s : Int => t.length - s.toNat) (fun s => ∃ i : Nat, s = i ∧ i ≤ t.length) (fun s o => ∃ y : Nat, s.toNat ≤ y ∧ y ≤ t.length ∧ o = rec (y : Int) ∧ ∀ h : s.toNat < t.length, (t[s.toNat].toNat : Nat) = 35 → s.toNat < y) (fun r s hI hr => by
  obtain ⟨i, rfl, hi⟩ := hI;by_cases hlt : i < t.length
  ·simp only [zaZ.l2, zi hlt, zcO hlt, yj, yr, grd, if_true, yg, yA, zb (i := i) (by omega), yD];by_cases h10 : ((((t[i].toNat : Nat) : Int) != 10)) = true
   ·rw [if_pos h10];obtain ⟨y, y1, y2, y3, -⟩ := hr ((i + 1 : Nat) : Int) ⟨_, rfl, by omega⟩ (by simp only [yD]; omega);simp only [yD] at y1;exact ⟨y, by omega, y2, y3, fun _ _ => by omega⟩
   ·rw [if_neg h10];refine ⟨i, yn _, hi, rfl, fun _ h => ?_⟩;rw [h] at h10; exact absurd h10 (by decide)
  ·have : i = t.length := by omega
   subst this;exact ⟨t.length, by simp, yn _, by simp [zaZ.l2, grd], fun h => by simp at h⟩) n x ⟨x, rfl, hx⟩ (by simp; omega)
 simpa using this
theorem zg9 {n : Nat} {t : List UInt8} {a : Nat} (ha : a ≤ t.length) (hl : t.length < 1000000) (hn : 1000000 ≤ n) :
  ∃ k : Nat, zaZ n t a = some (k : Int) ∧ a ≤ k ∧ k ≤ t.length ∧ (∀ h : k < t.length, zc0 (t[k].toNat : Nat) = true) ∧ (∀ h : a < t.length, zc0 (t[a].toNat : Nat) = true → k = a) := by
 have := zdY (body := zaZ.l1 n t) (fun s : Int => t.length - s.toNat) (fun s => ∃ i : Nat, s = i ∧ i ≤ t.length)
  (fun s o => ∃ k : Nat, o = some (k : Int) ∧ s.toNat ≤ k ∧ k ≤ t.length ∧ (∀ h : k < t.length, zc0 (t[k].toNat : Nat) = true) ∧ (∀ h : s.toNat < t.length, zc0 (t[s.toNat].toNat : Nat) = true → k = s.toNat)) (fun r s hI hr => by
  obtain ⟨i, rfl, hi⟩ := hI;by_cases hlt : i < t.length
  ·simp only [zaZ.l1, zi hlt, zcO hlt, zaI, yj, yr, grd, if_true, yg, yA, ya, zb (i := i) (by omega), yD];by_cases hb : zc0 (t[i].toNat : Nat) = true
   ·rw [if_neg (by
     simp only [zc0, yG, ul, y6] at hb;simp only [yv, beq_iff_eq]; omega)]
    exact ⟨i, rfl, yn _, hi, fun _ => hb, fun _ _ => rfl⟩
   ·rw [if_pos (by
     simp only [zc0, yG, ul, y6] at hb;simp only [yv, beq_iff_eq]; omega)]
    by_cases hh : (t[i].toNat : Nat) = 35
    ·rw [if_pos (by simp [hh])];obtain ⟨y, y1, y2, y3, y4⟩ := zmj (n := n) (rec := r) hi hl hn;have y5 := y4 hlt hh;rw [y3];obtain ⟨k, e, k1, k2, k3, -⟩ := hr (y : Int) ⟨y, rfl, y2⟩ (by simp only [yD]; omega);simp only [yD] at k1;exact ⟨k, e, by omega, k2, k3, fun _ h => absurd h hb⟩
    ·rw [if_neg (by simp; omega)];obtain ⟨k, e, k1, k2, k3, -⟩ := hr ((i + 1 : Nat) : Int) ⟨_, rfl, by omega⟩ (by simp only [yD]; omega);simp only [yD] at k1;exact ⟨k, e, by omega, k2, k3, fun _ h => absurd h hb⟩
  ·have : i = t.length := by omega
   subst this;exact ⟨t.length, by simp [zaZ.l1, grd], by simp, yn _, fun h => absurd h (by omega), fun h => by simp at h⟩) n a ⟨a, rfl, ha⟩ (by simp; omega)
 simpa [zaZ] using this
theorem zhB {n : Nat} {t : List UInt8} {a : Nat} (ha : a ≤ t.length) (hl : t.length < 1000000) (hn : 1000000 ≤ n) : ∃ v : Nat, za1 n t a = some (v : Int) ∧ a + v ≤ t.length := by
 unfold za1;simp only [zfi, ya];generalize hL : ([[61, 61], [33, 61], [60, 61], [62, 61], [46, 46], [60], [62], [61], [43], [45], [42], [40], [41], [123], [125], [44], [58], [59]] : List (List UInt8)) = L;have hLl : L.length = 18 := by rw [← hL]; rfl
 have hL2 : ∀ x ∈ L, x.length ≤ 2 := by rw [← hL]; decide
 refine zdY (body := za1.l1 n t a L) (fun s : Int => 18 - s.toNat) (fun s => ∃ i : Nat, s = i ∧ i ≤ 18) (fun s o => ∃ v : Nat, o = some (v : Int) ∧ a + v ≤ t.length) (fun r s hI hr => ?_) n 0 ⟨0, rfl, by omega⟩ (by simp; omega);obtain ⟨i, rfl, hi⟩ := hI;by_cases hlt : i < L.length
 ·have h2 := hL2 _ (yk hlt);simp only [za1.l1, zi hlt, if_true, za hlt, ya, yj, yg, yr, zb (i := i) (by omega), zdQ (show a + L[i].length < 9223372036854775808 by omega)];by_cases hle : a + L[i].length ≤ t.length
  ·simp only [zfL (l := t) (a := a) (b := a + L[i].length) (by omega) hle, yj, yr, grd, if_true];split
   ·exact ⟨_, rfl, hle⟩
   ·exact hr _ ⟨i + 1, rfl, by omega⟩ (by simp only [yD]; omega)
  ·have hd : decide (((a + L[i].length : Nat) : Int) ≤ (t.length : Int)) = false := by simp; omega
   simp only [hd, uA, uG, grd, if_true, yW, ye, if_false];exact hr _ ⟨i + 1, rfl, by omega⟩ (by simp only [yD]; omega)
 ·have : i = L.length := by omega
  subst this;exact ⟨0, by simp [za1.l1], by omega⟩
theorem zh8 {n : Nat} {L : List (List UInt8)} {w : List UInt8} (hl : L.length < 1000000) (hn : 1000000 ≤ n) : zcb n L w = some (decide (w ∈ L)) := by
 have := zI (body := zcb.l1 n L w) (len := L.length) (st := fun i => (i : Int)) (g := fun i => some (decide (w ∈ L.drop i))) (fun rec i hi hr => ?_) (fun rec => ?_) n 0 (yo _) (by omega)
 ·simpa [zcb] using this
 ·simp only [zcb.l1, zi hi, if_true, za hi, ya, zb (i := i) (by omega), hr];rw [zo hi];by_cases h : L[i] = w
  ·rw [if_pos (by simpa using h)];simp only [yM, h, true_or, decide_true]
  ·have h' : ¬ w = L[i] := fun e => h e.symm
   rw [if_neg (by simpa using h)];simp only [yM, h', false_or]
 ·simp [zcb.l1]
theorem zf9 {n : Nat} : zeB n = some kwL := rfl
theorem ziz {n : Nat} {t : List UInt8} {a : Nat} (ha : a < t.length) (hb : zc0 (t[a].toNat : Nat) = true) (hl : t.length < 1000000) (hn : 1000000 ≤ n) :
  ∃ (k : Int) (e : Nat), zao n t a = some (k, (e : Int)) ∧ a < e ∧ e ≤ t.length ∧ (zbx (t[a].toNat : Nat) = true → e = a + runP partP (t.drop a)) ∧ (k = 1 ↔ zbx (t[a].toNat : Nat) = true ∧ (t.drop a).take (e - a) ∉ kwL) := by
 unfold zao;simp only [zcO ha, ya, zfn, zep];by_cases hlet : zbx ((t[a].toNat : Nat) : Int) = true
 ·rw [if_pos hlet];have hlp : zbx (t[a].toNat : Nat) = true := hlet;have hrun1 : 1 ≤ runP partP (t.drop a) := by
   rw [zo ha, runP, if_pos (by simp [partP, hlp])]; omega
  have hle := zjL partP (t.drop a);simp only [yU] at hle;have := zby (body := zao.l1 n t a) (len := t.length) (st := fun (_ : Unit) i => (i : Int)) (g := fun i _ => some (if decide ((t.drop a).take (i + runP partP (t.drop i) - a) ∈ kwL) = true then (2, ((i + runP partP (t.drop i) : Nat) : Int)) else (1, ((i + runP partP (t.drop i) : Nat) : Int)))) (fun i _ => a ≤ i) (fun rec i _ hi hai hr => ?_) (fun rec _ hai => ?_) n a () (by omega) (by omega) (yn _)
  ·rw [this];refine ⟨if decide ((t.drop a).take (a + runP partP (t.drop a) - a) ∈ kwL) = true then 2 else 1, a + runP partP (t.drop a), ?_, by omega, by omega, fun _ => rfl, ?_⟩
   ·split <;> rfl
   ·rw [hlp];by_cases hk : (t.drop a).take (a + runP partP (t.drop a) - a) ∈ kwL
    ·simp [hk]
    ·simp [hk]
  ·have hr := hr () (by omega);have hle' := zjL partP (t.drop i);simp only [yU] at hle';simp only [zao.l1, zi hi, zcO hi, zfn, zep, yj, yr, grd, if_true, yg, yA, zb (i := i) (by omega), hr];rw [zo hi, runP];have hpe : (zbx ((t[i].toNat : Nat) : Int) || zin ((t[i].toNat : Nat) : Int) || ((t[i].toNat : Nat) : Int) == 95) = partP ((t[i].toNat : Nat) : Int) := rfl;rw [hpe];by_cases hp : partP (t[i].toNat : Nat) = true
   ·rw [if_pos hp, if_pos hp, show i + (runP partP (t.drop (i + 1)) + 1) = i + 1 + runP partP (t.drop (i + 1)) by omega]
   ·rw [if_neg hp, if_neg hp];simp only [un, zf9, ya, zfL hai (Nat.le_of_lt hi)];rw [zh8 (by decide) hn, ya];cases decide ((t.drop a).take (i - a) ∈ kwL) <;> rfl
  ·simp only [zao.l1, zaw, uA, uG, grd, if_true, yW, ye, if_false, zf9, ya, zfL hai (yn _)];rw [zh8 (by decide) hn, ya];simp only [List.drop_length, runP, un];cases decide ((t.drop a).take (t.length - a) ∈ kwL) <;> rfl
 ·rw [if_neg hlet];have hlp : zbx (t[a].toNat : Nat) = false := by simpa using hlet
  simp only [hlp, ye, false_implies, false_and, iff_false, true_and];by_cases hdig : zin ((t[a].toNat : Nat) : Int) = true
  ·rw [if_pos hdig];have := zdY (body := zao.l2 n t) (fun s : Int => t.length - s.toNat) (fun s => ∃ i : Nat, s = i ∧ i ≤ t.length) (fun s o => ∃ e : Nat, o = some (3, (e : Int)) ∧ s.toNat ≤ e ∧ e ≤ t.length ∧ ∀ h : s.toNat < t.length, zin (t[s.toNat].toNat : Nat) = true → s.toNat < e) (fun r s hI hr => by
    obtain ⟨i, rfl, hi⟩ := hI;by_cases hlt : i < t.length
    ·simp only [zao.l2, zi hlt, zcO hlt, zep, yj, yr, grd, if_true, yg, yA, zb (i := i) (by omega), yD];split
     ·obtain ⟨e, e1, e2, e3, -⟩ := hr ((i + 1 : Nat) : Int) ⟨_, rfl, by omega⟩ (by simp only [yD]; omega);simp only [yD] at e2;exact ⟨e, e1, by omega, e3, fun _ _ => by omega⟩
     ·rename_i hno;exact ⟨i, rfl, yn _, hi, fun _ h => absurd h hno⟩
    ·have : i = t.length := by omega
     subst this;exact ⟨t.length, by simp [zao.l2, grd], by simp, yn _, fun h => by simp at h⟩) n a ⟨a, rfl, Nat.le_of_lt ha⟩ (by simp; omega)
   obtain ⟨e, e1, -, e3, e4⟩ := this;exact ⟨3, e, e1, e4 ha hdig, e3, by decide⟩
  ·rw [if_neg hdig];obtain ⟨v, hv, hv2⟩ := zhB (n := n) (t := t) (a := a) (Nat.le_of_lt ha) hl hn;rw [hv, ya];by_cases hv0 : 0 < v
   ·rw [if_pos (by simpa using hv0), zdQ (by omega)];exact ⟨4, a + v, rfl, by omega, hv2, by decide⟩
   ·have hv0 : v = 0 := by omega
    subst hv0;rw [if_neg (by simp)];have := zdY (body := zao.l3 n t) (fun s : Int => t.length - s.toNat) (fun s => ∃ i : Nat, s = i ∧ i ≤ t.length) (fun s o => ∃ e : Nat, o = some (5, (e : Int)) ∧ s.toNat ≤ e ∧ e ≤ t.length ∧ (s = a → a < e)) (fun r s hI hr => by
     obtain ⟨i, rfl, hi⟩ := hI;by_cases hlt : i < t.length
     ·obtain ⟨u, hu, -⟩ := zhB (n := n) (t := t) (a := i) hi hl hn;simp only [zao.l3, zi hlt, zcO hlt, zaI, zfn, zep, hu, yj, yr, grd, if_true, yg, yA, zb (i := i) (by omega), yD];split
      ·obtain ⟨e, e1, e2, e3, -⟩ := hr ((i + 1 : Nat) : Int) ⟨_, rfl, by omega⟩ (by simp only [yD]; omega);simp only [yD] at e2;exact ⟨e, e1, by omega, e3, fun h => by omega⟩
      ·rename_i hno;refine ⟨i, rfl, yn _, hi, fun h => ?_⟩;have hia : i = a := by omega
       subst hia;exfalso; apply hno;rw [hv] at hu;simp only [yh, Int.natCast_inj] at hu;subst hu;simp only [zc0, yG, ul, y6] at hb;simp only [yc, bne_iff_ne, ne_eq, yG, ul, y6];simp only [yz] at hlet hdig;exact ⟨⟨⟨⟨by omega, by omega⟩, hlet⟩, hdig⟩, by simp⟩
     ·have : i = t.length := by omega
      subst this;exact ⟨t.length, by simp [zao.l3, grd], by simp, yn _, fun h => by omega⟩) n a ⟨a, rfl, Nat.le_of_lt ha⟩ (by simp; omega)
    obtain ⟨e, e1, -, e3, e4⟩ := this;exact ⟨5, e, e1, e4 rfl, e3, by decide⟩
theorem zp {α : Type} {b : Nat} {xs ys : List α} (h : (xs.length + ys.length) * b ≤ 140737488355328) : Go.Proofs.YtcagdmegicijlaaGreatDoor.app b xs ys = some (xs ++ ys) := by
 unfold Go.Proofs.YtcagdmegicijlaaGreatDoor.app; rw [if_pos h]
theorem zjK {n : Nat} {t : List UInt8} (hl : t.length < 1000000) (hn : 1000000 ≤ n) : ∀ (m : Nat) (b : List Token) (a : Nat), a ≤ t.length → b.length ≤ a → t.length - a < m → ∃ r, r ≠ [] ∧ loopF (zcw.l1 n t) m (b, (a : Int)) = some (b ++ r, 0)
 | 0, _, _, _, _, h => by omega
 | m + 1, b, a, ha, hb, h => by
  obtain ⟨k, e, k1, k2, k3, -⟩ := zg9 (n := n) ha hl hn;simp only [loopF, zcw.l1, e, ya];by_cases hlt : k < t.length
  ·obtain ⟨q, z, hz, z1, z2, -, -⟩ := ziz (n := n) hlt (k3 hlt) hl hn;simp only [zi hlt, if_true, hz, ya];rw [zp (by simp; omega), ya];obtain ⟨r, -, hr⟩ := zjK hl hn m (b ++ [(⟨q, (a : Int), (k : Int), (z : Int)⟩ : Token)]) z z2 (by simp; omega) (by omega);rw [hr];exact ⟨_ :: r, by simp, by rw [yE]; rfl⟩
  ·rw [zft (by omega), if_neg (by simp), zp (by simp; omega), ya];exact ⟨_, by simp, rfl⟩
theorem zmi {n : Nat} {w : List UInt8} (hl : w.length ≤ 4096) (hn : 1000000 ≤ n) : ∃ k, zgp n w = some k ∧ (k = 1 ↔ wordP w = true ∧ w ∉ kwL) := by
 unfold zgp zcw;rw [if_neg (by simp; omega), zfS (by omega)];obtain ⟨k, e, -, k2, k3, k4⟩ := zg9 (n := n) (t := w) (a := 0) (by omega) (by omega) hn;simp only [Int.natCast_zero] at e;simp only [zcw.l1, e, ya];by_cases hlt : k < w.length
 ·obtain ⟨q, z, hz, z1, z2, z3, z4⟩ := ziz (n := n) hlt (k3 hlt) (by omega) hn;simp only [zi hlt, if_true, hz, ya, yS];rw [zp (by simp), ya];obtain ⟨r, r0, hr⟩ := zjK (n := n) (t := w) (by omega) hn (n - 1) [(⟨q, 0, (k : Int), (z : Int)⟩ : Token)] z z2 (by simp; omega) (by omega);simp only [yS];rw [hr];have h0 : idx ([(⟨q, 0, (k : Int), (z : Int)⟩ : Token)] ++ r) 0 = some ⟨q, 0, (k : Int), (z : Int)⟩ := by simp [idx]
  simp only [ya, h0, yj, yr, grd, if_true, yg];rw [zif w (by omega)];have hw0 : k = 0 → z = w.length → (zbx (w[k].toNat : Nat) = true ∧ (w.drop k).take (z - k) ∉ kwL ↔ (zbx (w[0].toNat : Nat) && decide (runP partP w = w.length)) = true ∧ w ∉ kwL) := by
   intro e1 e2;subst e1;rw [e2];simp only [List.drop_zero, Nat.sub_zero, List.take_length, yc, yf];constructor
   ·rintro ⟨h1, h2⟩;have := z3 h1;simp only [List.drop_zero] at this;exact ⟨⟨h1, by omega⟩, h2⟩
   ·rintro ⟨⟨h1, -⟩, h2⟩;exact ⟨h1, h2⟩
  by_cases hc : ((((((0 : Int) != 0) || ((([(⟨q, 0, (k : Int), (z : Int)⟩ : Token)] ++ r).length : Int) != 2)) || ((k : Int) != 0)) || ((z : Int) != (w.length : Int)))) = true
  ·rw [if_pos hc];refine ⟨0, rfl, ?_⟩;constructor
   ·intro h; exact absurd h (by decide)
   ·rintro ⟨h1, h2⟩;exfalso;simp only [yc, yf] at h1;have hk0 : k = 0 := k4 (by omega) (zdu h1.1);subst hk0;have hzw := z3 h1.1;simp only [List.drop_zero] at hzw;have hzl : z = w.length := by omega
    subst hzl;rw [zfS (by omega)] at hr;obtain ⟨k', e', p1, p2, -, -⟩ := zg9 (n := n) (t := w) (a := w.length) (yn _) (by omega) hn;have : k' = w.length := by omega
    subst this;simp only [zcw.l1, e', ya, zaw, ye, if_false] at hr;rw [zp (by simp), ya] at hr;simp only [yh, yw, and_true, List.append_cancel_left_eq] at hr;subst hr;simp at hc
  ·rw [if_neg hc];refine ⟨q, rfl, ?_⟩;simp only [yv, bne_iff_ne, ne_eq, not_or, Decidable.not_not] at hc;rw [z4];exact hw0 (by omega) (by omega)
 ·rw [zft (by omega), if_neg (by simp), zp (by simp), ya];simp only [yS, ya];refine ⟨0, by simp [grd, idx], ?_⟩;constructor
  ·intro h; exact absurd h (by decide)
  ·rintro ⟨h1, -⟩;exfalso;cases w with
   | nil => simp [wordP] at h1
   | cons x l =>
    simp only [wordP, yc] at h1;have := k4 (by simp) (zdu h1.1);simp at hlt; omega
theorem zhv {n : Nat} {w : List UInt8} (hl : w.length ≤ 4096) (hn : 1000000 ≤ n) : zeV n w = some (nameP w) := by
 unfold zeV nameP;obtain ⟨k, hk, hiff⟩ := zmi (n := n) hl hn;rw [hk, ya];have h16 : decide ((w.length : Int) ≤ 16) = decide (w.length ≤ 16) := decide_eq_decide.2 (by omega);rw [h16, Bool.and_comm];congr 2;rw [Bool.eq_iff_iff];simp only [beq_iff_eq, hiff, yc, yG, yH]
theorem SetIs.getS {m : GMap (List UInt8) Bool} {l : List (List UInt8)} (h : SetIs m l) (k : List UInt8) : (m.get? k).getD false = decide (k ∈ l) := (h.get k).trans (decide_eq_decide.2 Iff.rfl)
def distP : List (List UInt8) → List (List UInt8) → Bool
 | _, [] => true
 | seen, s :: l => nameP s && !decide (s ∈ seen) && distP (seen ++ [s]) l
theorem zeS {n : Nat} {l : List (List UInt8)} (hF : Fuel n) (hl : l.length < 1000000) : zai n l = some (distP [] l) := by
 have hn := hF.big;have := zby (body := zai.l1 n l) (len := l.length) (st := fun m i => (m, (i : Int))) (g := fun i _ => some (distP (l.take i) (l.drop i))) (fun i m => SetIs m (l.take i)) (fun rec i m hi hm hr => ?_) (fun rec m _ => ?_) n 0 (GMap.empty) (yo _) (by omega) (by simpa using SetIs.empty)
 ·simpa [zai] using this
 ·simp only [zai.l1, zi hi, if_true, za hi, ya, zhn hF, hm.getS, zb (i := i) (by omega)];rw [hr _ (by rw [yF hi]; exact hm.put _), zo hi, distP, yF hi];cases nameP l[i] <;> cases hd : decide (l[i] ∈ l.take i) <;> simp
 ·simp [zai.l1, distP]
theorem zeW {n : Nat} {l : List (List UInt8)} (hn : 1000000 ≤ n) (hl : l.length < 1000000) (hw : ∀ w ∈ l, w.length ≤ 4096) : zaj n l = some (distP [] l) := by
 have := zI (body := zaj.l1 n l) (len := l.length) (st := fun i => (i : Int)) (g := fun i => some (distP (l.take i) (l.drop i))) (fun rec i hi hr => ?_) (fun rec => ?_) n 0 (yo _) (by omega)
 ·simpa [zaj] using this
 ·have hc := zfL (l := l) (a := 0) (b := i) (by omega) (Nat.le_of_lt hi)
  simp only [Int.natCast_zero, List.drop_zero, Nat.sub_zero] at hc;simp only [zaj.l1, zi hi, if_true, za hi, ya, zhv (hw _ (yk hi)) hn, hc, yj, yg, yr, grd, zh8 (show (l.take i).length < 1000000 by simp; omega) hn, zb (i := i) (by omega), hr];rw [zo hi, distP, yF hi];cases nameP l[i] <;> cases hd : decide (l[i] ∈ l.take i) <;> simp
 ·simp [zaj.l1, distP]
theorem zna {n : Nat} {l : List Bool} {v : Bool} (hl : l.length < 1000000) (hn : 1000000 ≤ n) : zV n l v = some (ixP (fun x => v == x) l 0) := by
 have := zI (body := zV.l1 n l v) (len := l.length) (st := fun i => (i : Int)) (g := fun i => some (ixP (fun x => v == x) (l.drop i) i)) (fun rec i hi hr => ?_) (fun rec => ?_) n 0 (yo _) (by omega)
 ·simpa [zV] using this
 ·simp only [zV.l1, zi hi, if_true, za hi, ya, zb (i := i) (by omega), hr];rw [zo hi];simp only [ixP];split <;> rfl
 ·simp [zV.l1, ixP]
theorem zik {n : Nat} {l : List Bool} (hl : l.length < 1000000) (hn : 1000000 ≤ n) : zfF n l = some (l.all id) := by
 unfold zfF zbz;rw [zna hl hn];simp only [ya, zfN, yh];rw [← zi1];congr 2;funext x; cases x <;> rfl
def b6 : Nat → Int → Int
 | 0, A => A
 | k + 1, A => b6 k (A * 6)
theorem b6_le : ∀ (k : Nat) (A : Int), 1 ≤ A → A ≤ b6 k A
 | 0, _, _ => Int.le_refl _
 | k + 1, A, h => Int.le_trans (by omega) (b6_le k (A * 6) (by omega))
theorem znx {a b A : Int} (h1 : 1 ≤ a) (h2 : a ≤ A) (h3 : 1 ≤ b) (h4 : b ≤ 6) : 1 ≤ a * b ∧ a * b ≤ A * 6 := by
 have e1 : 1 * 1 ≤ a * b := Int.mul_le_mul h1 h3 (by omega) (by omega);have e2 : a * b ≤ A * 6 := Int.mul_le_mul h2 h4 (by omega) (by omega);omega
theorem zl6 (sizes : List Int) (hs : sizes.all zcc = true) : ∀ (cols : List Int) (s A : Int), cols.all (colOK sizes) = true → 1 ≤ s → s ≤ A → b6 cols.length A ≤ 1000000 → 1 ≤ zaf sizes cols s ∧ zaf sizes cols s ≤ b6 cols.length A
 | [], s, A, _, h1, h2, _ => by simpa [zaf, b6] using ⟨h1, h2⟩
 | c :: l, s, A, hc, h1, h2, h3 => by
  simp only [uw, yc] at hc;have hcol := hc.1;simp only [colOK, yc, yf] at hcol;obtain ⟨k, rfl⟩ := y7 hcol.1;have hk : k < sizes.length := by omega
  have hz := yp.1 hs _ (yk hk);simp only [zcc, yc, yf] at hz;have hg : sizes.getD (k : Int).toNat 0 = sizes[k] := by simp [List.getD, hk]
  have hm := znx h1 h2 hz.1 hz.2;simp only [yP, b6] at h3 ⊢;have hb := b6_le l.length (A * 6) (by omega);simp only [zaf, hg];unfold mul64;rw [zcY (by omega) (by omega)];exact zl6 sizes hs l _ _ hc.2 hm.1 hm.2 h3
theorem zgf {sizes cols : List Int} (hs : sizes.all zcc = true) (hc : cols.all (colOK sizes) = true) (h3 : cols.length ≤ 3) : 1 ≤ zaf sizes cols 1 ∧ zaf sizes cols 1 ≤ 216 := by
 have h : b6 cols.length 1 ≤ 216 := by
  match cols, h3 with
  | [], _ => decide
  | [_], _ => simp [b6]
  | [_, _], _ => simp [b6]
  | [_, _, _], _ => simp [b6]
  | _ :: _ :: _ :: _ :: _, h => simp at h
 have := zl6 sizes hs cols 1 1 hc (by decide) (by decide) (by omega);omega
def zbM (k : Int) : Bool := k == 0 || k == 1
def zf3 (t : Table) : Bool := if (t.kind == 1 || t.kind == 4 || t.kind == 5) = true then (decide (t.range.lo ≤ t.range.hi) && decide (-9999 ≤ t.range.lo)) && decide (t.range.hi ≤ 9999) else decide (t.range = (⟨0, 1⟩ : Range))
def tabP (sizes : List Int) (t : Table) : Bool := nameP t.name && (decide (0 ≤ t.kind) && decide (t.kind ≤ 5)) && (decide (t.columns.length ≤ 3) && t.columns.all (colOK sizes)) && zf3 t
def layP (sizes : List Int) : List (List UInt8) → Int → Int → List Table → Bool
 | _, a, b, [] => decide (a ≤ 128) && decide (b ≤ 64)
 | seen, a, b, t :: l => (tabP sizes t && !decide (t.name ∈ seen)) && (if zbM t.kind = true then t.first == a && layP sizes (seen ++ [t.name]) (add64 a (zaf sizes t.columns 1)) b l else t.first == b && layP sizes (seen ++ [t.name]) a (add64 b (zaf sizes t.columns 1)) l)
def zbh (sizes : List Int) (tables : List Table) : Bool := decide (sizes.length ≤ 4) && decide (tables.length ≤ 12) && sizes.all zcc && layP sizes [] 0 0 tables
theorem zi4 {n : Nat} {t : Table} : zeh n t = some (zf3 t) := by
 unfold zeh zf3 jn;by_cases h1 : t.kind = 1
 ·simp [h1]
 ·by_cases h4 : t.kind = 4
  ·simp [h4]
  ·by_cases h5 : t.kind = 5
   ·simp [h5]
   ·simp [h1, h4, h5]
theorem zev {n : Nat} {sizes : List Int} {tables : List Table} (hF : Fuel n) (hs : sizes.length ≤ 1000) (ht : tables.length ≤ 1000) (hc : ∀ t ∈ tables, t.columns.length ≤ 1000) : zbp n sizes tables = some (zbh sizes tables) := by
 have hn := hF.big;unfold zbp zbh;rw [zjU (by omega) (by omega), ya, zik (by simp) (by omega), ya];simp only [uw, List.all_nil, id, uE];have e1 : decide ((sizes.length : Int) ≤ 4) = decide (sizes.length ≤ 4) := decide_eq_decide.2 (by omega);have e2 : decide ((tables.length : Int) ≤ 12) = decide (tables.length ≤ 12) := decide_eq_decide.2 (by omega);rw [e1, e2, ← Bool.and_assoc];by_cases h : (decide (sizes.length ≤ 4) && decide (tables.length ≤ 12) && sizes.all zcc) = true
 ·rw [h, if_neg (by simp), yA];have := zby (body := zbp.l1 n sizes tables) (len := tables.length) (st := fun (s : GMap (List UInt8) Bool × Int × Int) i => (s.1, s.2.1, s.2.2, (i : Int))) (g := fun i s => some (layP sizes ((tables.take i).map (·.name)) s.2.1 s.2.2 (tables.drop i))) (fun i s => SetIs s.1 ((tables.take i).map (·.name))) (fun rec i s hi hm hr => ?_) (fun rec s _ => ?_) n 0 (GMap.empty, 0, 0) (yo _) (by omega) (by simpa using SetIs.empty)
  ·simpa using this
  ·obtain ⟨m, a, b⟩ := s;simp only [] at hm;have hmem := yk hi;have hcols := hc _ hmem;simp only [zbp.l1, jn, zi hi, if_true, za hi, ya, zhn hF, hm.getS, zds, zhP (show tables[i].columns.length < 4611686018427387904 by omega) (show tables[i].columns.length < n by omega), zi4, zbJ, zb (i := i) (by omega)];rw [zik (by simp) (by omega), ya];simp only [uw, List.all_nil, id, uE];have hput := hm.put tables[i].name;have htk : ((tables.take (i + 1)).map (·.name)) = (tables.take i).map (·.name) ++ [tables[i].name] := by rw [yF hi, uk]; rfl
   rw [← htk] at hput;have hT : (nameP tables[i].name && (!decide (tables[i].name ∈ (tables.take i).map (·.name)) && (decide (0 ≤ tables[i].kind) && decide (tables[i].kind ≤ 5) && (decide (tables[i].columns.length ≤ 3) && tables[i].columns.all (colOK sizes) && zf3 tables[i])))) = (tabP sizes tables[i] && !decide (tables[i].name ∈ (tables.take i).map (·.name))) := by
    unfold tabP;cases nameP tables[i].name <;> cases decide (tables[i].name ∈ (tables.take i).map (·.name)) <;> simp [Bool.and_assoc]
   rw [hT, zo hi, layP];by_cases hv : (tabP sizes tables[i] && !decide (tables[i].name ∈ (tables.take i).map (·.name))) = true
   ·rw [hv, if_neg (by simp), yA];have hcol : tables[i].columns.all (colOK sizes) = true := by
     simp only [tabP, yc] at hv; exact hv.1.1.2.2
    simp only [zex hcol (show tables[i].columns.length < 4611686018427387904 by omega) (show tables[i].columns.length < n by omega), ya, ← htk];unfold zbM;by_cases hk : (tables[i].kind == 0 || tables[i].kind == 1) = true
    ·rw [if_pos hk, if_pos hk];by_cases hf : tables[i].first = a
     ·rw [if_neg (by simp [hf]), hr (m.put tables[i].name true, add64 a (zaf sizes tables[i].columns 1), b) hput];simp [hf]
     ·rw [if_pos (by simp [hf])]; simp [hf]
    ·rw [if_neg hk, if_neg hk];by_cases hf : tables[i].first = b
     ·rw [if_neg (by simp [hf]), hr (m.put tables[i].name true, a, add64 b (zaf sizes tables[i].columns 1)) hput];simp [hf]
     ·rw [if_pos (by simp [hf])]; simp [hf]
   ·simp only [yz] at hv;rw [hv, if_pos (by simp), yW]
  ·simp [zbp.l1, layP]
 ·simp only [yz] at h;rw [h, if_pos (by simp), yW]
theorem zeC {n : Nat} {sizes : List Int} {tables : List Table} (hn : 1000000 ≤ n) (hs : sizes.length ≤ 1000) (ht : tables.length ≤ 1000) (hc : ∀ t ∈ tables, t.columns.length ≤ 1000 ∧ t.name.length ≤ 4096) : zav n sizes tables = some (zbh sizes tables) := by
 unfold zav zbh;have e1 : decide (4 < (sizes.length : Int)) = !decide (sizes.length ≤ 4) := by rw [← decide_not]; exact decide_eq_decide.2 (by omega)
 have e2 : decide (12 < (tables.length : Int)) = !decide (tables.length ≤ 12) := by rw [← decide_not]; exact decide_eq_decide.2 (by omega)
 rw [zgL (by omega) (by omega), e1, e2];simp only [yj, yr, grd, if_true, yg];by_cases h : (decide (sizes.length ≤ 4) && decide (tables.length ≤ 12) && sizes.all zcc) = true
 ·rw [h, yA];simp only [yc] at h;obtain ⟨⟨h1, h2⟩, h3⟩ := h;rw [h1, h2, h3, if_neg (by simp)];have := zby (body := zav.l1 n sizes tables) (len := tables.length) (st := fun (s : Int × Int) i => (s.1, s.2, (i : Int))) (g := fun i s => some (layP sizes ((tables.take i).map (·.name)) s.1 s.2 (tables.drop i))) (fun _ _ => True) (fun rec i s hi _ hr => ?_) (fun rec s _ => ?_) n 0 (0, 0) (yo _) (by omega) trivial
  ·simpa using this
  ·obtain ⟨a, b⟩ := s;have hmem := yk hi;obtain ⟨hcols, hname⟩ := hc _ hmem;simp only [zav.l1, jn, zi hi, if_true, za hi, ya];generalize hK : (fun (v : Int × Int) => rec (v.1, v.2, add64 (i : Int) 1)) = K;have inner := zI (body := zav.l2 n sizes tables a b i K tables[i]) (len := i) (st := fun k => (k : Int)) (g := fun k => if decide (tables[i].name ∈ ((tables.take i).drop k).map (·.name)) = true then some false else zav.l2 n sizes tables a b i K tables[i] (fun _ => none) (i : Int)) (fun rec' k hk hr' => ?_) (fun rec' => ?_) n 0 (yo _) (by omega)
   ·rw [show ((0 : Nat) : Int) = 0 from rfl] at inner;rw [inner, zo hi, layP, List.drop_zero];have htk : ((tables.take (i + 1)).map (·.name)) = (tables.take i).map (·.name) ++ [tables[i].name] := by rw [yF hi, uk]; rfl
    cases hseen : decide (tables[i].name ∈ (tables.take i).map (·.name)) with
    | true => simp
    | false =>
     simp only [ye, if_false, uA, uE];have hnum := zd7 (n := n) (sizes := sizes) (cols := tables[i].columns) (by omega) (by omega) (by omega) (by omega);rw [h3, uE] at hnum;simp only [zav.l2, zft (yn i), ye, if_false, hnum, ya, zhv hname hn, zbE];unfold tabP;by_cases hcol : (decide (tables[i].columns.length ≤ 3) && tables[i].columns.all (colOK sizes)) = true
     ·simp only [hcol, if_true, uE];have hcol' := hcol;simp only [yc, yf] at hcol';have hw := zgf h3 hcol'.2 hcol'.1;have hw0 : (zaf sizes tables[i].columns 1 == 0) = false := by simp; omega
      rw [hw0, uP];by_cases hnk : (nameP tables[i].name && (decide (0 ≤ tables[i].kind) && decide (tables[i].kind ≤ 5))) = true
      ·rw [hnk, yA];simp only [yc, yf] at hnk;rw [if_neg (by simp [hnk.1]; omega)];by_cases hrg : zf3 tables[i] = true
       ·rw [hrg, yA];unfold zf3 at hrg;rw [if_neg (by
         split at hrg
         ·simp only [yc, yf] at hrg;simp only [yv, yf]; omega
         ·simp only [yf] at hrg;rw [hrg]; decide), if_neg (by
         split at hrg
         ·rename_i hk;simp only [yv, beq_iff_eq] at hk;simp only [yc, yv, beq_iff_eq]; omega
         ·simp only [yf] at hrg;rw [hrg]; simp)]
        unfold zbM;by_cases hk : (tables[i].kind == 0 || tables[i].kind == 1) = true
        ·rw [if_pos hk, if_pos hk];by_cases hf : tables[i].first = a
         ·rw [if_neg (by simp [hf]), ← hK];simp only [zb (i := i) (by omega)];have := hr (add64 a (zaf sizes tables[i].columns 1), b) trivial;simp only [] at this;rw [this, htk];simp [hf]
         ·rw [if_pos (by simp [hf])]; simp [hf]
        ·rw [if_neg hk, if_neg hk];by_cases hf : tables[i].first = b
         ·rw [if_neg (by simp [hf]), ← hK];simp only [zb (i := i) (by omega)];have := hr (a, add64 b (zaf sizes tables[i].columns 1)) trivial;simp only [] at this;rw [this, htk];simp [hf]
         ·rw [if_pos (by simp [hf])]; simp [hf]
       ·simp only [yz] at hrg;rw [hrg, yW];unfold zf3 at hrg;split at hrg
        ·rename_i hk;rw [if_pos (by
          simp only [ug, yH] at hrg;simp only [yv, yf]; omega)]
        ·rename_i hk;simp only [yv, beq_iff_eq, not_or] at hk;have hr01 : ¬ (tables[i].range.lo = 0 ∧ tables[i].range.hi = 1) := by
          rintro ⟨q1, q2⟩;simp only [yH] at hrg;apply hrg;cases hrr : tables[i].range;rw [hrr] at q1 q2;simp only [] at q1 q2;rw [q1, q2]
         split
         ·rfl
         ·rw [if_pos (by
           simp only [yc, yv, beq_iff_eq, bne_iff_ne, ne_eq]; omega)]
      ·simp only [yz] at hnk;rw [hnk, yW, yW];rw [if_pos (by
        simp only [ug, yH] at hnk;simp only [yv, yG, yf];rcases hnk with h | h | h
        ·exact .inl (.inl h)
        ·exact .inl (.inr (by omega))
        ·exact .inr (by omega))]
     ·simp only [yz] at hcol;simp only [hcol, Bool.and_false, yW, ye, if_false];rw [if_pos (by simp)]
   ·have hk' : k < tables.length := by omega
    simp only [zav.l2, zhq hk, if_true, za hk', ya, zb (i := k) (by omega), hr'];have hk2 : k < (tables.take i).length := by simp; omega
    rw [zo hk2];simp only [List.getElem_take, yQ, yM];by_cases hnm : tables[k].name = tables[i].name
    ·rw [if_pos (by simpa using hnm), if_pos (by simp [hnm])]
    ·rw [if_neg (by simpa using hnm)];have hnm' : ¬ tables[i].name = tables[k].name := fun e => hnm e.symm
     simp only [hnm', false_or]
   ·rw [if_neg (by simp)];simp only [zav.l2, zft (yn i), ye, if_false]
  ·simp [zav.l1, layP]
 ·simp only [yz] at h;rw [h, yW];rw [if_pos (by
   simp only [ug] at h;simp only [yv, yG];rcases h with (h | h) | h
   ·exact .inl (.inl h)
   ·exact .inr h
   ·exact .inl (.inr h))]
def zQ (sizes : List Int) (s : Bool) : List Table → List Range
 | [] => []
 | t :: l => if (zbM t.kind == s) = true then List.replicate (zaf sizes t.columns 1).toNat t.range ++ zQ sizes s l else zQ sizes s l
theorem zhm {sizes : List Int} : ∀ {l : List Table} {seen : List (List UInt8)} {a b : Int}, layP sizes seen a b l = true → ∀ t ∈ l, tabP sizes t = true
 | [], _, _, _, _, _, ht => by simp at ht
 | x :: l, seen, a, b, h, t, ht => by
  simp only [layP, yc] at h;simp only [yM] at ht;rcases ht with rfl | ht
  ·exact h.1.1
  ·have h2 := h.2;split at h2
   ·simp only [yc] at h2; exact zhm h2.2 t ht
   ·simp only [yc] at h2; exact zhm h2.2 t ht
theorem zbr {sizes : List Int} {tables : List Table} (h : zbh sizes tables = true) : sizes.length ≤ 4 ∧ tables.length ≤ 12 ∧ sizes.all zcc = true ∧ ∀ t ∈ tables, nameP t.name = true ∧ (0 ≤ t.kind ∧ t.kind ≤ 5) ∧ t.columns.length ≤ 3 ∧ t.columns.all (colOK sizes) = true ∧ 1 ≤ zaf sizes t.columns 1 ∧ zaf sizes t.columns 1 ≤ 216 := by
 simp only [zbh, yc, yf] at h;obtain ⟨⟨⟨h1, h2⟩, h3⟩, h4⟩ := h;refine ⟨h1, h2, h3, fun t ht => ?_⟩;have := zhm h4 t ht;simp only [tabP, yc, yf] at this;obtain ⟨⟨⟨p1, p2⟩, p3⟩, -⟩ := this;exact ⟨p1, p2, p3.1, p3.2, zgf h3 p3.2 p3.1⟩
theorem zcS {sizes : List Int} {s : Bool} : ∀ {l : List Table}, (∀ t ∈ l, 1 ≤ zaf sizes t.columns 1 ∧ zaf sizes t.columns 1 ≤ 216) → (zQ sizes s l).length ≤ l.length * 216
 | [], _ => by simp [zQ]
 | t :: l, h => by
  have ih := zcS (s := s) (l := l) fun x hx => h x (by simp [hx])
  have ht := h t (by simp);simp only [zQ, yP];split
  ·simp only [yI, uh]; omega
  ·omega
theorem zoY {n : Nat} : ∀ w : Fin 217, zdK n 1 ((w.1 : Nat) : Int) = some (0, ((w.1 : Nat) : Int)) := by
 intro w;unfold zdK zd0;revert w;decide +kernel
theorem zmO : ∀ w : Fin 217, wk .u64 ((w.1 : Nat) : Int) = ((w.1 : Nat) : Int) ∧ wk .i64 ((w.1 : Nat) : Int) = ((w.1 : Nat) : Int) := by decide +kernel
theorem znc {n : Nat} {x : Range} {w : Int} (h1 : 1 ≤ w) (h2 : w ≤ 216) (hn : 1000000 ≤ n) : zF n [x] w = some (List.replicate w.toNat x) := by
 obtain ⟨W, rfl⟩ := y7 (show 0 ≤ w by omega);have hW : W < 217 := by omega
 have hwk := zmO ⟨W, hW⟩;simp only [] at hwk;have h1k : wk .u64 (([x] : List Range).length : Int) = 1 := (zmO ⟨1, by decide⟩).1;unfold zF;rw [if_neg (by simp), h1k, hwk.1, zoY ⟨W, hW⟩];simp only [ya];rw [if_neg (by simp; omega), hwk.2];have hm : mkl 16 (W : Int) (⟨0, 0⟩ : Range) = some (List.replicate W ⟨0, 0⟩) := by
  unfold mkl; rw [if_pos (by omega)]; simp
 rw [hm, ya];simp only [uh, uF, Nat.sub_zero, yD];rw [show min W 1 = 1 by omega];refine zdY (body := zF.l1 n) (fun s => W - s.2.toNat) (fun s => ∃ k : Nat, s.2 = (k : Int) ∧ 1 ≤ k ∧ k ≤ W ∧ s.1.length = W ∧ s.1.take k = List.replicate k x) (fun _ o => o = some (List.replicate W x)) (fun rec s hI hr => ?_) n _ ⟨1, rfl, by omega, by omega, ?_, ?_⟩ (by simp; omega)
 ·obtain ⟨b, kk⟩ := s;obtain ⟨k, rfl, k1, k2, hb, hk⟩ := hI;simp only [] at hb hk;simp only [zF.l1];by_cases hlt : k < W
  ·have hcE : cut b (k : Int) (W : Int) = some (b.drop k) := by rw [← hb]; exact zi9 (by omega)
   have hc := zfL (l := b) (a := 0) (b := k) (by omega) (by omega)
   simp only [Int.natCast_zero] at hc;simp only [hb, zhq hlt, if_true, hcE, hc, ya, yD, List.drop_zero, Nat.sub_zero, hk, uh];rw [zdQ (by omega)];refine hr (_, ((k + min (W - k) k : Nat) : Int)) ⟨k + min (W - k) k, rfl, by omega, by omega, ?_, ?_⟩ (by simp only [yD]; omega)
   ·simp only [];rw [zcu (by omega) (by omega), hb]
   ·simp only [zcD, hk, List.take_replicate, uh];rw [show min (W - k) k = min (W - k) k from rfl, ← yE, List.replicate_append_replicate];rw [List.take_append_of_le_length (by simp)];simp
  ·have : k = W := by omega
   subst this;have hd : decide ((k : Int) < (b.length : Int)) = false := by rw [hb]; exact zft (yn _)
   simp only [hd, ye, if_false];rw [← hk, List.take_of_length_le (by omega)]
 ·rw [zcu (by omega) (by simp)]; simp
 ·simp [zcD, List.take_append];rw [List.take_of_length_le (l := [x]) (by simp; omega), show min W 1 = 1 by omega];simp
theorem zgJ (sizes : List Int) (s : Bool) : ∀ (l m : List Table), zQ sizes s (l ++ m) = zQ sizes s l ++ zQ sizes s m
 | [], _ => rfl
 | t :: l, m => by
  simp only [yZ, zQ, zgJ sizes s l m];split <;> simp
theorem zf4 {sizes : List Int} {s : Bool} {l : List Table} {i : Nat} (hi : i < l.length) : zQ sizes s (l.take (i + 1)) = if (zbM l[i].kind == s) = true then zQ sizes s (l.take i) ++ List.replicate (zaf sizes l[i].columns 1).toNat l[i].range else zQ sizes s (l.take i) := by
 rw [yF hi, zgJ];simp only [zQ];split <;> simp
theorem zfD {n : Nat} {sizes : List Int} {tables : List Table} {s : Bool} (hF : Fuel n) (hs : sizes.length ≤ 1000) (ht : tables.length ≤ 1000) (hc : ∀ t ∈ tables, t.columns.length ≤ 1000) :
  zbk n sizes tables s = some (if zbh sizes tables = true then zQ sizes s tables else []) := by
 have hn := hF.big;unfold zbk;rw [zev hF hs ht hc, ya];cases hL : zbh sizes tables with
 | false => simp
 | true =>
  obtain ⟨l1, l2, l3, l4⟩ := zbr hL;have := zI (body := zbk.l1 n sizes tables s) (len := tables.length) (st := fun i => (zQ sizes s (tables.take i), (i : Int))) (g := fun _ => some (zQ sizes s tables)) (fun rec i hi hr => ?_) (fun rec => ?_) n 0 (yo _) (by omega)
  ·simpa [zQ] using this
  ·obtain ⟨-, -, c1, c2, c3, c4⟩ := l4 _ (yk hi);have hlen := zcS (sizes := sizes) (s := s) (l := tables.take i) fun x hx => (l4 x (List.mem_of_mem_take hx)).2.2.2.2
   simp only [yL] at hlen;rw [zf4 hi] at hr;simp only [zbk.l1, jn, zi hi, if_true, za hi, ya, zbJ, zb (i := i) (by omega)];unfold zbM at hr;by_cases hk : ((tables[i].kind == 0 || tables[i].kind == 1) == s) = true
   ·rw [if_pos hk] at hr ⊢;rw [zex c2 (by omega) (by omega), ya, znc c3 c4 (by omega), ya, zp (by simp only [uh]; omega), ya, hr]
   ·rw [if_neg hk] at hr ⊢;rw [hr]
  ·simp [zbk.l1]
theorem zd6 {n : Nat} {sizes : List Int} {tables : List Table} {s : Bool} (hn : 1000000 ≤ n) (hs : sizes.length ≤ 1000) (ht : tables.length ≤ 1000) (hc : ∀ t ∈ tables, t.columns.length ≤ 1000 ∧ t.name.length ≤ 4096) :
  zaB n sizes tables s = some (if zbh sizes tables = true then zQ sizes s tables else []) := by
 unfold zaB;rw [zeC hn hs ht hc, ya];cases hL : zbh sizes tables with
 | false => simp
 | true =>
  obtain ⟨l1, l2, l3, l4⟩ := zbr hL;have := zI (body := zaB.l1 n sizes tables s) (len := tables.length) (st := fun i => (zQ sizes s (tables.take i), (i : Int))) (g := fun _ => some (zQ sizes s tables)) (fun rec i hi hr => ?_) (fun rec => ?_) n 0 (yo _) (by omega)
  ·simpa [zQ] using this
  ·obtain ⟨-, -, c1, c2, c3, c4⟩ := l4 _ (yk hi);have hlen := zcS (sizes := sizes) (s := s) (l := tables.take i) fun x hx => (l4 x (List.mem_of_mem_take hx)).2.2.2.2
   simp only [yL] at hlen;rw [zf4 hi] at hr;simp only [zaB.l1, zi hi, if_true];obtain ⟨W, hW⟩ := y7 (show 0 ≤ zaf sizes tables[i].columns 1 by omega);have hnum := zd7 (n := n) (sizes := sizes) (cols := tables[i].columns) (by omega) (by omega) (by omega) (by omega);simp only [l3, c2, c1, decide_true, uE, if_true] at hnum;have inner := zI (body := zaB.l2 n sizes tables s i rec) (len := if (zbM tables[i].kind == s) = true then W else 0) (st := fun k => (zQ sizes s (tables.take i) ++ List.replicate k tables[i].range, (k : Int))) (g := fun _ => some (zQ sizes s tables)) (fun rec' k hk hr' => ?_) (fun rec' => ?_) n 0 (yo _) (by split <;> omega)
   ·simpa using inner
   ·split at hk
    ·rename_i hst;simp only [zbM] at hst;simp only [zaB.l2, za hi, ya, zbE, hst, yj, yr, grd, if_true, yg, hnum, yA, hW, zhq hk, zb (i := k) (by omega)];rw [zp (by simp only [yI, uh, uF]; omega), ya, yE, ← List.replicate_succ', hr']
    ·omega
   ·by_cases hst : ((tables[i].kind == 0 || tables[i].kind == 1) == s) = true
    ·have hst' : (zbM tables[i].kind == s) = true := hst;rw [if_pos hst'] at hr ⊢;simp only [zaB.l2, za hi, ya, zbE, hst, yj, yr, grd, if_true, yg, hnum, yA, hW, zft (yn W), ye, if_false, zb (i := i) (by omega)];rw [hW] at hr;simpa using hr
    ·have hst' : ¬ (zbM tables[i].kind == s) = true := hst;rw [if_neg hst'] at hr ⊢;simp only [yz] at hst;simp only [zaB.l2, za hi, ya, zbE, hst, uA, uG, grd, if_true, yW, ye, if_false, zb (i := i) (by omega)];simpa using hr
  ·simp [zaB.l1]
def zbW (p : Int → Bool) (i : Nat) : Nat → List Int
 | 0 => []
 | m + 1 => if p (i : Int) = true then (i : Int) :: zbW p (i + 1) m else zbW p (i + 1) m
theorem zg7 (p : Int → Bool) : ∀ (m i : Nat), (zbW p i m).length ≤ m
 | 0, _ => yn _
 | m + 1, i => by
  simp only [zbW]; split
  ·simp only [yP]; exact Nat.succ_le_succ (zg7 p m (i + 1))
  ·exact Nat.le_succ_of_le (zg7 p m (i + 1))
theorem ziu (p : Int → Bool) : ∀ (m i : Nat), zbW p i (m + 1) = if p ((i + m : Nat) : Int) = true then zbW p i m ++ [((i + m : Nat) : Int)] else zbW p i m
 | 0, i => by simp [zbW]
 | m + 1, i => by
  have ih := ziu p m (i + 1);have e : i + 1 + m = i + (m + 1) := by omega
  rw [e] at ih;rw [zbW, ih]
  conv => rhs; simp only [zbW]
  split <;> split <;> simp
def zen (l : List Change) (c : Constraint) (k : Int) : Bool := decide (0 < zac l (add64 c.first k))
theorem zdT {n : Nat} {a : Action} {c : Constraint} {K : Nat} (hK : mul64 c.size c.size = (K : Int)) (h1 : a.effect.delta.length < 4611686018427387904) (h2 : a.effect.delta.length < n) (h3 : K < 17592186044416) (h4 : K < n) :
  zz n a c = some (zbW (zen a.effect.delta c) 0 K) := by
 have := zI (body := zz.l1 n a c) (len := K) (st := fun i => (zbW (zen a.effect.delta c) 0 i, (i : Int))) (g := fun _ => some (zbW (zen a.effect.delta c) 0 K)) (fun rec i hi hr => ?_) (fun rec => ?_) n 0 (yo _) (by omega)
 ·simpa [zz, zbW] using this
 ·rw [ziu] at hr;have hlen := zg7 (zen a.effect.delta c) i 0;have hd : decide ((i : Int) < mul64 c.size c.size) = true := by rw [hK]; simp; omega
  have happ : Go.Proofs.YtcagdmegicijlaaGreatDoor.app 8 (zbW (zen a.effect.delta c) 0 i) [(i : Int)] = some (zbW (zen a.effect.delta c) 0 i ++ [(i : Int)]) := by
   unfold Go.Proofs.YtcagdmegicijlaaGreatDoor.app; rw [if_pos (by simp only [uF]; omega)]
  simp only [zz.l1, hd, if_true, jn, z0 _ h1 h2, ya, zb (i := i) (by omega), happ];simp only [uy] at hr;by_cases hp : zen a.effect.delta c (i : Int) = true
  ·rw [if_pos hp] at hr;unfold zen at hp;rw [if_pos hp, hr]
  ·rw [if_neg hp] at hr;unfold zen at hp;rw [if_neg hp, hr]
 ·have hd : decide ((K : Int) < mul64 c.size c.size) = false := by rw [hK]; simp
  simp [zz.l1, hd]
theorem zjJ {n : Nat} {e : Effect} {c : Constraint} {K : Nat} (hK : mul64 c.size c.size = (K : Int)) (h1 : e.delta.length < 4611686018427387904) (h2 : e.delta.length < n) (h3 : K < 17592186044416) (h4 : K < n)
  (hadd : ∀ k, addP k e.delta 0 = zac e.delta k) : zbd n e c = some (decide (0 < (zbW (zen e.delta c) 0 K).length)) := by
 have := zI (body := zbd.l1 n e c) (len := K) (st := fun i => (i : Int)) (g := fun i => some (decide (0 < (zbW (zen e.delta c) i (K - i)).length))) (fun rec i hi hr => ?_) (fun rec => ?_) n 0 (yo _) (by omega)
 ·simpa [zbd] using this
 ·have hd : decide ((i : Int) < mul64 c.size c.size) = true := by rw [hK]; simp; omega
  simp only [zbd.l1, hd, if_true, zeo _ h1 h2, ya, zb (i := i) (by omega), hadd, hr];rw [show K - i = (K - (i + 1)) + 1 by omega, zbW];by_cases hp : zen e.delta c (i : Int) = true
  ·rw [if_pos hp]; unfold zen at hp; rw [if_pos hp]; simp
  ·rw [if_neg hp]; unfold zen at hp; rw [if_neg hp]
 ·have hd : decide ((K : Int) < mul64 c.size c.size) = false := by rw [hK]; simp
  simp [zbd.l1, hd, zbW]
structure Good (n : Nat) (m : Model) : Prop where
 acts : ∀ a ∈ m.actions, a.effect.delta.length < 4611686018427387904 ∧ a.effect.delta.length < n ∧ (∀ k, addP k a.effect.delta 0 = zac a.effect.delta k) ∧ ∀ r ∈ a.effect.hold, r.terms.length < 4611686018427387904 ∧ r.terms.length < n
 cons : ∀ c ∈ m.constraints, (c.kind = 0 ∨ c.kind = 1) ∧ c.row.terms.length < 4611686018427387904 ∧ c.row.terms.length < n ∧ ∃ K : Nat, mul64 c.size c.size = (K : Int) ∧ K < 17592186044416 ∧ K < n
theorem zhe {f g : Int → Int} (h : ∀ k, f k = g k) : ∀ (l : List Term) (s : Int), zcP f l s = zcP g l s
 | [], _ => rfl
 | t :: l, s => by simp only [zcP, h]; exact zhe h l _
theorem zfc {α : Type} {l : List α} {i : Int} {x : α} (h : idx l i = some x) : x ∈ l := by
 obtain ⟨n, rfl, hn, rfl⟩ := idxS h;exact yk hn
theorem zbf {α : Type} {l : List α} {i : Int} (h0 : 0 ≤ i) (h1 : i < (l.length : Int)) : ∃ x, idx l i = some x := by
 obtain ⟨n, rfl⟩ := y7 h0;exact ⟨_, za (by omega)⟩
def allR (p : Nat → Bool) (i : Nat) : Nat → Bool
 | 0 => true
 | k + 1 => p i && allR p (i + 1) k
theorem zmp {p : Nat → Bool} : ∀ {k i : Nat}, allR p i k = true ↔ ∀ j, i ≤ j → j < i + k → p j = true
 | 0, i => by simp [allR]; omega
 | k + 1, i => by
  simp only [allR, yc, zmp (k := k) (i := i + 1)];constructor
  ·rintro ⟨h1, h2⟩ j hj hk;by_cases e : j = i
   ·rw [e]; exact h1
   ·exact h2 j (by omega) (by omega)
  ·intro h;exact ⟨h i (yn _) (by omega), fun j hj hk => h j (by omega) (by omega)⟩
theorem zlp {p : Nat → Bool} {k : Nat} : allR p 0 k = true ↔ ∀ j, j < k → p j = true := by
 rw [zmp]; simp
theorem zfT {S R : Type} {body : (S → Option R) → S → Option R} {len n : Nat} {st : Nat → S} (p : Nat → Bool) (F T : Option R)
  (hb : ∀ rec i, i < len → body rec (st i) = if p i = true then rec (st (i + 1)) else F) (he : ∀ rec, body rec (st len) = T) (hn : len < n) : loopF body n (st 0) = if allR p 0 len = true then T else F := by
 have := zI (body := body) (len := len) (st := st) (g := fun i => if allR p i (len - i) = true then T else F) (fun rec i hi hr => ?_) (fun rec => ?_) n 0 (yo _) (by omega)
 ·simpa using this
 ·rw [hb rec i hi, show len - i = (len - (i + 1)) + 1 by omega, allR, hr];cases p i <;> simp
 ·rw [he]; simp [allR]
theorem zdB {n : Nat} {l : List Table} {f : Table → Option Bool} {p : Table → Bool} (hf : ∀ x ∈ l, f x = some (p x)) (hl : l.length < 1000000) (hn : 1000000 ≤ n) : zt n l f = some (ixP p l 0) := by
 have := zI (body := zt.l1 n l f) (len := l.length) (st := fun i => (i : Int)) (g := fun i => some (ixP p (l.drop i) i)) (fun rec i hi hr => ?_) (fun rec => ?_) n 0 (yo _) (by omega)
 ·simpa [zt] using this
 ·simp only [zt.l1, zi hi, if_true, za hi, ya, hf _ (yk hi), zb (i := i) (by omega), hr];rw [zo hi];simp only [ixP];split <;> rfl
 ·simp [zt.l1, ixP]
theorem zde {n : Nat} {l : List Table} {f : Table → Option Bool} {p : Table → Bool} (hf : ∀ x ∈ l, f x = some (p x)) (hl : l.length < 1000000) (hn : 1000000 ≤ n) : zJ n l f = some (l.any p) := by
 unfold zJ;rw [zdB hf hl hn, ya, zfN]
theorem zeu {n : Nat} {l : List Row} {f : Row → Option Bool} {p : Row → Bool} (hf : ∀ x ∈ l, f x = some (p x)) (hl : l.length < 1000000) (hn : 1000000 ≤ n) : zD n l f = some (ixP p l 0) := by
 have := zI (body := zD.l1 n l f) (len := l.length) (st := fun i => (i : Int)) (g := fun i => some (ixP p (l.drop i) i)) (fun rec i hi hr => ?_) (fun rec => ?_) n 0 (yo _) (by omega)
 ·simpa [zD] using this
 ·simp only [zD.l1, zi hi, if_true, za hi, ya, hf _ (yk hi), zb (i := i) (by omega), hr];rw [zo hi];simp only [ixP];split <;> rfl
 ·simp [zD.l1, ixP]
theorem zch {n : Nat} {l : List Row} {f : Row → Option Bool} {p : Row → Bool} (hf : ∀ x ∈ l, f x = some (p x)) (hl : l.length < 1000000) (hn : 1000000 ≤ n) : zl n l f = some (l.any p) := by
 unfold zl;rw [zeu hf hl hn, ya, zfN]
theorem zdP {n : Nat} {l : List Hide} {f : Hide → Option Bool} {p : Hide → Bool} (hf : ∀ x ∈ l, f x = some (p x)) (hl : l.length < 1000000) (hn : 1000000 ≤ n) : zx n l f = some (ixP p l 0) := by
 have := zI (body := zx.l1 n l f) (len := l.length) (st := fun i => (i : Int)) (g := fun i => some (ixP p (l.drop i) i)) (fun rec i hi hr => ?_) (fun rec => ?_) n 0 (yo _) (by omega)
 ·simpa [zx] using this
 ·simp only [zx.l1, zi hi, if_true, za hi, ya, hf _ (yk hi), zb (i := i) (by omega), hr];rw [zo hi];simp only [ixP];split <;> rfl
 ·simp [zx.l1, ixP]
theorem zdr {n : Nat} {l : List Hide} {f : Hide → Option Bool} {p : Hide → Bool} (hf : ∀ x ∈ l, f x = some (p x)) (hl : l.length < 1000000) (hn : 1000000 ≤ n) : zar n l f = some (l.any p) := by
 unfold zar;rw [zdP hf hl hn, ya, zfN]
def zaz (x most : Int) : Bool := decide (-most ≤ x) && decide (x ≤ most)
theorem around3 {n : Nat} {x : Int} : zau n x 1000 = some (zaz x 1000) := rfl
theorem around9 {n : Nat} {x : Int} : zau n x 1000000000 = some (zaz x 1000000000) := rfl
theorem around4 {n : Nat} {x : Int} : zau n x 9999 = some (zaz x 9999) := rfl
theorem between3 {n : Nat} {x : Int} : z9 n x 1000 = some (zaz x 1000) := rfl
theorem between9 {n : Nat} {x : Int} : z9 n x 1000000000 = some (zaz x 1000000000) := rfl
theorem between4 {n : Nat} {x : Int} : z9 n x 9999 = some (zaz x 9999) := rfl
def rowP (K : Nat) : Int → List Term → Bool
 | _, [] => true
 | last, t :: l => (decide (last < t.cell) && decide (t.cell < (K : Int)) && (t.factor != 0) && zaz t.factor 1000) && rowP K t.cell l
def rowOK (K : Nat) (r : Row) : Bool := rowP K (-1) r.terms && zaz r.bound 1000000000
theorem zgc {i : Nat} (h0 : 0 < i) (h : i < 4611686018427387904) : sub64 (i : Int) 1 = ((i - 1 : Nat) : Int) := by
 unfold sub64; rw [zcY (by omega) (by omega)]; omega
theorem zis {n : Nat} {j : Judge} {r : Row} (hl : r.terms.length < 1000000) (hn : 1000000 ≤ n) : zaq n j r = some (rowOK j.strict.length r) := by
 have := zby (body := zaq.l1 n j r) (len := r.terms.length) (st := fun (s : Int) i => (s, (i : Int))) (g := fun i s => some (rowP j.strict.length s (r.terms.drop i) && zaz r.bound 1000000000)) (fun _ _ => True) (fun rec i s hi _ hr => ?_) (fun rec s _ => ?_) n 0 (-1) (yo _) (by omega) trivial
 ·simpa [zaq, rowOK] using this
 ·simp only [zaq.l1, zi hi, if_true, za hi, ya, around3, yj, yr, grd, yg, zb (i := i) (by omega), hr r.terms[i].cell trivial];rw [zo hi, rowP];by_cases h : (decide (s < r.terms[i].cell) && decide (r.terms[i].cell < (j.strict.length : Int)) && (r.terms[i].factor != 0) && zaz r.terms[i].factor 1000) = true
  ·rw [h, yA];simp only [yc, yf, bne_iff_ne] at h;rw [if_neg (by simp [h.2, h.1.2]; omega)]
  ·rw [if_pos (by
    simp only [yc, yf, bne_iff_ne, ne_eq] at h;simp only [yv, yf, beq_iff_eq, yG, ← yz];by_cases ha : zaz r.terms[i].factor 1000 = true
    ·left; simp only [ha, and_true] at h; omega
    ·exact .inr ha)]
   simp only [yz] at h;rw [h]; rfl
 ·simp [zaq.l1, around9, rowP]
theorem zkC {n K : Nat} {r : Row} (hl : r.terms.length < 1000000) (hn : 1000000 ≤ n) : zbX n r (K : Int) = some (rowOK K r) := by
 have := zby (body := zbX.l1 n r (K : Int)) (len := r.terms.length) (st := fun (_ : Int) i => (i : Int)) (g := fun i s => some (rowP K s (r.terms.drop i) && zaz r.bound 1000000000)) (fun i s => -1 ≤ s ∧ ((i = 0 ∧ s = -1) ∨ (0 < i ∧ ∃ x, idx r.terms (sub64 (i : Int) 1) = some x ∧ x.cell = s))) (fun rec i s hi hI hr => ?_) (fun rec s _ => ?_) n 0 (-1) (yo _) (by omega) ⟨by omega, .inl ⟨rfl, rfl⟩⟩
 ·simpa [zbX, rowOK] using this
 ·obtain ⟨h1, h2⟩ := hI;have hprev : (decide (0 < (i : Int)) && decide (r.terms[i].cell ≤ ((idx r.terms (sub64 (i : Int) 1)).getD default).cell)) = (decide (0 < i) && decide (r.terms[i].cell ≤ s)) ∧ (!(decide (0 < (i : Int))) || (idx r.terms (sub64 (i : Int) 1)).isSome) = true := by
   rcases h2 with ⟨h2, h3⟩ | ⟨h2, x, h3, h4⟩
   ·subst h2; simp
   ·rw [h3]; simp [h4, h2]
  simp only [zbX.l1, zi hi, if_true, za hi, ya, between3, yj, yr, grd, yg, hprev.1, hprev.2, zb (i := i) (by omega)];rw [zo hi, rowP];by_cases h : (decide (s < r.terms[i].cell) && decide (r.terms[i].cell < (K : Int)) && (r.terms[i].factor != 0) && zaz r.terms[i].factor 1000) = true
  ·rw [h, yA];simp only [yc, yf, bne_iff_ne] at h;rw [if_neg (by simp [h.2, h.1.2]; omega), hr r.terms[i].cell ⟨by omega, .inr ⟨by omega, r.terms[i], by
    rw [zgc (by omega) (by omega), show i + 1 - 1 = i by omega, za hi], rfl⟩⟩]
  ·rw [if_pos (by
    simp only [yc, yf, bne_iff_ne, ne_eq] at h;simp only [yv, yc, yf, beq_iff_eq, yG, ← yz];by_cases ha : zaz r.terms[i].factor 1000 = true
    ·left; simp only [ha, and_true] at h;rcases h2 with ⟨h2, h3⟩ | ⟨h2, -⟩ <;> omega
    ·exact .inr ha)]
   simp only [yz] at h;rw [h]; rfl
 ·simp [zbX.l1, between9, rowP]
def zhk (sorts : List Int) (c : Constraint) (t : Table) : Bool := (t.kind == 0 && ((t.columns.length : Int) == 2)) && (((idx t.columns 0).getD default == (idx t.columns 1).getD default) && t.first == c.first && ((idx sorts ((idx t.columns 0).getD default)).getD default == c.size))
def zgE (m : Model) (c : Constraint) : Bool := (((c.row.terms.length : Int) == 0) && (c.row.bound == 0)) && m.tables.any (zhk m.sorts c)
theorem zgn {sorts : List Int} {t : Table} (hc : t.columns.all (colOK sorts) = true) (h2 : (t.columns.length : Int) = 2) : (∃ x, idx t.columns 0 = some x) ∧ (∃ x, idx t.columns 1 = some x) ∧ ∃ x, idx sorts ((idx t.columns 0).getD default) = some x := by
 obtain ⟨x, hx⟩ := zbf (l := t.columns) (i := 0) (by omega) (by omega);obtain ⟨y, hy⟩ := zbf (l := t.columns) (i := 1) (by omega) (by omega);refine ⟨⟨x, hx⟩, ⟨y, hy⟩, ?_⟩;rw [hx];exact ⟨_, zfb (yp.1 hc x (zfc hx))⟩
theorem zmZ {n : Nat} {j : Judge} {c : Constraint} {t : Table} (hc : t.columns.all (colOK j.model.sorts) = true) : za6 n t c j = some (zhk j.model.sorts c t) := by
 unfold za6 zhk;by_cases h2 : (t.kind == 0 && ((t.columns.length : Int) == 2)) = true
 ·have h2' := h2;simp only [yc, beq_iff_eq] at h2';obtain ⟨⟨x, hx⟩, ⟨y, hy⟩, z, hz⟩ := zgn hc h2'.2;rw [hx] at hz;simp only [yg] at hz;simp [h2, hx, hy, hz, grd, Bool.and_assoc]
 ·simp only [yz] at h2;simp [h2, grd]
theorem zj0 {n : Nat} {j : Judge} {c : Constraint} (hc : ∀ t ∈ j.model.tables, t.columns.all (colOK j.model.sorts) = true) (hl : j.model.tables.length < 1000000) (hn : 1000000 ≤ n) : zbo n j c = some (zgE j.model c) := by
 unfold zbo zgE;rw [zde (p := zhk j.model.sorts c) (fun t ht => zmZ (hc t ht)) hl hn];simp [grd]
theorem zlT {n : Nat} {m : Model} {c : Constraint} (hc : ∀ t ∈ m.tables, t.columns.all (colOK m.sorts) = true) (hl : m.tables.length < 1000000) (hn : 1000000 ≤ n) : zbi n m c = some (zgE m c) := by
 unfold zbi zgE;by_cases h : (((c.row.terms.length : Int) == 0) && (c.row.bound == 0)) = true
 ·rw [h, yA];simp only [yc, beq_iff_eq] at h;rw [if_neg (by rw [h.1, h.2]; decide)];have := zI (body := zbi.l1 n m c) (len := m.tables.length) (st := fun i => (i : Int)) (g := fun i => some ((m.tables.drop i).any (zhk m.sorts c))) (fun rec i hi hr => ?_) (fun rec => ?_) n 0 (yo _) (by omega)
  ·simpa using this
  ·simp only [zbi.l1, zi hi, if_true, za hi, ya, zb (i := i) (by omega), hr];rw [zo hi, uQ];have hcol := hc _ (yk hi);by_cases h2 : (m.tables[i].kind == 0 && ((m.tables[i].columns.length : Int) == 2)) = true
   ·have h2' := h2;simp only [yc, beq_iff_eq] at h2';obtain ⟨⟨x, hx⟩, ⟨y, hy⟩, z, hz⟩ := zgn hcol h2'.2;rw [hx] at hz;simp only [yg] at hz;simp only [h2, hx, hy, hz, grd, yj, yr, if_true, yg, yA, zhk];cases (x == y && m.tables[i].first == c.first && z == c.size) <;> simp
   ·simp only [yz] at h2;simp [h2, grd, zhk]
  ·simp [zbi.l1]
 ·simp only [yz] at h;rw [h, yW, if_pos (by
   simp only [ug, y6] at h;simp only [yv, yf, bne_iff_ne]; omega)]
theorem zli {n : Nat} {a b : List Term} (hl : a.length < 1000000) (hn : 1000000 ≤ n) : zH n a b = some (decide (a = b)) := by
 unfold zH;by_cases h : a.length = b.length
 ·rw [if_neg (by simp [h])];have := zI (body := zH.l1 n a b) (len := a.length) (st := fun i => (i : Int)) (g := fun i => some (decide (a.drop i = b.drop i))) (fun rec i hi hr => ?_) (fun rec => ?_) n 0 (yo _) (by omega)
  ·simpa using this
  ·have hib : i < b.length := by omega
   simp only [zH.l1, zi hi, if_true, za hi, za hib, ya, zb (i := i) (by omega), hr];rw [zo hi, zo hib];by_cases e : a[i] = b[i]
   ·simp only [e, decide_true, yT, ye, if_false, List.cons.injEq, true_and]
   ·simp only [e, decide_false, uA, if_true, List.cons.injEq, false_and]
  ·simp [zH.l1, h]
 ·rw [if_pos (by simp; omega)];have : ¬ a = b := fun e => h (by rw [e])
  simp [this]
theorem zlm {n : Nat} {a b : List Term} (hl : a.length < 1000000) (hn : 1000000 ≤ n) : zaC n a b = some (decide (a = b)) := by
 unfold zaC;by_cases h : a.length = b.length
 ·rw [if_neg (by simp [h])];have := zI (body := zaC.l1 n a b) (len := a.length) (st := fun i => (i : Int)) (g := fun i => some (decide (a.drop i = b.drop i))) (fun rec i hi hr => ?_) (fun rec => ?_) n 0 (yo _) (by omega)
  ·simpa using this
  ·have hib : i < b.length := by omega
   simp only [zaC.l1, zi hi, if_true, za hi, za hib, ya, zb (i := i) (by omega), hr];rw [zo hi, zo hib];by_cases e : a[i] = b[i]
   ·simp only [e, decide_true, yT, ye, if_false, List.cons.injEq, true_and]
   ·simp only [e, decide_false, uA, if_true, List.cons.injEq, false_and]
  ·simp [zaC.l1, h]
 ·rw [if_pos (by simp; omega)];have : ¬ a = b := fun e => h (by rw [e])
  simp [this]
theorem znI {n : Nat} {r : Row} {c f b : Int} (hl : r.terms.length < 1000000) (hn : 1000000 ≤ n) : zcX n r c f b = some (decide (r = (⟨[⟨c, f⟩], b⟩ : Row))) := by
 unfold zcX;rw [zli hl hn, ya];congr 1;rw [Bool.eq_iff_iff];cases r;simp
theorem zkq {n : Nat} {a b : Row} (hl : a.terms.length < 1000000) (hn : 1000000 ≤ n) : zb7 n a b = some (decide (a = b)) := by
 unfold zb7;rw [zlm hl hn];simp only [yj, yr, grd, if_true, yg];congr 1;rw [Bool.eq_iff_iff];cases a; cases b;simp [and_comm]
structure SmallM (m : Model) : Prop where
 sorts : m.sorts.length ≤ 8
 tables : m.tables.length ≤ 6
 tab : ∀ t ∈ m.tables, t.name.length ≤ 40 ∧ t.columns.length ≤ 12
 families : m.families.length ≤ 20
 fam : ∀ s ∈ m.families, s.length ≤ 40
 constraints : m.constraints.length ≤ 60
 con : ∀ c ∈ m.constraints, c.row.terms.length ≤ 20
 operations : m.operations.length ≤ 8
 op : ∀ o ∈ m.operations, o.name.length ≤ 40 ∧ o.sorts.length ≤ 6
 actions : m.actions.length ≤ 30
 act : ∀ a ∈ m.actions, a.arguments.length ≤ 6 ∧ a.effect.delta.length ≤ 20 ∧ a.effect.hold.length ≤ 10 ∧ a.effect.updates.length ≤ 40 ∧ ∀ r ∈ a.effect.hold, r.terms.length ≤ 20
 hides : m.hides.length ≤ 12
def zcL (l : List Range) (i : Nat) : Row := ⟨[⟨((i / 2 : Nat) : Int), if i % 2 = 0 then -1 else 1⟩], if i % 2 = 0 then neg64 ((idx l ((i / 2 : Nat) : Int)).getD default).lo else ((idx l ((i / 2 : Nat) : Int)).getD default).hi⟩
def famP (m : Model) (c : Constraint) : Bool := decide (0 ≤ c.family) && decide (c.family < (m.families.length : Int))
def zd4 (K : Nat) (c : Constraint) : Bool := (((c.kind == 0) && (c.first == 0)) && (c.size == 0)) && rowOK K c.row
def acyP (m : Model) (c : Constraint) : Bool := c.kind == 1 && zgE m c
def conP (m : Model) (l : List Range) (i : Nat) (c : Constraint) : Bool := famP m c && (zd4 l.length c || acyP m c) && (!decide (i / 2 < l.length) || (c.kind == 0 && decide (c.row = zcL l i)))
def consP (m : Model) (l : List Range) : Bool := decide (m.constraints.length ≤ 512) && decide (2 * l.length ≤ m.constraints.length) && allR (fun i => conP m l i ((idx m.constraints (i : Int)).getD default)) 0 m.constraints.length
theorem quo2 {i : Nat} (h : i < 1000000) : quo64 (i : Int) 2 = some ((i / 2 : Nat) : Int) := by
 unfold quo64;rw [if_neg (by decide), Int.tdiv_eq_ediv_of_nonneg (by omega), zcY (by omega) (by omega)];congr 1
theorem rem2 {i : Nat} : rem64 (i : Int) 2 = some ((i % 2 : Nat) : Int) := by
 unfold rem64;rw [if_neg (by decide), Int.tmod_eq_emod_of_nonneg (by omega)];congr 1
theorem mul2 {i : Nat} (h : i < 1000000) : mul64 2 (i : Int) = ((2 * i : Nat) : Int) := by
 unfold mul64;rw [zcY (by omega) (by omega)]; omega
theorem zgt {n : Nat} {m : Model} {l : List Range} (hS : SmallM m) (hc : ∀ t ∈ m.tables, t.columns.all (colOK m.sorts) = true) (hK : l.length < 100000) (hn : 1000000 ≤ n) : zU n ⟨m, l⟩ = some (consP m l) := by
 have hcl := hS.constraints;have htl := hS.tables;unfold zU consP;simp only [mul2 (show l.length < 1000000 by omega)];by_cases h0 : (decide (m.constraints.length ≤ 512) && decide (2 * l.length ≤ m.constraints.length)) = true
 ·rw [h0, yA];simp only [yc, yf] at h0;rw [if_neg (by simp; omega)];have := zfT (body := zU.l1 n ⟨m, l⟩) (len := m.constraints.length) (n := n) (st := fun i => (i : Int)) (fun i => conP m l i ((idx m.constraints (i : Int)).getD default)) (some false) (some true) (fun rec i hi => ?_) (fun rec => ?_) (by omega)
  ·simp only [Int.natCast_zero] at this;rw [this];cases allR (fun i => conP m l i ((idx m.constraints (i : Int)).getD default)) 0 m.constraints.length <;> rfl
  ·have hterms := hS.con _ (yk hi);simp only [zU.l1, jn, zi hi, if_true, za hi, ya, zad, yg, zis (j := ⟨m, l⟩) (r := m.constraints[i].row) (show m.constraints[i].row.terms.length < 1000000 by omega) hn, zj0 (j := ⟨m, l⟩) (c := m.constraints[i]) hc (show m.tables.length < 1000000 by omega) hn, yj, yr, grd, quo2 (show i < 1000000 by omega), rem2, znI (r := m.constraints[i].row) (show m.constraints[i].row.terms.length < 1000000 by omega) hn, zb (i := i) (by omega)];have hfam : (decide (0 ≤ m.constraints[i].family) && decide (m.constraints[i].family < (m.families.length : Int))) = famP m m.constraints[i] := rfl;rw [hfam];cases hf : famP m m.constraints[i] with
   | false => simp [conP, hf]
   | true =>
    simp only [yT, ye, if_false];have hrest : ∀ (X : Bool), X = (zd4 l.length m.constraints[i] || acyP m m.constraints[i]) →
      (if X = true then (if decide (((i / 2 : Nat) : Int) < (l.length : Int)) = true then (idx l ((i / 2 : Nat) : Int)).bind fun x81 => (if (((i % 2 : Nat) : Int) == 0) = true then (if (m.constraints[i].kind != 0 || !decide (m.constraints[i].row = (⟨[⟨((i / 2 : Nat) : Int), -1⟩], neg64 x81.lo⟩ : Row))) = true then some false else rec ((i + 1 : Nat) : Int)) else (if (m.constraints[i].kind != 0 || !decide (m.constraints[i].row = (⟨[⟨((i / 2 : Nat) : Int), 1⟩], x81.hi⟩ : Row))) = true then some false else rec ((i + 1 : Nat) : Int))) else rec ((i + 1 : Nat) : Int)) else some false) = if conP m l i m.constraints[i] = true then rec ((i + 1 : Nat) : Int) else some false := by
     intro X hX;unfold conP;rw [hf, ← hX];cases X with
     | false => simp
     | true =>
      simp only [if_true, yA];by_cases hlt : i / 2 < l.length
      ·rw [if_pos (zhq hlt), za hlt, ya];simp only [hlt, decide_true, yT, uj, zcL, za hlt, yg];by_cases hm : i % 2 = 0
       ·rw [if_pos (by simp [hm])];simp only [hm, if_true];cases hkk : (m.constraints[i].kind == 0) <;> simp [bne, hkk]
       ·rw [if_neg (by simp; omega)];simp only [hm, if_false];cases hkk : (m.constraints[i].kind == 0) <;> simp [bne, hkk]
      ·rw [if_neg (by rw [zft (by omega)]; simp)];simp [hlt]
    by_cases hk : m.constraints[i].kind = 0
    ·rw [if_pos (by simp [hk])];have hX : (zd4 l.length m.constraints[i] || acyP m m.constraints[i]) = ((m.constraints[i].first == 0 && m.constraints[i].size == 0) && rowOK l.length m.constraints[i].row) := by
      simp [zd4, acyP, hk]
     rw [← hrest _ hX.symm];cases h1 : (m.constraints[i].first == 0) <;> cases h2 : (m.constraints[i].size == 0) <;> cases h3 : rowOK l.length m.constraints[i].row <;> simp [bne, h1, h2]
    ·rw [if_neg (by simp [hk])];have hX : (zd4 l.length m.constraints[i] || acyP m m.constraints[i]) = (m.constraints[i].kind == 1 && zgE m m.constraints[i]) := by
      simp [zd4, acyP, hk]
     rw [← hrest _ hX.symm];cases h1 : (m.constraints[i].kind == 1) <;> cases h3 : zgE m m.constraints[i] <;> simp [bne, h1]
  ·simp [zU.l1]
 ·rw [if_pos (by
   simp only [yc, yf] at h0;simp only [yv, yf]; omega)]
  simp only [yz] at h0;rw [h0, yW]
theorem znj {m : Model} {l : List Range} (h2 : 2 * l.length ≤ m.constraints.length) :
  allR (fun i => conP m l i ((idx m.constraints (i : Int)).getD default)) 0 m.constraints.length = (allR (fun i => decide (((idx m.constraints ((2 * i : Nat) : Int)).getD default).row = zcL l (2 * i)) && decide (((idx m.constraints ((2 * i + 1 : Nat) : Int)).getD default).row = zcL l (2 * i + 1))) 0 l.length
   && allR (fun i => famP m ((idx m.constraints (i : Int)).getD default) && (zd4 l.length ((idx m.constraints (i : Int)).getD default) || (decide (2 * l.length ≤ i) && acyP m ((idx m.constraints (i : Int)).getD default)))) 0 m.constraints.length) := by
 rw [Bool.eq_iff_iff, yc, zlp, zlp, zlp];constructor
 ·intro h;refine ⟨fun j hj => ?_, fun i hi => ?_⟩
  ·have ha := h (2 * j) (by omega);have hb := h (2 * j + 1) (by omega);simp only [conP, yc, yv, yG, yH, yf] at ha hb ⊢;rcases ha.2 with e | e
   ·omega
   rcases hb.2 with f | f
   ·omega
   exact ⟨e.2, f.2⟩
  ·have ha := h i hi;simp only [conP, yc, yv, yG, yH, yf] at ha ⊢;refine ⟨ha.1.1, ?_⟩;rcases ha.1.2 with e | e
   ·exact .inl e
   ·refine .inr ⟨?_, e⟩;rcases ha.2 with f | f
    ·omega
    ·simp only [acyP, yc, beq_iff_eq] at e;have := f.1;simp only [beq_iff_eq] at this;omega
 ·rintro ⟨ha, hb⟩ i hi;have hb := hb i hi;simp only [conP, yc, yv, yG, yH, yf] at hb ⊢;refine ⟨⟨hb.1, hb.2.imp id (·.2)⟩, ?_⟩;by_cases hlt : i / 2 < l.length
  ·right;have ha := ha (i / 2) hlt;simp only [yc, yf] at ha;rcases hb.2 with e | e
   ·refine ⟨?_, ?_⟩
    ·simp only [zd4, yc] at e; exact e.1.1.1
    ·by_cases hm : i % 2 = 0
     ·have := ha.1
      rwa [show 2 * (i / 2) = i by omega] at this
     ·have := ha.2
      rwa [show 2 * (i / 2) + 1 = i by omega] at this
   ·omega
  ·exact .inl hlt
theorem zgv {n : Nat} {m : Model} (hS : SmallM m) (hL : zbh m.sorts m.tables = true) (hn : 1000000 ≤ n) : zL n m = some (consP m (zQ m.sorts true m.tables)) := by
 have hcl := hS.constraints;have htl := hS.tables;have hsl := hS.sorts;obtain ⟨l1, l2, l3, l4⟩ := zbr hL;have hlen := zcS (sizes := m.sorts) (s := true) (l := m.tables) fun x hx => (l4 x hx).2.2.2.2
 unfold zL zb2 consP;rw [zd6 hn (by omega) (by omega) (fun t ht => by have := hS.tab t ht; omega), hL, if_pos rfl];generalize zQ m.sorts true m.tables = l at hlen;simp only [ya, mul2 (show l.length < 1000000 by omega)];by_cases h0 : (decide (m.constraints.length ≤ 512) && decide (2 * l.length ≤ m.constraints.length)) = true
 ·rw [h0, yA];simp only [yc, yf] at h0;rw [if_neg (by simp; omega), znj h0.2];have first := zfT (body := zL.l1 n m l) (len := l.length) (n := n) (st := fun i => (i : Int)) (fun i => decide (((idx m.constraints ((2 * i : Nat) : Int)).getD default).row = zcL l (2 * i)) && decide (((idx m.constraints ((2 * i + 1 : Nat) : Int)).getD default).row = zcL l (2 * i + 1))) (some false) (loopF (zL.l2 n m l) n 0) (fun rec i hi => ?_) (fun rec => ?_) (by omega)
  ·simp only [Int.natCast_zero] at first
   rw [first];have second := zfT (body := zL.l2 n m l) (len := m.constraints.length) (n := n) (st := fun i => (i : Int)) (fun i => famP m ((idx m.constraints (i : Int)).getD default) && (zd4 l.length ((idx m.constraints (i : Int)).getD default) || (decide (2 * l.length ≤ i) && acyP m ((idx m.constraints (i : Int)).getD default)))) (some false) (some true) (fun rec i hi => ?_) (fun rec => ?_) (by omega)
   ·simp only [Int.natCast_zero] at second;rw [second];cases allR (fun i => decide (((idx m.constraints ((2 * i : Nat) : Int)).getD default).row = zcL l (2 * i)) && decide (((idx m.constraints ((2 * i + 1 : Nat) : Int)).getD default).row = zcL l (2 * i + 1))) 0 l.length <;> cases allR (fun i => famP m ((idx m.constraints (i : Int)).getD default) && (zd4 l.length ((idx m.constraints (i : Int)).getD default) || (decide (2 * l.length ≤ i) && acyP m ((idx m.constraints (i : Int)).getD default)))) 0 m.constraints.length <;> rfl
   ·have hterms := hS.con _ (yk hi);have hd : decide (mul64 2 (l.length : Int) ≤ (i : Int)) = decide (2 * l.length ≤ i) := by rw [mul2 (by omega)]; exact decide_eq_decide.2 (by omega)
    simp only [zL.l2, zi hi, if_true, za hi, ya, yg, zkC (r := m.constraints[i].row) (show m.constraints[i].row.terms.length < 1000000 by omega) hn, zlT (m := m) (c := m.constraints[i]) (fun t ht => (l4 t ht).2.2.2.1) (show m.tables.length < 1000000 by omega) hn, yj, yr, grd, zb (i := i) (by omega), hd];have hfam : (decide (m.constraints[i].family < 0) || decide ((m.families.length : Int) ≤ m.constraints[i].family)) = !famP m m.constraints[i] := by
     unfold famP;rw [Bool.not_and, ← decide_not, ← decide_not];congr 1
     ·exact decide_eq_decide.2 (by omega)
     ·exact decide_eq_decide.2 (by omega)
    rw [hfam];cases famP m m.constraints[i] with
    | false => simp
    | true =>
     have hp : ((((m.constraints[i].kind == 0) && (m.constraints[i].first == 0)) && (m.constraints[i].size == 0)) && rowOK l.length m.constraints[i].row) = zd4 l.length m.constraints[i] := rfl;rw [hp];unfold acyP;cases zd4 l.length m.constraints[i] <;> cases decide (2 * l.length ≤ i) <;> cases (m.constraints[i].kind == 1) <;> cases zgE m m.constraints[i] <;> simp
   ·simp [zL.l2]
  ·have h2i : 2 * i < m.constraints.length := by omega
   have h2j : 2 * i + 1 < m.constraints.length := by omega
   have t1 := hS.con _ (yk h2i);have t2 := hS.con _ (yk h2j);have e1 : zcL l (2 * i) = ⟨[⟨(i : Int), -1⟩], neg64 l[i].lo⟩ := by
    unfold zcL;rw [show 2 * i / 2 = i by omega, if_pos (by omega), if_pos (by omega), za hi]; rfl
   have e2 : zcL l (2 * i + 1) = ⟨[⟨(i : Int), 1⟩], l[i].hi⟩ := by
    unfold zcL;rw [show (2 * i + 1) / 2 = i by omega, if_neg (by omega), if_neg (by omega), za hi]; rfl
   have hadd : add64 ((2 * i : Nat) : Int) 1 = ((2 * i + 1 : Nat) : Int) := zb (by omega);simp only [zL.l1, zi hi, if_true, za hi, mul2 (show i < 1000000 by omega), za h2i, hadd, za h2j, ya, yg, zkq (show m.constraints[2 * i].row.terms.length < 1000000 by omega) hn, zkq (show m.constraints[2 * i + 1].row.terms.length < 1000000 by omega) hn, yj, yr, grd, zb (i := i) (by omega), e1, e2];cases decide (m.constraints[2 * i].row = ⟨[⟨(i : Int), -1⟩], neg64 l[i].lo⟩) <;> cases decide (m.constraints[2 * i + 1].row = ⟨[⟨(i : Int), 1⟩], l[i].hi⟩) <;> simp
  ·simp [zL.l1]
 ·rw [if_pos (by
   simp only [yc, yf] at h0;simp only [yv, yf]; omega)]
  simp only [yz] at h0;rw [h0, yW]
theorem zam {α S R : Type} {body : (S → Option R) → S → Option R} {l : List α} {n : Nat} {st : Nat → S} (p : α → Bool) (F T : Option R)
  (hb : ∀ rec i (hi : i < l.length), body rec (st i) = if p l[i] = true then rec (st (i + 1)) else F) (he : ∀ rec, body rec (st l.length) = T) (hn : l.length < n) : loopF body n (st 0) = if l.all p = true then T else F := by
 have := zI (body := body) (len := l.length) (st := st) (g := fun i => if (l.drop i).all p = true then T else F) (fun rec i hi hr => ?_) (fun rec => ?_) n 0 (yo _) (by omega)
 ·simpa using this
 ·rw [hb rec i hi, zo hi, uw, hr];cases p l[i] <;> simp
 ·rw [he]; simp
def zcp (sizes : List Int) (c : Int) : Int := sizes.getD c.toNat 0
def digR (sizes : List Int) : List Int → Int → List Int
 | [], _ => []
 | c :: l, k => k.tmod (zcp sizes c) :: digR sizes l (w64 (k.tdiv (zcp sizes c)))
def zmN (sizes cols : List Int) (k : Int) : List Int := (digR sizes cols.reverse k).reverse
theorem zhE {sizes : List Int} (hs : sizes.all zcc = true) {c : Int} (hc : colOK sizes c = true) : 1 ≤ zcp sizes c ∧ zcp sizes c ≤ 6 := by
 simp only [colOK, yc, yf] at hc;obtain ⟨k, rfl⟩ := y7 hc.1;have hk : k < sizes.length := by omega
 have hz := yp.1 hs _ (yk hk);simp only [zcc, yc, yf] at hz;have hg : zcp sizes (k : Int) = sizes[k] := by simp [zcp, List.getD, hk]
 rw [hg]; exact hz
theorem znK {r : Nat} {done : List Int} {x : Int} : sto (List.replicate (r + 1) 0 ++ done) (r : Int) x = some (List.replicate r 0 ++ x :: done) := by
 unfold sto;rw [if_pos (by simp; omega)];simp only [yD, yh];rw [List.replicate_succ', yE, List.set_append_right _ _ (by simp)];simp
theorem znp {r : Nat} {done : List Int} : ∃ x, idx (List.replicate (r + 1) 0 ++ done) (r : Int) = some x := ⟨_, za (by simp; omega)⟩
theorem zmM {α : Type} {l : List α} {r : Nat} (h : r < l.length) : (l.take (r + 1)).reverse = l[r] :: (l.take r).reverse := by
 rw [yF h]; simp
theorem zim {n : Nat} {sizes : List Int} {t : Table} {i : Int} (hs : sizes.all zcc = true) (hc : t.columns.all (colOK sizes) = true) (hl : t.columns.length < 1000000) : ∀ (m r : Nat) (done : List Int) (k : Int), r < m → r ≤ t.columns.length →
  loopF (zaU.l2 n sizes i t) m (List.replicate r 0 ++ done, k, (r : Int) - 1) = some (i, (digR sizes (t.columns.take r).reverse k).reverse ++ done, true)
 | 0, _, _, _, h, _ => by omega
 | m + 1, 0, done, k, _, _ => by simp [loopF, zaU.l2, digR]
 | m + 1, r + 1, done, k, h, hr => by
  have hrl : r < t.columns.length := by omega
  have hcol := yp.1 hc _ (yk hrl);have hsz := zhE hs hcol;have e : (((r + 1 : Nat) : Int)) - 1 = (r : Int) := by omega
  obtain ⟨x, hx⟩ := znp (r := r) (done := done);have hrem : rem64 k (zcp sizes t.columns[r]) = some (k.tmod (zcp sizes t.columns[r])) := by unfold rem64; rw [if_neg (by omega)]
  have hquo : quo64 k (zcp sizes t.columns[r]) = some (w64 (k.tdiv (zcp sizes t.columns[r]))) := by unfold quo64; rw [if_neg (by omega)]
  have hcs := zfb hcol;have hsub : sub64 (r : Int) 1 = (r : Int) - 1 := by unfold sub64; rw [zcY (by omega) (by omega)]
  have hd : decide (0 ≤ (r : Int)) = true := by simp
  unfold zcp at hrem hquo;simp only [loopF, zaU.l2, e, hd, if_true, za hrl, hcs, hrem, hquo, hx, znK, ya, hsub];rw [zim hs hc hl m r _ _ (by omega) (by omega), zmM hrl];simp only [digR, zcp, List.reverse_cons, yE, List.singleton_append]
theorem zkB {n : Nat} {sizes cols : List Int} (hs : sizes.all zcc = true) (hc : cols.all (colOK sizes) = true) (hl : cols.length < 1000000) : ∀ (m r : Nat) (done : List Int) (k : Int), r < m → r ≤ cols.length →
  loopF (zc8.l1 n sizes cols) m (List.replicate r 0 ++ done, k, (r : Int) - 1) = some ((digR sizes (cols.take r).reverse k).reverse ++ done)
 | 0, _, _, _, h, _ => by omega
 | m + 1, 0, done, k, _, _ => by simp [loopF, zc8.l1, digR]
 | m + 1, r + 1, done, k, h, hr => by
  have hrl : r < cols.length := by omega
  have hcol := yp.1 hc _ (yk hrl);have hsz := zhE hs hcol;have e : (((r + 1 : Nat) : Int)) - 1 = (r : Int) := by omega
  obtain ⟨x, hx⟩ := znp (r := r) (done := done);have hrem : rem64 k (zcp sizes cols[r]) = some (k.tmod (zcp sizes cols[r])) := by unfold rem64; rw [if_neg (by omega)]
  have hquo : quo64 k (zcp sizes cols[r]) = some (w64 (k.tdiv (zcp sizes cols[r]))) := by unfold quo64; rw [if_neg (by omega)]
  have hcs := zfb hcol;have hsub : sub64 (r : Int) 1 = (r : Int) - 1 := by unfold sub64; rw [zcY (by omega) (by omega)]
  have hd : decide (0 ≤ (r : Int)) = true := by simp
  unfold zcp at hrem hquo;simp only [loopF, zc8.l1, e, hd, if_true, za hrl, hcs, hrem, hquo, hx, znK, ya, hsub];rw [zkB hs hc hl m r _ _ (by omega) (by omega), zmM hrl];simp only [digR, zcp, List.reverse_cons, yE, List.singleton_append]
theorem mkl_0 {b k : Nat} (h : k * b ≤ 140737488355328) : mkl b (k : Int) (0 : Int) = some (List.replicate k 0) := by
 have e : ((k * b : Nat) : Int) = (k : Int) * (b : Int) := y8 k b;unfold mkl; rw [if_pos ⟨by omega, by omega⟩]; simp
theorem zl3 {k : Nat} (h : k < 1000000) : sub64 (k : Int) 1 = (k : Int) - 1 := by
 unfold sub64; rw [zcY (by omega) (by omega)]
theorem zlH {n : Nat} {sizes cols : List Int} {k : Int} (hs : sizes.all zcc = true) (hc : cols.all (colOK sizes) = true) (hl : cols.length ≤ 1000) (hn : 1000000 ≤ n) : zc8 n sizes cols k = some (zmN sizes cols k) := by
 unfold zc8;rw [mkl_0 (by omega), ya, zl3 (by omega)];have := zkB (n := n) hs hc (by omega) n cols.length [] k (by omega) (yn _);simpa [zmN] using this
def hitP (sizes : List Int) (s : Bool) (cell : Int) (t : Table) : Bool := (zbM t.kind == s) && (decide (0 ≤ sub64 cell t.first) && decide (sub64 cell t.first < zaf sizes t.columns 1))
def resT (sizes : List Int) (s : Bool) (cell : Int) : List Table → Nat → Int × List Int × Bool
 | [], _ => (0, [], false)
 | t :: l, i => if hitP sizes s cell t = true then ((i : Int), zmN sizes t.columns (sub64 cell t.first), true) else resT sizes s cell l (i + 1)
def cellP (sizes : List Int) (tables : List Table) (s : Bool) (cell : Int) : Int × List Int × Bool := if (zbh sizes tables && decide (0 ≤ cell)) = true then resT sizes s cell tables 0 else (0, [], false)
theorem zjS {n : Nat} {sizes : List Int} {tables : List Table} {s : Bool} {cell : Int} (hF : Fuel n) (hs : sizes.length ≤ 1000) (ht : tables.length ≤ 1000) (hc : ∀ t ∈ tables, t.columns.length ≤ 1000) : zaU n sizes tables s cell = some (cellP sizes tables s cell) := by
 have hn := hF.big;unfold zaU cellP;rw [zev hF hs ht hc, ya];cases hL : zbh sizes tables with
 | false => simp
 | true =>
  obtain ⟨l1, l2, l3, l4⟩ := zbr hL;by_cases h0 : 0 ≤ cell
  ·rw [if_neg (by simp; omega), if_pos (by simp [h0])];have := zI (body := zaU.l1 n sizes tables s cell) (len := tables.length) (st := fun i => (i : Int)) (g := fun i => some (resT sizes s cell (tables.drop i) i)) (fun rec i hi hr => ?_) (fun rec => ?_) n 0 (yo _) (by omega)
   ·simpa using this
   ·obtain ⟨-, -, c1, c2, c3, c4⟩ := l4 _ (yk hi);simp only [zaU.l1, zi hi, if_true, za hi, ya, zbJ, zex c2 (show tables[i].columns.length < 4611686018427387904 by omega) (show tables[i].columns.length < n by omega), yj, yr, grd, yg, zb (i := i) (by omega), hr, mkl_0 (b := 8) (k := tables[i].columns.length) (by omega), uh, zl3 (show tables[i].columns.length < 1000000 by omega)];have hdig := zim (n := n) (i := (i : Int)) l3 c2 (by omega) n tables[i].columns.length [] (sub64 cell tables[i].first) (by omega) (yn _);simp only [y0, List.take_length] at hdig;rw [hdig, zo hi, resT];have hh : (((tables[i].kind == 0 || tables[i].kind == 1) != s || decide (sub64 cell tables[i].first < 0)) || decide (zaf sizes tables[i].columns 1 ≤ sub64 cell tables[i].first)) = !hitP sizes s cell tables[i] := by
     unfold hitP zbM;rw [Bool.not_and, Bool.not_and, ← decide_not, ← decide_not, Bool.or_assoc];congr 1;congr 1
     ·exact decide_eq_decide.2 (by omega)
     ·exact decide_eq_decide.2 (by omega)
    rw [hh];cases hitP sizes s cell tables[i] <;> simp [zmN]
   ·simp [zaU.l1, resT]
  ·rw [if_pos (by simp; omega), if_neg (by simp; omega)]
theorem zj3 {n : Nat} {sizes : List Int} {tables : List Table} {s : Bool} {cell : Int} (hn : 1000000 ≤ n) (hs : sizes.length ≤ 1000) (ht : tables.length ≤ 1000) (hc : ∀ t ∈ tables, t.columns.length ≤ 1000 ∧ t.name.length ≤ 4096) : zb6 n sizes tables s cell = some (cellP sizes tables s cell) := by
 unfold zb6 cellP;rw [zeC hn hs ht hc, ya];cases hL : zbh sizes tables with
 | false => simp
 | true =>
  obtain ⟨l1, l2, l3, l4⟩ := zbr hL;rw [if_neg (by simp)];have := zI (body := zb6.l1 n sizes tables s cell) (len := tables.length) (st := fun i => (i : Int)) (g := fun i => some (if decide (0 ≤ cell) = true then resT sizes s cell (tables.drop i) i else (0, [], false))) (fun rec i hi hr => ?_) (fun rec => ?_) n 0 (yo _) (by omega)
  ·simpa using this
  ·obtain ⟨-, -, c1, c2, c3, c4⟩ := l4 _ (yk hi);have hnum := zd7 (n := n) (sizes := sizes) (cols := tables[i].columns) (by omega) (by omega) (by omega) (by omega);simp only [l3, c2, c1, decide_true, uE, if_true] at hnum;simp only [zb6.l1, zi hi, if_true, za hi, ya, zbE, hnum, yj, yr, grd, yg, zb (i := i) (by omega), hr, zlH l3 c2 (show tables[i].columns.length ≤ 1000 by omega) hn];rw [zo hi, resT];unfold hitP zbM;cases decide (0 ≤ cell) with
   | false => simp
   | true =>
    simp only [if_true, uE];by_cases h1 : ((tables[i].kind == 0 || tables[i].kind == 1) == s && decide (0 ≤ sub64 cell tables[i].first) && decide (sub64 cell tables[i].first < zaf sizes tables[i].columns 1)) = true
    ·rw [if_pos h1, if_pos (by rw [← Bool.and_assoc]; exact h1)]
    ·rw [if_neg h1, if_neg (by rw [← Bool.and_assoc]; exact h1)]
  ·simp [zb6.l1, resT]
theorem znE {sizes : List Int} {s : Bool} {cell : Int} : ∀ (l : List Table) (i : Nat), (resT sizes s cell l i).2.2 = true → ∃ k : Nat, (resT sizes s cell l i).1 = (k : Int) ∧ i ≤ k ∧ k < i + l.length
 | [], _, h => by simp [resT] at h
 | t :: l, i, h => by
  rw [resT] at h ⊢;split at h
  ·rename_i hh;rw [if_pos hh];exact ⟨i, rfl, yn _, by simp⟩
  ·rename_i hh;rw [if_neg hh];obtain ⟨k, e, k1, k2⟩ := znE l (i + 1) h;exact ⟨k, e, by omega, by simp only [yP]; omega⟩
theorem zlr {sizes : List Int} {tables : List Table} {s : Bool} {cell : Int} (h : (cellP sizes tables s cell).2.2 = true) : ∃ t, idx tables (cellP sizes tables s cell).1 = some t := by
 unfold cellP at h ⊢;split at h
 ·rename_i hh;rw [if_pos hh];obtain ⟨k, e, -, k2⟩ := znE tables 0 h;rw [e];exact ⟨_, za (by omega)⟩
 ·simp at h
theorem znh {sizes : List Int} {tables : List Table} {s : Bool} {cell : Int} (h : cell < 0) : (cellP sizes tables s cell).2.2 = false := by
 unfold cellP;rw [if_neg (by simp; omega)]
def updT (t : Table) (u : Update) : Bool := if (t.kind == 2 || t.kind == 3) = true then ((u.kind == 0) || (u.kind == 1)) && (u.value == 0) else ((u.kind == 2) && decide (t.range.lo ≤ u.value)) && decide (u.value ≤ t.range.hi)
def updP (m : Model) (u : Update) : Bool := (cellP m.sorts m.tables false u.cell).2.2 && updT ((idx m.tables (cellP m.sorts m.tables false u.cell).1).getD default) u
def updsP (m : Model) : Int → List Update → Bool
 | _, [] => true
 | last, u :: l => (decide (last < u.cell) && updP m u) && updsP m u.cell l
theorem zjy {n : Nat} {m : Model} {l : List Range} {u : Update} (hF : Fuel n) (hS : SmallM m) : zbg n ⟨m, l⟩ u = some (updP m u) := by
 unfold zbg updP;have hs := hS.sorts;have ht := hS.tables;simp only [];rw [zjS hF (by omega) (by omega) (fun t h => by have := hS.tab t h; omega), ya];cases hok : (cellP m.sorts m.tables false u.cell).2.2 with
 | false => simp
 | true =>
  obtain ⟨t, ht⟩ := zlr hok;simp only [ht, yT, ye, if_false, ya, yg, yA, jn, updT];by_cases h2 : t.kind = 2
  ·simp [h2]
  ·by_cases h3 : t.kind = 3
   ·simp [h3]
   ·simp [h2, h3]
def opP (m : Model) (o : Operation) : Bool := decide (o.sorts.length ≤ 3) && o.sorts.all fun s => decide (-1 ≤ s) && decide (s < (m.sorts.length : Int))
def opsP (m : Model) : Bool := m.operations.all (opP m) && (decide (m.operations.length ≤ 8) && distP [] (m.operations.map (·.name)))
theorem zdJ {α β : Type} {f : α → β} {l : List α} {i : Nat} (hi : i < l.length) : (l.take i).map f ++ [f l[i]] = (l.take (i + 1)).map f := by
 rw [yF hi, uk]; rfl
theorem zg4 {n : Nat} {m : Model} {l : List Range} (hF : Fuel n) (hS : SmallM m) : zB n ⟨m, l⟩ = some (opsP m) := by
 have hn := hF.big;have hol := hS.operations;unfold zB opsP;have := zam (body := zB.l1 n ⟨m, l⟩) (l := m.operations) (n := n) (st := fun i => ((m.operations.take i).map (·.name), (i : Int))) (opP m) (some false) (some (decide (m.operations.length ≤ 8) && distP [] (m.operations.map (·.name)))) (fun rec i hi => ?_) (fun rec => ?_) (by omega)
 ·simp only [List.take_zero, List.map_nil, Int.natCast_zero] at this;rw [this];cases m.operations.all (opP m) <;> rfl
 ·have hop := hS.op _ (yk hi);simp only [zB.l1, zi hi, if_true, za hi, ya];rw [zp (by simp; omega), ya, zbO (p := fun s => !(decide (-1 ≤ s) && decide (s < (m.sorts.length : Int)))) (fun x _ => by
   simp only [zaQ, yh, Bool.not_and, ← decide_not];congr 1
   ·exact decide_eq_decide.2 (by omega)
   ·exact decide_eq_decide.2 (by omega)) (by omega) (by omega)]
  simp only [yj, yr, grd, if_true, yg, zb (i := i) (by omega), zdJ hi];have h3 : decide (3 < (m.operations[i].sorts.length : Int)) = !decide (m.operations[i].sorts.length ≤ 3) := by rw [← decide_not]; exact decide_eq_decide.2 (by omega)
  rw [h3, ← Bool.not_not (m.operations[i].sorts.any _), zi1, ← Bool.not_and];unfold opP;cases (decide (m.operations[i].sorts.length ≤ 3) && m.operations[i].sorts.all fun s => decide (-1 ≤ s) && decide (s < (m.sorts.length : Int))) <;> rfl
 ·simp only [zB.l1, zaw, ye, if_false, List.take_length];rw [zeS hF (by simp; omega)];simp only [yj, yr, grd, if_true, yg, y9, yh];congr 1;exact decide_eq_decide.2 (by omega)
def zgD (K : Nat) : Int → List Change → Bool
 | _, [] => true
 | last, d :: l => (decide (last < d.cell) && decide (d.cell < (K : Int)) && (d.add != 0) && zaz d.add 1000000000) && zgD K d.cell l
def effP (m : Model) (K : Nat) (x : Effect) : Bool := zgD K (-1) x.delta && (updsP m (-1) x.updates && (decide (x.hold.length ≤ 8) && decide (x.updates.length ≤ 32) && x.hold.all (rowOK K)))
theorem zju {n : Nat} {m : Model} {l : List Range} {x : Effect} (hF : Fuel n) (hS : SmallM m) (h1 : x.delta.length ≤ 1000) (h2 : x.updates.length ≤ 1000) (h3 : x.hold.length ≤ 1000) (h4 : ∀ r ∈ x.hold, r.terms.length ≤ 1000) : zG n ⟨m, l⟩ x = some (effP m l.length x) := by
 have hn := hF.big;have T : loopF (zG.l2 n ⟨m, l⟩ x) n (-1, 0) = some (updsP m (-1) x.updates && (decide (x.hold.length ≤ 8) && decide (x.updates.length ≤ 32) && x.hold.all (rowOK l.length))) := by
  have := zby (body := zG.l2 n ⟨m, l⟩ x) (len := x.updates.length) (st := fun (s : Int) i => (s, (i : Int))) (g := fun i s => some (updsP m s (x.updates.drop i) && (decide (x.hold.length ≤ 8) && decide (x.updates.length ≤ 32) && x.hold.all (rowOK l.length)))) (fun _ _ => True) (fun rec i s hi _ hr => ?_) (fun rec s _ => ?_) n 0 (-1) (yo _) (by omega) trivial
  ·simpa using this
  ·simp only [zG.l2, zi hi, if_true, za hi, ya, zjy hF hS, yj, yr, grd, yg, zb (i := i) (by omega), hr x.updates[i].cell trivial];rw [zo hi, updsP];by_cases hlt : s < x.updates[i].cell
   ·have hd : decide (x.updates[i].cell ≤ s) = false := by simp; omega
    rw [hd];cases updP m x.updates[i] <;> simp [hlt]
   ·have hd : decide (x.updates[i].cell ≤ s) = true := by simp; omega
    rw [hd]; simp [hlt]
  ·have hc : zl n x.hold (fun q0 => zaY n q0 ⟨m, l⟩) = some (x.hold.any fun r => !rowOK l.length r) := zch (fun r hr => by
    unfold zaY;rw [zis (by have := h4 r hr; omega) (by omega)]; rfl) (by omega) (by omega)
   simp only [zG.l2, zaw, ye, if_false, hc, yj, yr, grd, if_true, yg, zi1, List.drop_length, updsP, yA, yh];congr 2
   ·exact decide_eq_decide.2 (by omega)
   ·exact decide_eq_decide.2 (by omega)
 have := zby (body := zG.l1 n ⟨m, l⟩ x) (len := x.delta.length) (st := fun (s : Int) i => (s, (i : Int))) (g := fun i s => some (zgD l.length s (x.delta.drop i) && (updsP m (-1) x.updates && (decide (x.hold.length ≤ 8) && decide (x.updates.length ≤ 32) && x.hold.all (rowOK l.length))))) (fun _ _ => True) (fun rec i s hi _ hr => ?_) (fun rec s _ => ?_) n 0 (-1) (yo _) (by omega) trivial
 ·simpa [zG, effP] using this
 ·simp only [zG.l1, zi hi, if_true, za hi, ya, around9, yj, yr, grd, yg, zb (i := i) (by omega), hr x.delta[i].cell trivial];rw [zo hi, zgD];by_cases h : (decide (s < x.delta[i].cell) && decide (x.delta[i].cell < (l.length : Int)) && (x.delta[i].add != 0) && zaz x.delta[i].add 1000000000) = true
  ·rw [h, yA];simp only [yc, yf, bne_iff_ne] at h;rw [if_neg (by simp [h.2, h.1.2]; omega)]
  ·rw [if_pos (by
    simp only [yc, yf, bne_iff_ne, ne_eq] at h;simp only [yv, yf, beq_iff_eq, yG, ← yz];by_cases ha : zaz x.delta[i].add 1000000000 = true
    ·left; simp only [ha, and_true] at h; omega
    ·exact .inr ha)]
   simp only [yz] at h;rw [h]; rfl
 ·simp only [zG.l1, zaw, ye, if_false, T, List.drop_length, zgD, yA]
theorem zlg {n : Nat} {m : Model} {x : Effect} (hn : 1000000 ≤ n) (hS : SmallM m) (hL : zbh m.sorts m.tables = true) (h1 : x.delta.length ≤ 1000) (h2 : x.updates.length ≤ 1000) (h3 : x.hold.length ≤ 1000) (h4 : ∀ r ∈ x.hold, r.terms.length ≤ 1000) : zT n m x = some (effP m (zQ m.sorts true m.tables).length x) := by
 have htl := hS.tables;have hsl := hS.sorts;have hcs : ∀ t ∈ m.tables, t.columns.length ≤ 1000 ∧ t.name.length ≤ 4096 := fun t ht => by have := hS.tab t ht; omega
 unfold zT zb2;rw [zd6 hn (by omega) (by omega) hcs, hL, if_pos rfl];generalize zQ m.sorts true m.tables = l;simp only [ya];have T3 : loopF (zT.l3 n m x) n 0 = some (updsP m (-1) x.updates && (decide (x.hold.length ≤ 8) && decide (x.updates.length ≤ 32))) := by
  have := zby (body := zT.l3 n m x) (len := x.updates.length) (st := fun (_ : Int) i => (i : Int)) (g := fun i s => some (updsP m s (x.updates.drop i) && (decide (x.hold.length ≤ 8) && decide (x.updates.length ≤ 32)))) (fun i s => -1 ≤ s ∧ ((i = 0 ∧ s = -1) ∨ (0 < i ∧ ∃ y, idx x.updates (sub64 (i : Int) 1) = some y ∧ y.cell = s))) (fun rec i s hi hI hr => ?_) (fun rec s _ => ?_) n 0 (-1) (yo _) (by omega) ⟨by omega, .inl ⟨rfl, rfl⟩⟩
  ·simpa using this
  ·obtain ⟨h1, h2⟩ := hI;have hprev : (decide (0 < (i : Int)) && decide (x.updates[i].cell ≤ ((idx x.updates (sub64 (i : Int) 1)).getD default).cell)) = (decide (0 < i) && decide (x.updates[i].cell ≤ s)) ∧ (!(decide (0 < (i : Int))) || (idx x.updates (sub64 (i : Int) 1)).isSome) = true := by
    rcases h2 with ⟨h2, h3⟩ | ⟨h2, y, h3, h4⟩
    ·subst h2; simp
    ·rw [h3]; simp [h4, h2]
   have hnext : (-1 ≤ x.updates[i].cell) → rec ((i + 1 : Nat) : Int) = some (updsP m x.updates[i].cell (x.updates.drop (i + 1)) && (decide (x.hold.length ≤ 8) && decide (x.updates.length ≤ 32))) := fun h => hr x.updates[i].cell ⟨h, .inr ⟨by omega, x.updates[i], by
     rw [zgc (by omega) (by omega), show i + 1 - 1 = i by omega, za hi], rfl⟩⟩
   simp only [zT.l3, zi hi, if_true, za hi, ya, zj3 (cell := x.updates[i].cell) (s := false) hn (show m.sorts.length ≤ 1000 by omega) (show m.tables.length ≤ 1000 by omega) hcs, hprev.1, hprev.2, yr, grd, zhz, zb (i := i) (by omega)];rw [zo hi, updsP];unfold updP;cases hok : (cellP m.sorts m.tables false x.updates[i].cell).2.2 with
   | false => simp
   | true =>
    obtain ⟨t, ht⟩ := zlr hok;have hge : 0 ≤ x.updates[i].cell := by
     by_cases h : x.updates[i].cell < 0
     ·rw [znh h] at hok; cases hok
     ·omega
    have hasc : (decide (0 < i) && decide (x.updates[i].cell ≤ s)) = !decide (s < x.updates[i].cell) := by
     rw [← decide_not, ← Bool.decide_and];refine decide_eq_decide.2 ?_;rcases h2 with ⟨h2, h3⟩ | ⟨h2, -⟩ <;> omega
    rw [hasc, hnext (by omega)];simp only [ht, yT, uj, ya, yg, yA];cases decide (s < x.updates[i].cell) with
    | false => simp
    | true =>
     simp only [yT, ye, if_false, yA];unfold updT;by_cases hset : (t.kind == 2 || t.kind == 3) = true
     ·rw [hset];simp only [if_true, yA, yT, yW, ye, if_false];cases hk0 : (x.updates[i].kind == 0) <;> cases hk1 : (x.updates[i].kind == 1) <;> cases hv : (x.updates[i].value == 0) <;> simp [bne, hk0, hk1, hv]
     ·simp only [yz] at hset;rw [hset];simp only [yW, ye, if_false, uA, yA];have e1 : decide (x.updates[i].value < t.range.lo) = !decide (t.range.lo ≤ x.updates[i].value) := by rw [← decide_not]; exact decide_eq_decide.2 (by omega)
      have e2 : decide (t.range.hi < x.updates[i].value) = !decide (x.updates[i].value ≤ t.range.hi) := by rw [← decide_not]; exact decide_eq_decide.2 (by omega)
      rw [e1, e2];cases hk0 : (x.updates[i].kind == 2) <;> cases decide (t.range.lo ≤ x.updates[i].value) <;> cases decide (x.updates[i].value ≤ t.range.hi) <;> simp [bne, hk0]
  ·simp only [zT.l3, zaw, ye, if_false, List.drop_length, updsP, yA, yh];congr 1
   ·exact decide_eq_decide.2 (by omega)
   ·exact decide_eq_decide.2 (by omega)
 have T2 : loopF (zT.l2 n m x l) n 0 = if x.hold.all (rowOK l.length) = true then some (updsP m (-1) x.updates && (decide (x.hold.length ≤ 8) && decide (x.updates.length ≤ 32))) else some false := by
  have := zam (body := zT.l2 n m x l) (l := x.hold) (n := n) (st := fun i => (i : Int)) (rowOK l.length) (some false) (some (updsP m (-1) x.updates && (decide (x.hold.length ≤ 8) && decide (x.updates.length ≤ 32)))) (fun rec i hi => ?_) (fun rec => ?_) (by omega)
  ·simpa using this
  ·simp only [zT.l2, zi hi, if_true, za hi, ya, zkC (show x.hold[i].terms.length < 1000000 by have := h4 _ (yk hi); omega) hn, zb (i := i) (by omega)];cases rowOK l.length x.hold[i] <;> simp
  ·simp only [zT.l2, zaw, ye, if_false, T3]
 have := zby (body := zT.l1 n m x l) (len := x.delta.length) (st := fun (_ : Int) i => (i : Int)) (g := fun i s => some (zgD l.length s (x.delta.drop i) && (updsP m (-1) x.updates && (decide (x.hold.length ≤ 8) && decide (x.updates.length ≤ 32) && x.hold.all (rowOK l.length))))) (fun i s => -1 ≤ s ∧ ((i = 0 ∧ s = -1) ∨ (0 < i ∧ ∃ y, idx x.delta (sub64 (i : Int) 1) = some y ∧ y.cell = s))) (fun rec i s hi hI hr => ?_) (fun rec s _ => ?_) n 0 (-1) (yo _) (by omega) ⟨by omega, .inl ⟨rfl, rfl⟩⟩
 ·simpa [effP] using this
 ·obtain ⟨h1, h2⟩ := hI;have hprev : (decide (0 < (i : Int)) && decide (x.delta[i].cell ≤ ((idx x.delta (sub64 (i : Int) 1)).getD default).cell)) = (decide (0 < i) && decide (x.delta[i].cell ≤ s)) ∧ (!(decide (0 < (i : Int))) || (idx x.delta (sub64 (i : Int) 1)).isSome) = true := by
   rcases h2 with ⟨h2, h3⟩ | ⟨h2, y, h3, h4⟩
   ·subst h2; simp
   ·rw [h3]; simp [h4, h2]
  simp only [zT.l1, zi hi, if_true, za hi, ya, between9, yj, yr, grd, yg, hprev.1, hprev.2, zb (i := i) (by omega)];rw [zo hi, zgD];by_cases h : (decide (s < x.delta[i].cell) && decide (x.delta[i].cell < (l.length : Int)) && (x.delta[i].add != 0) && zaz x.delta[i].add 1000000000) = true
  ·rw [h, yA];simp only [yc, yf, bne_iff_ne] at h;rw [if_neg (by simp [h.2, h.1.2]; omega), hr x.delta[i].cell ⟨by omega, .inr ⟨by omega, x.delta[i], by
    rw [zgc (by omega) (by omega), show i + 1 - 1 = i by omega, za hi], rfl⟩⟩]
  ·rw [if_pos (by
    simp only [yc, yf, bne_iff_ne, ne_eq] at h;simp only [yv, yc, yf, beq_iff_eq, yG, ← yz];by_cases ha : zaz x.delta[i].add 1000000000 = true
    ·left; simp only [ha, and_true] at h;rcases h2 with ⟨h2, h3⟩ | ⟨h2, -⟩ <;> omega
    ·exact .inr ha)]
   simp only [yz] at h;rw [h]; rfl
 ·simp only [zT.l1, zaw, ye, if_false, T2, List.drop_length, zgD, yA];cases x.hold.all (rowOK l.length) <;> simp
def cmpP : List Int → List Int → Int
 | [], [] => 0
 | [], _ :: _ => -1
 | _ :: _, [] => 1
 | x :: l, y :: k => if x < y then -1 else if y < x then 1 else cmpP l k
def lessP : List Int → List Int → Bool
 | [], [] => false
 | [], _ :: _ => true
 | _ :: _, [] => false
 | x :: l, y :: k => if x = y then lessP l k else decide (x < y)
theorem zmr : ∀ a b : List Int, decide (0 ≤ cmpP a b) = !lessP a b
 | [], [] => rfl
 | [], _ :: _ => rfl
 | _ :: _, [] => rfl
 | x :: l, y :: k => by
  simp only [cmpP, lessP];by_cases h : x = y
  ·subst h; simp [zmr l k]
  ·by_cases h2 : x < y
   ·simp [h, h2]
   ·have : y < x := by omega
    simp [h, h2, this]
theorem zmP {n : Nat} {a b : List Int} (hl : a.length < 1000000) (hn : 1000000 ≤ n) : zg n a b = some (cmpP a b) := by
 have := zI (body := zg.l1 n a b) (len := a.length) (st := fun i => (i : Int)) (g := fun i => some (cmpP (a.drop i) (b.drop i))) (fun rec i hi hr => ?_) (fun rec => ?_) n 0 (yo _) (by omega)
 ·simpa [zg] using this
 ·simp only [zg.l1, zi hi, if_true, za hi, ya, zb (i := i) (by omega), hr];rw [zo hi];by_cases hb : i < b.length
  ·rw [if_neg (by simp; omega), za hb, zo hb];simp only [ya, zbT, zc1, uD, ye, if_false, cmpP, yf];by_cases h1 : a[i] < b[i]
   ·simp [h1]
   ·by_cases h2 : b[i] < a[i]
    ·simp [h1, h2]
    ·simp [h1, h2]
  ·rw [if_pos (by simp; omega), show b.drop i = [] from List.drop_eq_nil_of_le (by omega)];rfl
 ·simp only [zg.l1, zaw, ye, if_false, List.drop_length];by_cases hb : a.length < b.length
  ·rw [if_pos (by simpa using hb), zo hb]; rfl
  ·rw [if_neg (by simpa using hb), List.drop_eq_nil_of_le (by omega)]; rfl
theorem zmk {n : Nat} {a b : List Int} (hl : a.length < 1000000) (hn : 1000000 ≤ n) : zbB n a b = some (lessP a b) := by
 have := zI (body := zbB.l1 n a b) (len := min a.length b.length) (st := fun i => (i : Int)) (g := fun i => some (lessP (a.drop i) (b.drop i))) (fun rec i hi hr => ?_) (fun rec => ?_) n 0 (yo _) (by omega)
 ·simpa [zbB] using this
 ·have ha : i < a.length := by omega
  have hb : i < b.length := by omega
  simp only [zbB.l1, zi ha, zi hb, uL, if_true, za ha, za hb, ya, zb (i := i) (by omega), hr];rw [zo ha, zo hb];by_cases h : a[i] = b[i]
  ·simp [h, lessP]
  ·simp [h, lessP]
 ·simp only [zbB.l1];rw [if_neg (by simp; omega)];by_cases ha : a.length ≤ b.length
  ·rw [Nat.min_eq_left ha, List.drop_length];by_cases hb : a.length < b.length
   ·rw [zo hb]; simp [lessP, hb]
   ·rw [List.drop_eq_nil_of_le (by omega)]; simp [lessP]; omega
  ·rw [Nat.min_eq_right (by omega), List.drop_length, zo (by omega)];simp [lessP]; omega
def argP (m : Model) (s x : Int) : Bool := (!decide (s < 0) || zaz x 9999) && (!decide (0 ≤ s) || (decide (0 ≤ x) && decide (x < (idx m.sorts s).getD default)))
def argsP (m : Model) : List Int → List Int → Bool
 | s :: l, x :: k => argP m s x && argsP m l k
 | _, _ => true
def opAt (m : Model) (a : Action) : Operation := (idx m.operations a.operation).getD default
def ordP (b a : Action) : Bool := !decide (a.operation < b.operation) && (!(b.operation == a.operation) || lessP b.arguments a.arguments)
def actP (m : Model) (K : Nat) (i : Nat) (a : Action) : Bool :=
 (decide (0 ≤ a.operation) && decide (a.operation < (m.operations.length : Int))) && (a.arguments.length == (opAt m a).sorts.length) && argsP m (opAt m a).sorts a.arguments && (decide (i = 0) || ordP ((idx m.actions ((i - 1 : Nat) : Int)).getD default) a) && effP m K a.effect
def actsP (m : Model) (K : Nat) : Bool := decide (m.actions.length ≤ 256) && allR (fun i => actP m K i ((idx m.actions (i : Int)).getD default)) 0 m.actions.length
theorem zkt {m : Model} {s x : List Int} {k : Nat} (h1 : k < s.length) (h2 : k < x.length) : argsP m (s.drop k) (x.drop k) = (argP m s[k] x[k] && argsP m (s.drop (k + 1)) (x.drop (k + 1))) := by
 rw [zo h1, zo h2]; rfl
theorem zmH {m : Model} {a : Action} (h : (decide (0 ≤ a.operation) && decide (a.operation < (m.operations.length : Int))) = true) : idx m.operations a.operation = some (opAt m a) ∧ opAt m a ∈ m.operations := by
 simp only [yc, yf] at h;obtain ⟨o, ho⟩ := zbf h.1 h.2;refine ⟨by rw [ho, opAt, ho]; rfl, ?_⟩;rw [opAt, ho]; exact zfc ho
theorem znT {m : Model} {s : Int} (h0 : 0 ≤ s) (h : s < (m.sorts.length : Int)) : idx m.sorts s = some ((idx m.sorts s).getD default) := by
 obtain ⟨x, hx⟩ := zbf h0 h;rw [hx]; rfl
theorem zkz {m : Model} (h : opsP m = true) : ∀ o ∈ m.operations, o.sorts.length ≤ 3 ∧ ∀ s ∈ o.sorts, -1 ≤ s ∧ s < (m.sorts.length : Int) := by
 simp only [opsP, yc, yp] at h;intro o ho;have := h.1 o ho;simp only [opP, yc, yf, yp] at this;exact this
theorem znB {b a : Action} : ((decide (a.operation < b.operation)) || ((b.operation == a.operation) && (decide (0 ≤ cmpP b.arguments a.arguments)))) = !ordP b a := by
 rw [zmr];unfold ordP;cases decide (a.operation < b.operation) <;> cases (b.operation == a.operation) <;> cases lessP b.arguments a.arguments <;> rfl
theorem zox {b a : Action} : ((decide (a.operation < b.operation)) || ((b.operation == a.operation) && (!lessP b.arguments a.arguments))) = !ordP b a := by
 unfold ordP;cases decide (a.operation < b.operation) <;> cases (b.operation == a.operation) <;> cases lessP b.arguments a.arguments <;> rfl
theorem ziI {n : Nat} {m : Model} {l : List Range} (hF : Fuel n) (hS : SmallM m) (hO : opsP m = true) : zu n ⟨m, l⟩ = some (actsP m l.length) := by
 have hn := hF.big;have hal := hS.actions;unfold zu actsP;by_cases h0 : m.actions.length ≤ 256
 ·rw [if_neg (by simp; omega), decide_eq_true h0, yA];have := zfT (body := zu.l1 n ⟨m, l⟩) (len := m.actions.length) (n := n) (st := fun i => (i : Int)) (fun i => actP m l.length i ((idx m.actions (i : Int)).getD default)) (some false) (some true) (fun rec i hi => ?_) (fun rec => ?_) (by omega)
  ·simp only [Int.natCast_zero] at this;rw [this];cases allR (fun i => actP m l.length i ((idx m.actions (i : Int)).getD default)) 0 m.actions.length <;> rfl
  ·have hmem := yk hi;obtain ⟨a1, a2, a3, a4, a5⟩ := hS.act _ hmem;simp only [zu.l1, zi hi, if_true, za hi, ya, zad, yg];unfold actP;cases hop : (decide (0 ≤ m.actions[i].operation) && decide (m.actions[i].operation < (m.operations.length : Int))) with
   | false => simp [grd]
   | true =>
    obtain ⟨ho, hom⟩ := zmH hop;obtain ⟨o1, o2⟩ := zkz hO _ hom;simp only [ho, yj, yr, grd, if_true, yg, yT, uj, yA, ya];by_cases hlen : m.actions[i].arguments.length = (opAt m m.actions[i]).sorts.length
    ·rw [if_neg (by simp [hlen])];have hle : (m.actions[i].arguments.length == (opAt m m.actions[i]).sorts.length) = true := by simp [hlen]
     rw [hle, yA];have inner := zI (body := zu.l2 n ⟨m, l⟩ i rec m.actions[i] (opAt m m.actions[i])) (len := (opAt m m.actions[i]).sorts.length) (st := fun k => (k : Int)) (g := fun k => if argsP m ((opAt m m.actions[i]).sorts.drop k) (m.actions[i].arguments.drop k) = true then (if ((decide (i = 0) || ordP ((idx m.actions ((i - 1 : Nat) : Int)).getD default) m.actions[i]) && effP m l.length m.actions[i].effect) = true then rec ((i + 1 : Nat) : Int) else some false) else some false) (fun rec' k hk hr' => ?_) (fun rec' => ?_) n 0 (yo _) (by omega)
     ·simp only [Int.natCast_zero, List.drop_zero] at inner;rw [inner];cases argsP m (opAt m m.actions[i]).sorts m.actions[i].arguments <;> simp
     ·have hk2 : k < m.actions[i].arguments.length := by omega
      have hs2 := o2 _ (yk hk);simp only [zu.l2, zi hk, if_true, za hk, za hk2, ya, around4, yj, yr, grd, yg, zb (i := k) (by omega), hr', zad];rw [zkt hk hk2];unfold argP;by_cases hneg : (opAt m m.actions[i]).sorts[k] < 0
      ·have hd1 : decide ((opAt m m.actions[i]).sorts[k] < 0) = true := by simp [hneg]
       have hd2 : decide (0 ≤ (opAt m m.actions[i]).sorts[k]) = false := by simp; omega
       rw [hd1, hd2];cases zaz m.actions[i].arguments[k] 9999 <;> simp
      ·have hd1 : decide ((opAt m m.actions[i]).sorts[k] < 0) = false := by simp; omega
       have hd2 : decide (0 ≤ (opAt m m.actions[i]).sorts[k]) = true := by simp; omega
       obtain ⟨z, hz⟩ := zbf (l := m.sorts) (i := (opAt m m.actions[i]).sorts[k]) (by omega) hs2.2;rw [hz, hd1, hd2];by_cases h1 : 0 ≤ m.actions[i].arguments[k]
       ·by_cases h2 : m.actions[i].arguments[k] < z
        ·have h2' : ¬ z ≤ m.actions[i].arguments[k] := by omega
         simp [h1, h2, h2']
        ·have h2' : z ≤ m.actions[i].arguments[k] := by omega
         simp [h1, h2, h2']
       ·simp [h1]
     ·simp only [zu.l2, zaw, ye, if_false, jn, List.drop_length];rw [zju hF hS (by omega) (by omega) (by omega) (fun r hr => by have := a5 r hr; omega)];simp only [ya, zb (i := i) (by omega)];have hargs : argsP m [] (m.actions[i].arguments.drop (opAt m m.actions[i]).sorts.length) = true := rfl;rw [hargs, if_pos rfl];by_cases h0i : i = 0
      ·subst h0i;rw [if_neg (by simp)];cases effP m l.length m.actions[0].effect <;> simp
      ·rw [if_pos (by simp; omega), zgc (by omega) (by omega)];have hi1 : i - 1 < m.actions.length := by omega
       have b1 := (hS.act _ (yk hi1)).1;simp only [za hi1, ya, znB, yg, zmP (a := m.actions[i - 1].arguments) (b := m.actions[i].arguments) (show m.actions[i - 1].arguments.length < 1000000 by omega) (show 1000000 ≤ n by omega), yj, yr, if_true, h0i, decide_false, uj];cases ordP m.actions[i - 1] m.actions[i] <;> cases effP m l.length m.actions[i].effect <;> simp [grd]
    ·rw [if_pos (by simp; omega)];have hle : (m.actions[i].arguments.length == (opAt m m.actions[i]).sorts.length) = false := by simp [hlen]
     rw [hle]; simp
  ·simp [zu.l1]
 ·rw [if_pos (by simp; omega), decide_eq_false h0, yW]
theorem ziM {n : Nat} {m : Model} (hn : 1000000 ≤ n) (hS : SmallM m) (hL : zbh m.sorts m.tables = true) : zq n m = some (opsP m && actsP m (zQ m.sorts true m.tables).length) := by
 have hal := hS.actions;have hol := hS.operations;have hef : ∀ a ∈ m.actions, zT n m a.effect = some (effP m (zQ m.sorts true m.tables).length a.effect) := fun a ha => by
  obtain ⟨a1, a2, a3, a4, a5⟩ := hS.act _ ha;exact zlg hn hS hL (by omega) (by omega) (by omega) (fun r hr => by have := a5 r hr; omega)
 generalize (zQ m.sorts true m.tables).length = K at hef;have T : opsP m = true → loopF (zq.l3 n m) n 0 = some (allR (fun i => actP m K i ((idx m.actions (i : Int)).getD default)) 0 m.actions.length) := fun hO => by
  have := zfT (body := zq.l3 n m) (len := m.actions.length) (n := n) (st := fun i => (i : Int)) (fun i => actP m K i ((idx m.actions (i : Int)).getD default)) (some false) (some true) (fun rec i hi => ?_) (fun rec => ?_) (by omega)
  ·simp only [Int.natCast_zero] at this;rw [this];cases allR (fun i => actP m K i ((idx m.actions (i : Int)).getD default)) 0 m.actions.length <;> rfl
  ·have hmem := yk hi;obtain ⟨a1, a2, a3, a4, a5⟩ := hS.act _ hmem;simp only [zq.l3, zi hi, if_true, za hi, ya, yg];have hneg : (decide (m.actions[i].operation < 0) || decide ((m.operations.length : Int) ≤ m.actions[i].operation)) = !(decide (0 ≤ m.actions[i].operation) && decide (m.actions[i].operation < (m.operations.length : Int))) := by
    rw [Bool.not_and, ← decide_not, ← decide_not];congr 1
    ·exact decide_eq_decide.2 (by omega)
    ·exact decide_eq_decide.2 (by omega)
   rw [hneg];unfold actP;cases hop : (decide (0 ≤ m.actions[i].operation) && decide (m.actions[i].operation < (m.operations.length : Int))) with
   | false => simp [grd]
   | true =>
    obtain ⟨ho, hom⟩ := zmH hop;obtain ⟨o1, o2⟩ := zkz hO _ hom;simp only [ho, yj, yr, grd, if_true, yg, yT, uj, yA];by_cases hlen : m.actions[i].arguments.length = (opAt m m.actions[i]).sorts.length
    ·rw [if_neg (by simp [hlen])];have hle : (m.actions[i].arguments.length == (opAt m m.actions[i]).sorts.length) = true := by simp [hlen]
     rw [hle, yA];have inner := zI (body := zq.l4 n m i rec m.actions[i]) (len := m.actions[i].arguments.length) (st := fun k => (k : Int)) (g := fun k => if argsP m ((opAt m m.actions[i]).sorts.drop k) (m.actions[i].arguments.drop k) = true then (if ((decide (i = 0) || ordP ((idx m.actions ((i - 1 : Nat) : Int)).getD default) m.actions[i]) && effP m K m.actions[i].effect) = true then rec ((i + 1 : Nat) : Int) else some false) else some false) (fun rec' k hk2 hr' => ?_) (fun rec' => ?_) n 0 (yo _) (by omega)
     ·simp only [Int.natCast_zero, List.drop_zero] at inner;rw [inner];cases argsP m (opAt m m.actions[i]).sorts m.actions[i].arguments <;> simp
     ·have hk : k < (opAt m m.actions[i]).sorts.length := by omega
      have hs2 := o2 _ (yk hk);simp only [zq.l4, zi hk2, if_true, ho, za hk, za hk2, ya, between4, yj, yr, grd, yg, zb (i := k) (by omega), hr'];rw [zkt hk hk2];unfold argP;by_cases hneg : (opAt m m.actions[i]).sorts[k] < 0
      ·have hd1 : decide ((opAt m m.actions[i]).sorts[k] < 0) = true := by simp [hneg]
       have hd2 : decide (0 ≤ (opAt m m.actions[i]).sorts[k]) = false := by simp; omega
       rw [hd1, hd2];cases zaz m.actions[i].arguments[k] 9999 <;> simp
      ·have hd1 : decide ((opAt m m.actions[i]).sorts[k] < 0) = false := by simp; omega
       have hd2 : decide (0 ≤ (opAt m m.actions[i]).sorts[k]) = true := by simp; omega
       rw [znT (m := m) (s := (opAt m m.actions[i]).sorts[k]) (by omega) hs2.2, hd1, hd2];simp only [yg];generalize (idx m.sorts (opAt m m.actions[i]).sorts[k]).getD default = z;by_cases h1 : m.actions[i].arguments[k] < 0
       ·have h1' : ¬ 0 ≤ m.actions[i].arguments[k] := by omega
        simp [h1, h1']
       ·have h1' : 0 ≤ m.actions[i].arguments[k] := by omega
        by_cases h2 : z ≤ m.actions[i].arguments[k]
        ·have h2' : ¬ m.actions[i].arguments[k] < z := by omega
         simp [h1, h1', h2, h2']
        ·have h2' : m.actions[i].arguments[k] < z := by omega
         simp [h1, h1', h2, h2']
     ·simp only [zq.l4, zaw, ye, if_false, jn, List.drop_length, hef _ hmem];simp only [ya, zb (i := i) (by omega)];have hargs : argsP m ((opAt m m.actions[i]).sorts.drop m.actions[i].arguments.length) [] = true := by cases (opAt m m.actions[i]).sorts.drop m.actions[i].arguments.length <;> rfl
      rw [hargs, if_pos rfl];by_cases h0i : i = 0
      ·subst h0i;rw [if_neg (by simp)];cases effP m K m.actions[0].effect <;> simp
      ·rw [if_pos (by simp; omega), zgc (by omega) (by omega)];have hi1 : i - 1 < m.actions.length := by omega
       have b1 := (hS.act _ (yk hi1)).1;simp only [za hi1, ya, zox, yg, zmk (a := m.actions[i - 1].arguments) (b := m.actions[i].arguments) (show m.actions[i - 1].arguments.length < 1000000 by omega) (show 1000000 ≤ n by omega), yj, yr, if_true, h0i, decide_false, uj];cases ordP m.actions[i - 1] m.actions[i] <;> cases effP m K m.actions[i].effect <;> simp [grd]
    ·rw [if_pos (by simp; omega)];have hle : (m.actions[i].arguments.length == (opAt m m.actions[i]).sorts.length) = false := by simp [hlen]
     rw [hle]; simp
  ·simp [zq.l3]
 unfold zq;have := zam (body := zq.l1 n m) (l := m.operations) (n := n) (st := fun i => ((m.operations.take i).map (·.name), (i : Int))) (opP m) (some false) (if (decide (m.operations.length ≤ 8) && distP [] (m.operations.map (·.name)) && decide (m.actions.length ≤ 256)) = true then loopF (zq.l3 n m) n 0 else some false) (fun rec i hi => ?_) (fun rec => ?_) (by omega)
 ·simp only [List.take_zero, List.map_nil, Int.natCast_zero] at this;rw [this];unfold actsP;cases hO : opsP m with
  | true =>
   have hO' := hO;simp only [opsP, yc] at hO';rw [hO'.1, hO'.2.1, hO'.2.2, T hO];cases decide (m.actions.length ≤ 256) <;> rfl
  | false =>
   unfold opsP at hO;cases h1 : m.operations.all (opP m) with
   | false => simp
   | true =>
    rw [h1, yA] at hO;rw [hO]; simp
 ·have hop := hS.op _ (yk hi);simp only [zq.l1, zi hi, if_true, za hi, ya];rw [zp (by simp; omega), ya, zdJ hi];generalize hX : (m.operations.take (i + 1)).map (·.name) = X;have inner := zam (body := zq.l2 n m i rec m.operations[i] X) (l := m.operations[i].sorts) (n := n) (st := fun k => (k : Int)) (fun s => decide (-1 ≤ s) && decide (s < (m.sorts.length : Int))) (some false) (if decide (m.operations[i].sorts.length ≤ 3) = true then rec (X, ((i + 1 : Nat) : Int)) else some false) (fun rec' k hk => ?_) (fun rec' => ?_) (by omega)
  ·simp only [Int.natCast_zero] at inner;rw [inner];unfold opP;cases decide (m.operations[i].sorts.length ≤ 3) <;> cases (m.operations[i].sorts.all fun s => decide (-1 ≤ s) && decide (s < (m.sorts.length : Int))) <;> simp
  ·simp only [zq.l2, zi hk, if_true, za hk, ya, yj, yr, grd, yg, zb (i := k) (by omega)];have e1 : decide (m.operations[i].sorts[k] < -1) = !decide (-1 ≤ m.operations[i].sorts[k]) := by rw [← decide_not]; exact decide_eq_decide.2 (by omega)
   have e2 : decide ((m.sorts.length : Int) ≤ m.operations[i].sorts[k]) = !decide (m.operations[i].sorts[k] < (m.sorts.length : Int)) := by rw [← decide_not]; exact decide_eq_decide.2 (by omega)
   rw [e1, e2];cases decide (-1 ≤ m.operations[i].sorts[k]) <;> cases decide (m.operations[i].sorts[k] < (m.sorts.length : Int)) <;> simp
  ·simp only [zq.l2, zaw, ye, if_false, zb (i := i) (by omega)];by_cases h3 : m.operations[i].sorts.length ≤ 3
   ·rw [if_neg (by simp; omega), if_pos (by simp [h3])]
   ·rw [if_pos (by simp; omega), if_neg (by simp [h3])]
 ·simp only [zq.l1, zaw, ye, if_false, List.take_length];rw [zeW hn (by simp; omega) (fun w hw => by
   simp only [yY] at hw;obtain ⟨o, ho, rfl⟩ := hw;have := (hS.op o ho).1; omega)]
  simp only [yj, yr, grd, if_true, yg];have e1 : decide (8 < (m.operations.length : Int)) = !decide (m.operations.length ≤ 8) := by rw [← decide_not]; exact decide_eq_decide.2 (by omega)
  have e2 : decide (256 < (m.actions.length : Int)) = !decide (m.actions.length ≤ 256) := by rw [← decide_not]; exact decide_eq_decide.2 (by omega)
  rw [e1, e2];cases decide (m.operations.length ≤ 8) <;> cases distP [] (m.operations.map (·.name)) <;> cases decide (m.actions.length ≤ 256) <;> simp
end Go.Proofs.YtcagdmegicijlaaGreatDoor
