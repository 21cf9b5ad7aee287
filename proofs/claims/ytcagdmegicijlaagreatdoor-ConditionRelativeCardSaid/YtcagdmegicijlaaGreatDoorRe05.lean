/- Part of the proof of one law of the seat. -/
import Derived.Test.YtcagdmegicijlaaGreatDoorRe04
set_option linter.unusedVariables false
set_option linter.unusedSectionVars false
set_option linter.unusedSimpArgs false
set_option maxHeartbeats 4000000
namespace Go.Proofs.YtcagdmegicijlaaGreatDoor
open Go Go.RowKit
theorem ref17_Same_ok (n : Nat) (t0 : List Range) (t1 : List Range) (r : Bool) (h : zce n t0 t1 = some r) : Pure Tryz.prog 73 [.sl 2 (List.map Range.enc t0), .sl 2 (List.map Range.enc t1)] (.bool r) := by
 refine Pure.ot Tryz.func73 I Tryz.ntmps73 I fun A w => .sr<|.z I<|.nil<|.seq<|.sr<|.m I<|.p I (.len I U48 I)<|.m I<|.p I (.len I U48 I)<|.p I (.ne I)<|.nil<|.condS I h (fun h => ?_) fun h => ?_
 ·refine .sr<|.z I<|.nil<|.ret (rO h I)
 ·refine .skip<|.seq<|.sr<|.z I<|.nil<|.block<|.loopS [0, 1] (fun (v : Int) => [(5, .d (.int v))]) (fun (v : Int) => []) (.c2 I .nil) h ⟨_, Fz4 I<|Fz2 I trivial⟩ (fun _ x7 h => ?_)
  refine .seq<|.sr<|.m I<|.m I<|.p I (.len I U48 I)<|.p I (.ls I)<|.nil<|.keep [] [0, 1, 5, 14] (.c4 I .nil) I<|.condS I h (fun h => ?_) fun h => ?_
  ·refine .skip<|.seq<|.block<|.seq<|.draw 9 Hm (by kernel_rfl) (by kernel_rfl)<|.m I<|.m I<|bK h fun x9 q9 h => .p I (.ix I U48 S87 q9)<|.p I (.ld Y87 I)<|.m I<|.m I<|bK h fun x10 q10 h => .p I (.ix I U48 S87 q10)<|.p I (.ld Y87 I)<|.p I (.sneq I SE87 I I (xs := Range.vals _) (ys := Range.vals _) I I I I (SQ87 _ _))<|.nil<|.nil<|.condS I h (fun h => ?_) fun h => ?_
   ·refine .sr<|.z I<|.nil<|.ret (rO h I)
   ·refine .skip<|.region<|.m I<|.p I (.ad I)<|.z I<|.nil ⟨_, h, _, Fz4 I<|Fz2 I trivial⟩
  ·refine .exit<|.sr<|.z I<|.nil<|.ret (rO h I)
theorem ref18_Terms_ok (n : Nat) (t0 : Row) (t1 : Row) (r : Bool) (h : zbf n t0 t1 = some r) : Pure Tryz.prog 126 [Row.enc t0, Row.enc t1] (.bool r) := by
 refine Pure.ot Tryz.func126 I Tryz.ntmps126 I fun A w => .sr<|.p I (.bx I)<|.p I (.bx I)<|.z I<|.nil<|.seq<|.sr<|.f I (G33_0 _) Y31 I<|.p I (.len I U31 I)<|.f I (G33_0 _) Y31 I<|.p I (.len I U31 I)<|.p I (.ne I)<|.nil<|.condS I h (fun h => ?_) fun h => ?_
 ·refine .sr<|.z I<|.nil<|.ret (rO h I)
 ·refine .skip<|.seq<|.sr<|.z I<|.nil<|.block<|.loopS [2, 3] (fun (v : Int) => [(5, .d (.int v))]) (fun (v : Int) => []) (.c2 I .nil) h ⟨_, Fz4 I<|Fz2 I trivial⟩ (fun _ x7 h => ?_)
  refine .seq<|.sr<|.m I<|.f I (G33_0 _) Y31 I<|.p I (.len I U31 I)<|.p I (.ls I)<|.nil<|.keep [] [2, 3, 5, 17] (.c4 I .nil) I<|.condS I h (fun h => ?_) fun h => ?_
  ·refine .skip<|.seq<|.block<|.seq<|.draw 11 Hm (by kernel_rfl) (by kernel_rfl)<|.f I (G33_0 _) Y31 I<|.m I<|bK h fun x9 q9 h => .p I (.ix I U31 S41 q9)<|.p I (.ld Y41 I)<|.f I (G33_0 _) Y31 I<|.m I<|bK h fun x10 q10 h => .p I (.ix I U31 S41 q10)<|.p I (.ld Y41 I)<|.p I (.sneq I SE41 I I (xs := Term.vals _) (ys := Term.vals _) I I I I (SQ41 _ _))<|.nil<|.nil<|.condS I h (fun h => ?_) fun h => ?_
   ·refine .sr<|.z I<|.nil<|.ret (rO h I)
   ·refine .skip<|.region<|.m I<|.p I (.ad I)<|.z I<|.nil ⟨_, h, _, Fz4 I<|Fz2 I trivial⟩
  ·refine .exit<|.sr<|.z I<|.nil<|.ret (rO h I)
theorem ref18_rows_ok (n : Nat) (t0 : List Row) (t1 : List Row) (r : Bool) (h : zbk n t0 t1 = some r) : Pure Tryz.prog 74 [.sl 2 (List.map Row.enc t0), .sl 2 (List.map Row.enc t1)] (.bool r) := by
 refine Pure.ot Tryz.func74 I Tryz.ntmps74 I fun A w => .sr<|.z I<|.nil<|.seq<|.sr<|.m I<|.p I (.len I U49 I)<|.m I<|.p I (.len I U49 I)<|.p I (.ne I)<|.nil<|.condS I h (fun h => ?_) fun h => ?_
 ·refine .sr<|.z I<|.nil<|.ret (rO h I)
 ·refine .skip<|.seq<|.sr<|.z I<|.nil<|.block<|.loopS [0, 1] (fun (v : Int) => [(5, .d (.int v))]) (fun (v : Int) => []) (.c2 I .nil) h ⟨_, Fz4 I<|Fz2 I trivial⟩ (fun _ x15 h => ?_)
  refine .seq<|.sr<|.m I<|.m I<|.p I (.len I U49 I)<|.p I (.ls I)<|.nil<|.keep [] [0, 1, 5, 14] (.c4 I .nil) I<|.condS I h (fun h => ?_) fun h => ?_
  ·refine .skip<|.seq<|.block<|.seq<|.draw 23 Hm (by kernel_rfl) (by kernel_rfl)<|.m I<|.m I<|bK h fun x17 q17 h => .p I (.ix I U49 S33 q17)<|.f I (G33_1 _) Y3 I<|.m I<|.m I<|bK h fun x18 q18 h => .p I (.ix I U49 S33 q18)<|.f I (G33_1 _) Y3 I<|.p I (.ne I)<|.m I<|gK h fun c20 h => gK h fun c21 h => gK h fun c22 h => .jO 10 (!((zbf n ((idx t0 x15).getD default) ((idx t1 x15).getD default)).getD default)) I (fun b19 => ?_) ?_
   ·refine .qm I<|.qm I<|.q I (.ix I U49 S33 (someD (impF c20 b19)))<|.q I (.ld Y33 I)<|.qm I<|.qm I<|.q I (.ix I U49 S33 (someD (impF c21 b19)))<|.q I (.ld Y33 I)<|.q I (.call I K126 I (ref18_Terms_ok _ _ _ _ (someD (impF c22 b19))))<|.q I (.nt I)<|.nil I
   refine .nil<|.nil<|.keep [] [0, 1, 5, 39] (.c4 I .nil) I<|.condS I h (fun h => ?_) fun h => ?_
   ·refine .sr<|.z I<|.nil<|.ret (rO h I)
   ·refine .skip<|.region<|.m I<|.p I (.ad I)<|.z I<|.nil ⟨_, h, _, Fz4 I<|Fz2 I trivial⟩
  ·refine .exit<|.sr<|.z I<|.nil<|.ret (rO h I)
theorem ref17_Ints_ok (n : Nat) (t0 : List Int) (t1 : List Int) (r : Bool) (h : zbD n t0 t1 = some r) : Pure Tryz.prog 75 [.sl 1 (List.map D.int t0), .sl 1 (List.map D.int t1)] (.bool r) := by
 refine Pure.ot Tryz.func75 I Tryz.ntmps75 I fun A w => .sr<|.z I<|.nil<|.seq<|.sr<|.m I<|.p I (.len I U22 I)<|.m I<|.p I (.len I U22 I)<|.p I (.ne I)<|.nil<|.condS I h (fun h => ?_) fun h => ?_
 ·refine .sr<|.z I<|.nil<|.ret (rO h I)
 ·refine .skip<|.seq<|.sr<|.z I<|.nil<|.block<|.loopS [0, 1] (fun (v : Int) => [(5, .d (.int v))]) (fun (v : Int) => []) (.c2 I .nil) h ⟨_, Fz4 I<|Fz2 I trivial⟩ (fun _ x7 h => ?_)
  refine .seq<|.sr<|.m I<|.m I<|.p I (.len I U22 I)<|.p I (.ls I)<|.nil<|.keep [] [0, 1, 5, 14] (.c4 I .nil) I<|.condS I h (fun h => ?_) fun h => ?_
  ·refine .skip<|.seq<|.block<|.seq<|.draw 9 Hm (by kernel_rfl) (by kernel_rfl)<|.m I<|.m I<|bK h fun x9 q9 h => .p I (.ix I U22 S3 q9)<|.p I (.ld Y3 I)<|.m I<|.m I<|bK h fun x10 q10 h => .p I (.ix I U22 S3 q10)<|.p I (.ld Y3 I)<|.p I (.ne I)<|.nil<|.nil<|.condS I h (fun h => ?_) fun h => ?_
   ·refine .sr<|.z I<|.nil<|.ret (rO h I)
   ·refine .skip<|.region<|.m I<|.p I (.ad I)<|.z I<|.nil ⟨_, h, _, Fz4 I<|Fz2 I trivial⟩
  ·refine .exit<|.sr<|.z I<|.nil<|.ret (rO h I)
theorem ref18_Same_ok (n : Nat) (t0 : System) (t1 : System) (r : Bool) (h : zar n t0 t1 = some r) : Pure Tryz.prog 21 [System.enc t0, System.enc t1] (.bool r) := by
 refine Pure.ot Tryz.func21 I Tryz.ntmps21 I fun A w => .sr<|.p I (.bx I)<|.p I (.bx I)<|.z I<|.nil<|.seq<|.seq<|.plain 32 I<|.f I (G53_0 _) Y48 I<|.f I (G53_0 _) Y48 I<|bK h fun x1 q1 h => .p I (.call I K73 I (ref17_Same_ok _ _ _ _ q1))<|.p I (.nt I)<|.m I<|gK h fun c3 h => .jO 6 (!((zbk n t0.rows t1.rows).getD default)) I (fun b2 => ?_) ?_
 ·refine .qf I (G53_1 _) Y49 I<|.qf I (G53_1 _) Y49 I<|.q I (.call I K74 I (ref18_rows_ok _ _ _ _ (someD (impF c3 b2))))<|.q I (.nt I)<|.nil I
 refine .m I<|.jO 7 ((t0.graphs.length : Int) != (t1.graphs.length : Int)) I (fun b4 => ?_) ?_
 ·refine .qf I (G53_2 _) Y50 I<|.q I (.len I U50 I)<|.qf I (G53_2 _) Y50 I<|.q I (.len I U50 I)<|.q I (.ne I)<|.nil I
 refine .m I<|.jO 7 ((t0.cases.length : Int) != (t1.cases.length : Int)) I (fun b5 => ?_) ?_
 ·refine .qf I (G53_3 _) Y51 I<|.q I (.len I U51 I)<|.qf I (G53_3 _) Y51 I<|.q I (.len I U51 I)<|.q I (.ne I)<|.nil I
 refine .nil<|.nil<|.keep [] [2, 3, 38] (.c2 I<|.c I .nil) I<|.condS I h (fun h => ?_) fun h => ?_
 ·refine .sr<|.z I<|.nil<|.ret (rO h I)
 ·refine .skip<|.seq<|.sr<|.z I<|.nil<|.block<|.loopS [2, 3] (fun (v : Int) => [(5, .d (.int v))]) (fun (v : Int) => []) (.c2 I .nil) h ⟨_, Fz4 I<|Fz2 I trivial⟩ (fun _ x26 h => ?_)
  refine .seq<|.sr<|.m I<|.f I (G53_2 _) Y50 I<|.p I (.len I U50 I)<|.p I (.ls I)<|.nil<|.keep [] [2, 3, 5, 43] (.c4 I .nil) I<|.condS I h (fun h => ?_) fun h => ?_
  ·refine .skip<|.seq<|.block<|.seq<|.draw 44 Hm (by kernel_rfl) (by kernel_rfl)<|.f I (G53_2 _) Y50 I<|.m I<|bK h fun x28 q28 h => .p I (.ix I U50 S99 q28)<|.f I (G99_0 _) Y3 I<|.f I (G53_2 _) Y50 I<|.m I<|bK h fun x29 q29 h => .p I (.ix I U50 S99 q29)<|.f I (G99_0 _) Y3 I<|.p I (.ne I)<|.m I<|gK h fun c31 h => gK h fun c32 h => .jO 13 ((((idx t0.graphs x26).getD default).size) != (((idx t1.graphs x26).getD default).size)) I (fun b30 => ?_) ?_
   ·refine .qf I (G53_2 _) Y50 I<|.qm I<|.q I (.ix I U50 S99 (someD (impF c31 b30)))<|.qf I (G99_1 _) Y3 I<|.qf I (G53_2 _) Y50 I<|.qm I<|.q I (.ix I U50 S99 (someD (impF c32 b30)))<|.qf I (G99_1 _) Y3 I<|.q I (.ne I)<|.nil I
   refine .m I<|gK h fun c34 h => gK h fun c35 h => gK h fun c36 h => .jO 14 (!((zbD n (((idx t0.graphs x26).getD default).least) (((idx t1.graphs x26).getD default).least)).getD default)) I (fun b33 => ?_) ?_
   ·refine .qf I (G53_2 _) Y50 I<|.qm I<|.q I (.ix I U50 S99 (someD (impF c34 b33)))<|.qf I (G99_2 _) Y22 I<|.qf I (G53_2 _) Y50 I<|.qm I<|.q I (.ix I U50 S99 (someD (impF c35 b33)))<|.qf I (G99_2 _) Y22 I<|.q I (.call I K75 I (ref17_Ints_ok _ _ _ _ (someD (impF c36 b33))))<|.q I (.nt I)<|.nil I
   refine .nil<|.nil<|.keep [] [2, 3, 5, 89] (.c4 I .nil) I<|.condS I h (fun h => ?_) fun h => ?_
   ·refine .sr<|.z I<|.nil<|.ret (rO h I)
   ·refine .skip<|.region<|.m I<|.p I (.ad I)<|.z I<|.nil ⟨_, h, _, Fz4 I<|Fz2 I trivial⟩
  ·refine .exit<|.seq<|.sr<|.z I<|.nil<|.block<|.loopS [2, 3] (fun (v : Int) => [(6, .d (.int v))]) (fun (v : Int) => []) (.c2 I .nil) h ⟨_, Fz4 I<|Fz2 I trivial⟩ (fun _ x45 h => ?_)
   refine .seq<|.sr<|.m I<|.f I (G53_3 _) Y51 I<|.p I (.len I U51 I)<|.p I (.ls I)<|.nil<|.keep [] [2, 3, 6, 94] (.c4 I .nil) I<|.condS I h (fun h => ?_) fun h => ?_
   ·refine .skip<|.seq<|.block<|.seq<|.draw 12 Hm (by kernel_rfl) (by kernel_rfl)<|.f I (G53_3 _) Y51 I<|.m I<|bK h fun x47 q47 h => .p I (.ix I U51 S49 q47)<|.p I (.ld Y49 I)<|.f I (G53_3 _) Y51 I<|.m I<|bK h fun x48 q48 h => .p I (.ix I U51 S49 q48)<|.p I (.ld Y49 I)<|bK h fun x49 q49 h => .p I (.call I K74 I (ref18_rows_ok _ _ _ _ q49))<|.p I (.nt I)<|.nil<|.nil<|.condS I h (fun h => ?_) fun h => ?_
    ·refine .sr<|.z I<|.nil<|.ret (rO h I)
    ·refine .skip<|.region<|.m I<|.p I (.ad I)<|.z I<|.nil ⟨_, h, _, Fz4 I<|Fz2 I trivial⟩
   ·refine .exit<|.sr<|.z I<|.nil<|.ret (rO h I)
theorem ref17_Contains_ok (n : Nat) (t0 : List Range) (t1 : List Int) (r : Bool) (h : zY n t0 t1 = some r) : Pure Tryz.prog 78 [.sl 2 (List.map Range.enc t0), .sl 1 (List.map D.int t1)] (.bool r) := by
 refine Pure.ot Tryz.func78 I Tryz.ntmps78 I fun A w => .sr<|.z I<|.nil<|.seq<|.sr<|.m I<|.p I (.len I U48 I)<|.m I<|.p I (.len I U22 I)<|.p I (.ne I)<|.nil<|.condS I h (fun h => ?_) fun h => ?_
 ·refine .sr<|.z I<|.nil<|.ret (rO h I)
 ·refine .skip<|.seq<|.sr<|.z I<|.nil<|.block<|.loopS [0, 1] (fun (v : Int) => [(5, .d (.int v))]) (fun (v : Int) => []) (.c2 I .nil) h ⟨_, Fz4 I<|Fz2 I trivial⟩ (fun _ x11 h => ?_)
  refine .seq<|.sr<|.m I<|.m I<|.p I (.len I U48 I)<|.p I (.ls I)<|.nil<|.keep [] [0, 1, 5, 14] (.c4 I .nil) I<|.condS I h (fun h => ?_) fun h => ?_
  ·refine .skip<|.seq<|.block<|.seq<|.draw 16 Hm (by kernel_rfl) (by kernel_rfl)<|.m I<|.m I<|bK h fun x13 q13 h => .p I (.ix I U22 S3 q13)<|.p I (.ld Y3 I)<|.m I<|.m I<|bK h fun x14 q14 h => .p I (.ix I U48 S87 q14)<|.f I (G87_0 _) Y3 I<|.m I<|.m I<|bK h fun x15 q15 h => .p I (.ix I U48 S87 q15)<|.f I (G87_1 _) Y3 I<|bK h fun x16 q16 h => .p I (.call I K127 I (zb6 _ _ _ _ _ q16))<|.p I (.nt I)<|.nil<|.nil<|.keep [] [0, 1, 5, 32] (.c4 I .nil) I<|.condS I h (fun h => ?_) fun h => ?_
   ·refine .sr<|.z I<|.nil<|.ret (rO h I)
   ·refine .skip<|.region<|.m I<|.p I (.ad I)<|.z I<|.nil ⟨_, h, _, Fz4 I<|Fz2 I trivial⟩
  ·refine .exit<|.sr<|.z I<|.nil<|.ret (rO h I)
theorem ref18_right_ok (n : Nat) (t0 : System) (t1 : List Int) (r : Bool) (h : zbe n t0 t1 = some r) : Pure Tryz.prog 128 [System.enc t0, .sl 1 (List.map D.int t1)] (.bool r) := by
 refine Pure.ot Tryz.func128 I Tryz.ntmps128 I fun A w => .sr<|.p I (.bx I)<|.z I<|.nil<|.seq<|.seq<|.plain 11 I<|.p I (.ld Y53 I)<|bK h fun x1 q1 h => .p I (.call I K72 I (ref18_Valid_ok _ _ _ q1))<|.p I (.nt I)<|.m I<|.jO 6 ((t1.length : Int) != (t0.box.length : Int)) I (fun b2 => ?_) ?_
 ·refine .qm I<|.q I (.len I U22 I)<|.qf I (G53_0 _) Y48 I<|.q I (.len I U48 I)<|.q I (.ne I)<|.nil I
 refine .nil<|.nil<|.condS I h (fun h => ?_) fun h => ?_
 ·refine .sr<|.z I<|.nil<|.ret (rO h I)
 ·refine .skip<|.seq<|.sr<|.z I<|.nil<|.block<|.loopS [1] (fun (v : Int) => [(5, .d (.int v))]) (fun (v : Int) => []) (.c I .nil) h ⟨_, Fz4 I<|Fz1 I trivial⟩ (fun _ x11 h => ?_)
  refine .seq<|.sr<|.m I<|.m I<|.p I (.len I U22 I)<|.p I (.ls I)<|.nil<|.keep [] [1, 5, 20] (.c2 I<|.c I .nil) I<|.condS I h (fun h => ?_) fun h => ?_
  ·refine .skip<|.seq<|.block<|.seq<|.plain 12 I<|.m I<|.m I<|bK h fun x13 q13 h => .p I (.ix I U22 S3 q13)<|.p I (.ld Y3 I)<|.p I (.ls I)<|.m I<|gK h fun c15 h => .jO 5 (decide (4000000 < ((idx t1 x11).getD default))) I (fun b14 => ?_) ?_
   ·refine .qm I<|.qm I<|.q I (.ix I U22 S3 (someD (impF c15 b14)))<|.q I (.ld Y3 I)<|.q I (.gt I)<|.nil I
   refine .nil<|.nil<|.condS I h (fun h => ?_) fun h => ?_
   ·refine .sr<|.z I<|.nil<|.ret (rO h I)
   ·refine .skip<|.region<|.m I<|.p I (.ad I)<|.z I<|.nil ⟨_, h, _, Fz4 I<|Fz1 I trivial⟩
  ·refine .exit<|.sr<|.z I<|.nil<|.ret (rO h I)
theorem ref17_Value_ok (n : Nat) (t0 : Row) (t1 : List Int) (r : Int) (h : zaH n t0 t1 = some r) : Pure Tryz.prog 129 [Row.enc t0, .sl 1 (List.map D.int t1)] (.int r) := by
 refine Pure.ot Tryz.func129 I Tryz.ntmps129 I fun A w => .sr<|.p I (.bx I)<|.z I<|.nil<|.sr<|.z I<|.nil<|.seq<|.sr<|.z I<|.nil<|.block<|.loopS [1, 2] (fun (v : Int × Int) => [(5, .d (.int v.1)), (6, .d (.int v.2))]) (fun (v : Int × Int) => []) (.c2 I .nil) h ⟨_, Fz4 I<|Fz2 I<|Fz1 I trivial⟩ (fun _ v h => ?_)
 obtain ⟨x11, x12⟩ := v
 refine .seq<|.sr<|.m I<|.f I (G33_0 _) Y31 I<|.p I (.len I U31 I)<|.p I (.ls I)<|.nil<|.keep [] [1, 2, 5, 6, 11] (.c4 I<|.c I .nil) I<|.condS I h (fun h => ?_) fun h => ?_
 ·refine .skip<|.seq<|.block<|.draw 19 Hm (by kernel_rfl) (by kernel_rfl)<|.m I<|.f I (G33_0 _) Y31 I<|.m I<|bK h fun x14 q14 h => .p I (.ix I U31 S41 q14)<|.f I (G41_1 _) Y3 I<|.m I<|.f I (G33_0 _) Y31 I<|.m I<|bK h fun x15 q15 h => .p I (.ix I U31 S41 q15)<|.f I (G41_0 _) Y3 I<|bK h fun x16 q16 h => .p I (.ix I U22 S3 q16)<|.p I (.ld Y3 I)<|.p I (.ml I)<|.p I (.ad I)<|.z I<|.nil<|.nil<|.keep [] [1, 2, 5, 6] (.c4 I .nil) I<|.region<|.m I<|.p I (.ad I)<|.z I<|.nil ⟨_, h, _, Fz4 I<|Fz2 I<|Fz1 I trivial⟩
 ·refine .exit<|.sr<|.m I<|.z I<|.nil<|.ret (rO h I)
theorem ref18_Edges_ok (n : Nat) (t0 : Graph) (t1 : List Int) (r : List Bool) (h : zbu n t0 t1 = some r) : Pure Tryz.prog 131 [Graph.enc t0, .sl 1 (List.map D.int t1)] (.sl 1 (List.map D.bool r)) := by
 refine Pure.ot Tryz.func131 I Tryz.ntmps131 I fun A w => .sr<|.p I (.bx I)<|.p I (.nilS 1 (α := Bool) D.bool I)<|.nil<|.sr<|.buildVec [] I I I I I E144 I (fun _ => I) I (enc := D.bool)<|.z I<|.nil<|.seq<|.sr<|.z I<|.nil<|.block<|.loopS [1, 2] (fun (v : (List Bool) × Int) => [(5, .vec 0 (List.length v.1)), (6, .d (.int v.2))]) (fun (v : (List Bool) × Int) => [(0, .vec 4 1 (List.map D.bool v.1))]) (.c2 I .nil) h ⟨_, Fz4 I<|Fz2 I<|Fz1 I trivial⟩ (fun _ v h => ?_)
 obtain ⟨b0_11, x12⟩ := v
 refine .seq<|.sr<|.m I<|.f I (G99_1 _) Y3 I<|.f I (G99_1 _) Y3 I<|.p I (.ml I)<|.p I (.ls I)<|.nil<|.keep [.vec 4 1 (List.map D.bool b0_11)] [1, 2, 5, 6, 14] (.c4 I<|.c I .nil) I<|.condS I h (fun h => ?_) fun h => ?_
 ·refine .skip<|.seq<|.block<|.draw 15 Hm (by kernel_rfl) (by kernel_rfl)<|.m I<|.m I<|.f I (G99_0 _) Y3 I<|.m I<|.p I (.ad I)<|bK h fun x14 q14 h => .p I (.ix I U22 S3 q14)<|.p I (.ld Y3 I)<|.f I (G99_2 _) Y22 I<|.m I<|bK h fun x15 q15 h => .p I (.ix I U22 S3 q15)<|.p I (.ld Y3 I)<|.p I (.ge I)<|.p I (.buildSl [_] I I E144 I (fun _ => I) I (enc := D.bool))<|.nil<|bK h fun x16 q16 h => .app I I I I I I I I E144 I (fun _ => I) q16<|.z I<|.nil<|.keep [.vec 4 1 (List.map D.bool x16)] [1, 2, 5, 6] (.c4 I .nil) I<|.region<|.m I<|.p I (.ad I)<|.z I<|.nil ⟨_, h, _, Fz4 I<|Fz2 I<|Fz1 I trivial⟩
 ·refine .exit<|.sr<|.m I<|.z I<|.nil<|.ret ?_
  cases h
  exact zbw I (.vec I (by simp))
theorem ref18_Acyclic_ok (n : Nat) (t0 : Int) (t1 : List Bool) (r : Bool) (h : zl n t0 t1 = some r) : Pure Tryz.prog 130 [.int t0, .sl 1 (List.map D.bool t1)] (.bool r) := by
 refine Pure.ot Tryz.func130 I Tryz.ntmps130 I fun A w => .sr<|.z I<|.nil<|.sr<|.buildVec [] I I I I I E144 I (fun _ => I) I (enc := D.bool)<|.z I<|.nil<|.seq<|.sr<|.z I<|.nil<|.block<|.loopS [0, 1] (fun (v : (List Bool) × Int) => [(5, .vec 0 (List.length v.1)), (6, .d (.int v.2))]) (fun (v : (List Bool) × Int) => [(0, .vec 4 1 (List.map D.bool v.1))]) (.c2 I .nil) h ⟨_, Fz4 I<|Fz2 I<|Fz1 I trivial⟩ (fun _ v h => ?_)
 obtain ⟨b0_7, x8⟩ := v
 refine .seq<|.sr<|.m I<|.m I<|.p I (.ls I)<|.nil<|.keep [.vec 4 1 (List.map D.bool b0_7)] [0, 1, 5, 6, 15] (.c4 I<|.c I .nil) I<|.condS I h (fun h => ?_) fun h => ?_
 ·refine .skip<|.seq<|.block<|.region<|.m I<|.p I (.buildSl [_] I I E144 I (fun _ => I) I (enc := D.bool))<|bK h fun x10 q10 h => .app I I I I I I I I E144 I (fun _ => I) q10<|.z I<|.nil<|.region<|.m I<|.p I (.ad I)<|.z I<|.nil ⟨_, h, _, Fz4 I<|Fz2 I<|Fz1 I trivial⟩
 ·refine .exit<|.seq<|.sr<|.z I<|.nil<|.block<|.loopS [0, 1] (fun (v : (List Bool) × Int) => [(5, .vec 0 (List.length v.1)), (7, .d (.int v.2))]) (fun (v : (List Bool) × Int) => [(0, .vec 4 1 (List.map D.bool v.1))]) (.c2 I .nil) h ⟨_, Fz4 I<|Fz2 I<|Fz1 I trivial⟩ (fun _ v h => ?_)
  obtain ⟨b0_185, x186⟩ := v
  refine .seq<|.sr<|.m I<|.m I<|.p I (.ls I)<|.nil<|.keep [.vec 4 1 (List.map D.bool b0_185)] [0, 1, 5, 7, 23] (.c4 I<|.c I .nil) I<|.condS I h (fun h => ?_) fun h => ?_
  ·refine .skip<|.seq<|.block<|.sr<|.z I<|.nil<|.block<|.loopS [0, 1, 7] (fun (v : (List Bool) × Int) => [(5, .vec 0 (List.length v.1)), (8, .d (.int v.2))]) (fun (v : (List Bool) × Int) => [(0, .vec 4 1 (List.map D.bool v.1))]) (.c2 I<|.c I .nil) h ⟨_, Fz8 I trivial⟩ (fun _ v h => ?_)
   obtain ⟨b0_244, x245⟩ := v
   refine .seq<|.sr<|.m I<|.m I<|.p I (.ls I)<|.nil<|.keep [.vec 4 1 (List.map D.bool b0_244)] [0, 1, 5, 7, 8, 28] (.c4 I<|.c2 I .nil) I<|.condS I h (fun h => ?_) fun h => ?_
   ·refine .skip<|.join [0, 1, 7, 8] (fun (v : (List Bool)) => [(5, .vec 0 (List.length v))]) (fun (v : (List Bool)) => [(0, .vec 4 1 (List.map D.bool v))]) (.c4 I .nil) h (fun k_248 h => ?_) (fun b0_247 h => ?_)
    ·refine .block<|.sr<|.z I<|.nil<|.seq<|.sr<|.z I<|.nil<|.block<|.loopS [0, 1, 5, 7, 8] (fun (v : Bool × Int) => [(9, .d (.bool v.1)), (10, .d (.int v.2))]) (fun (v : Bool × Int) => []) (.c4 I<|.c I .nil) h ⟨_, Fz8 I<|Fz2 I trivial⟩ (fun _ v h => ?_)
     obtain ⟨x263, x264⟩ := v
     refine .seq<|.sr<|.m I<|.m I<|.p I (.ls I)<|.nil<|.keep [.vec 4 1 (List.map D.bool b0_244)] [0, 1, 5, 7, 8, 9, 10, 33] (.c8 I .nil) I<|.condS I h (fun h => ?_) fun h => ?_
     ·refine .skip<|.join [0, 1, 5, 7, 8, 10] (fun (v : Bool) => [(9, .d (.bool v))]) (fun (v : Bool) => []) (.c4 I<|.c2 I .nil) h (fun k_267 h => ?_) (fun x266 h => ?_)
      ·refine .block<|.seq<|.plain 14 I<|.m I<|.m I<|bK h fun x268 q268 h => .p I (.idxV I I I I I U144 S4 q268)<|.p I (.loadEl I I I I q268 Y4 I)<|.m I<|gK h fun c270 h => .jA 8 (((idx t1 (add64 (mul64 x264 t0) x245)).getD default)) I (fun b269 => ?_) ?_
       ·refine .qm I<|.qm I<|.qm I<|.q I (.ml I)<|.qm I<|.q I (.ad I)<|.q I (.ix I U144 S4 (someD (impT c270 b269)))<|.q I (.ld Y4 I)<|.nil I
       refine .nil<|.nil<|.condS I h (fun h => ?_) fun h => ?_
       ·refine .region<|.z I<|.nil ⟨_, h, _, Fz8 I<|Fz2 I trivial⟩
       ·refine .skip ⟨_, h, _, Fz8 I<|Fz2 I trivial⟩
      ·refine .region<|.m I<|.p I (.ad I)<|.z I<|.nil ⟨_, h, _, Fz8 I<|Fz2 I trivial⟩
     ·refine .exit<|.sr<|.m I<|.nil<|.condS I h (fun h => ?_) fun h => ?_
      ·refine .region<|.m I<|.m I<|bK h fun x271 q271 h => .p I (.idxV I I I I I U144 S4 q271)<|bK h fun b0_272 hb0_272 h => .storeEl (enc := D.bool) I I I I I I I I I C4 hb0_272<|.relen 5 I (zcW hb0_272)<|.relen 51 I (zcW hb0_272)<|.nil ⟨_, h, _, Fz8 I trivial⟩
      ·refine .skip ⟨_, h, _, Fz8 I trivial⟩
    ·refine .region<|.m I<|.p I (.ad I)<|.z I<|.nil ⟨_, h, _, Fz8 I trivial⟩
   ·refine .exit<|.region<|.m I<|.p I (.ad I)<|.z I<|.nil ⟨_, h, _, Fz4 I<|Fz2 I<|Fz1 I trivial⟩
  ·refine .exit<|.seq<|.sr<|.z I<|.nil<|.block<|.loopS [0, 5] (fun (v : Int) => [(11, .d (.int v))]) (fun (v : Int) => []) (.c2 I .nil) h ⟨_, Fz4 I<|Fz2 I trivial⟩ (fun _ x277 h => ?_)
   refine .seq<|.sr<|.m I<|.m I<|.p I (.ls I)<|.nil<|.keep [.vec 4 1 (List.map D.bool b0_185)] [0, 5, 11, 56] (.c4 I .nil) I<|.condS I h (fun h => ?_) fun h => ?_
   ·refine .skip<|.seq<|.block<|.sr<|.m I<|.m I<|bK h fun x279 q279 h => .p I (.idxV I I I I I U144 S4 q279)<|.p I (.loadEl I I I I q279 Y4 I)<|.nil<|.condS I h (fun h => ?_) fun h => ?_
    ·refine .sr<|.z I<|.nil<|.ret (rO h I)
    ·refine .skip<|.region<|.m I<|.p I (.ad I)<|.z I<|.nil ⟨_, h, _, Fz4 I<|Fz2 I trivial⟩
   ·refine .exit<|.sr<|.z I<|.nil<|.ret (rO h I)
theorem ref18_Fails_ok (n : Nat) (t0 : System) (t1 : List Int) (r : (List Int) × (List Int)) (h : zaA n t0 t1 = some r) : Pure Tryz.prog 79 [System.enc t0, .sl 1 (List.map D.int t1)] (.tup [.sl 1 (List.map D.int r.1), .sl 1 (List.map D.int r.2)]) := by
 refine Pure.ot Tryz.func79 I Tryz.ntmps79 I fun A w => .sr<|.p I (.bx I)<|.p I (.nilS 1 (α := Int) D.int I)<|.p I (.nilS 1 (α := Int) D.int I)<|.nil<|.seq<|.sr<|.p I (.ld Y53 I)<|.m I<|bK h fun x1 q1 h => .p I (.call I K128 I (ref18_right_ok _ _ _ _ q1))<|.p I (.nt I)<|.nil<|.condS I h (fun h => ?_) fun h => ?_
 ·refine .sr<|.p I (.nilS 1 (α := Int) D.int I)<|.p I (.nilS 1 (α := Int) D.int I)<|.nil<|.ret ?_
  cases h
  exact zcF I I (.d _) (.d _)
 ·refine .skip<|.sr<|.buildVec [] I I I I I E22 I (fun _ => I) I (enc := D.int)<|.buildVec [] I I I I I E22 I (fun _ => I) I (enc := D.int)<|.z I<|.z I<|.nil<|.seq<|.sr<|.z I<|.nil<|.block<|.loopS [1, 2, 7] (fun (v : (List Int) × Int) => [(6, .vec 0 (List.length v.1)), (8, .d (.int v.2))]) (fun (v : (List Int) × Int) => [(0, .vec 3 1 (List.map D.int v.1))]) (.c2 I<|.c I .nil) h ⟨_, Fz8 I trivial⟩ (fun _ v h => ?_)
  obtain ⟨b0_18, x19⟩ := v
  refine .seq<|.sr<|.m I<|.f I (G53_1 _) Y49 I<|.p I (.len I U49 I)<|.p I (.ls I)<|.nil<|.keep [.vec 3 1 (List.map D.int b0_18), .vec 3 1 (List.map D.int ([] : List Int))] [1, 2, 6, 7, 8, 20] (.c4 I<|.c2 I .nil) I<|.condS I h (fun h => ?_) fun h => ?_
  ·refine .skip<|.join [1, 2, 7, 8] (fun (v : (List Int)) => [(6, .vec 0 (List.length v))]) (fun (v : (List Int)) => [(0, .vec 3 1 (List.map D.int v))]) (.c4 I .nil) h (fun k_22 h => ?_) (fun b0_21 h => ?_)
   ·refine .block<|.seq<|.draw 14 Hm (by kernel_rfl) (by kernel_rfl)<|.f I (G53_1 _) Y49 I<|.m I<|bK h fun x23 q23 h => .p I (.ix I U49 S33 q23)<|.p I (.ld Y33 I)<|.m I<|bK h fun x24 q24 h => .p I (.call I K129 I (ref17_Value_ok _ _ _ _ q24))<|.f I (G53_1 _) Y49 I<|.m I<|bK h fun x25 q25 h => .p I (.ix I U49 S33 q25)<|.f I (G33_1 _) Y3 I<|.p I (.gt I)<|.nil<|.nil<|.condS I h (fun h => ?_) fun h => ?_
    ·refine .region<|.m I<|.m I<|.p I (.buildSl [_] I I E22 I (fun _ => I) I (enc := D.int))<|bK h fun x26 q26 h => .app I I I I I I I I E22 I (fun _ => I) q26<|.z I<|.nil ⟨_, h, _, Fz8 I trivial⟩
    ·refine .skip ⟨_, h, _, Fz8 I trivial⟩
   ·refine .region<|.m I<|.p I (.ad I)<|.z I<|.nil ⟨_, h, _, Fz8 I trivial⟩
  ·refine .exit<|.seq<|.sr<|.z I<|.nil<|.block<|.loopS [1, 2, 6] (fun (v : (List Int) × Int) => [(7, .vec 1 (List.length v.1)), (9, .d (.int v.2))]) (fun (v : (List Int) × Int) => [(1, .vec 3 1 (List.map D.int v.1))]) (.c2 I<|.c I .nil) h ⟨_, Fz8 I trivial⟩ (fun _ v h => ?_)
   obtain ⟨b1_45, x46⟩ := v
   refine .seq<|.sr<|.m I<|.f I (G53_2 _) Y50 I<|.p I (.len I U50 I)<|.p I (.ls I)<|.nil<|.keep [.vec 3 1 (List.map D.int b0_18), .vec 3 1 (List.map D.int b1_45)] [1, 2, 6, 7, 9, 45] (.c4 I<|.c2 I .nil) I<|.condS I h (fun h => ?_) fun h => ?_
   ·refine .skip<|.join [1, 2, 6, 9] (fun (v : (List Int)) => [(7, .vec 1 (List.length v))]) (fun (v : (List Int)) => [(1, .vec 3 1 (List.map D.int v))]) (.c4 I .nil) h (fun k_49 h => ?_) (fun b1_48 h => ?_)
    ·refine .block<|.seq<|.draw 15 Hm (by kernel_rfl) (by kernel_rfl)<|.f I (G53_2 _) Y50 I<|.m I<|bK h fun x50 q50 h => .p I (.ix I U50 S99 q50)<|.f I (G99_1 _) Y3 I<|.f I (G53_2 _) Y50 I<|.m I<|bK h fun x51 q51 h => .p I (.ix I U50 S99 q51)<|.p I (.ld Y99 I)<|.m I<|bK h fun x52 q52 h => .p I (.call I K131 I (ref18_Edges_ok _ _ _ _ q52))<|bK h fun x53 q53 h => .p I (.call I K130 I (ref18_Acyclic_ok _ _ _ _ q53))<|.p I (.nt I)<|.nil<|.nil<|.condS I h (fun h => ?_) fun h => ?_
     ·refine .region<|.m I<|.m I<|.p I (.buildSl [_] I I E22 I (fun _ => I) I (enc := D.int))<|bK h fun x54 q54 h => .app I I I I I I I I E22 I (fun _ => I) q54<|.z I<|.nil ⟨_, h, _, Fz8 I trivial⟩
     ·refine .skip ⟨_, h, _, Fz8 I trivial⟩
    ·refine .region<|.m I<|.p I (.ad I)<|.z I<|.nil ⟨_, h, _, Fz8 I trivial⟩
   ·refine .exit<|.sr<|.m I<|.m I<|.z I<|.z I<|.nil<|.ret ?_
    cases h
    exact zcF I I (.vec I (by simp)) (.vec I (by simp))
theorem ref18_Case_ok (n : Nat) (t0 : System) (t1 : List Int) (r : Int × Bool) (h : zaR n t0 t1 = some r) : Pure Tryz.prog 80 [System.enc t0, .sl 1 (List.map D.int t1)] (.tup [.int r.1, .bool r.2]) := by
 refine Pure.ot Tryz.func80 I Tryz.ntmps80 I fun A w => .sr<|.p I (.bx I)<|.z I<|.z I<|.nil<|.seq<|.sr<|.p I (.ld Y53 I)<|.m I<|bK h fun x1 q1 h => .p I (.call I K128 I (ref18_right_ok _ _ _ _ q1))<|.p I (.nt I)<|.nil<|.condS I h (fun h => ?_) fun h => ?_
 ·refine .sr<|.z I<|.z I<|.nil<|.ret ?_
  cases h
  exact zcF I I (.d _) (.d _)
 ·refine .skip<|.seq<|.sr<|.z I<|.nil<|.block<|.loopS [1, 2] (fun (v : Int) => [(6, .d (.int v))]) (fun (v : Int) => []) (.c2 I .nil) h ⟨_, Fz4 I<|Fz2 I trivial⟩ (fun _ x66 h => ?_)
  refine .seq<|.sr<|.m I<|.f I (G53_3 _) Y51 I<|.p I (.len I U51 I)<|.p I (.ls I)<|.nil<|.keep [] [1, 2, 6, 17] (.c4 I .nil) I<|.condS I h (fun h => ?_) fun h => ?_
  ·refine .skip<|.seq<|.block<|.sr<|.z I<|.nil<|.seq<|.sr<|.z I<|.nil<|.block<|.loopS [1, 2, 6] (fun (v : Bool × Int) => [(7, .d (.bool v.1)), (8, .d (.int v.2))]) (fun (v : Bool × Int) => []) (.c2 I<|.c I .nil) h ⟨_, Fz8 I trivial⟩ (fun _ v h => ?_)
   obtain ⟨x88, x89⟩ := v
   refine .seq<|.sr<|.m I<|.f I (G53_3 _) Y51 I<|.m I<|bK h fun x91 q91 h => .p I (.ix I U51 S49 q91)<|.p I (.ld Y49 I)<|.p I (.len I U49 I)<|.p I (.ls I)<|.nil<|.keep [] [1, 2, 6, 7, 8, 27] (.c4 I<|.c2 I .nil) I<|.condS I h (fun h => ?_) fun h => ?_
   ·refine .skip<|.join [1, 2, 6, 8] (fun (v : Bool) => [(7, .d (.bool v))]) (fun (v : Bool) => []) (.c4 I .nil) h (fun k_93 h => ?_) (fun x92 h => ?_)
    ·refine .block<|.seq<|.draw 20 Hm (by kernel_rfl) (by kernel_rfl)<|.f I (G53_3 _) Y51 I<|.m I<|bK h fun x94 q94 h => .p I (.ix I U51 S49 q94)<|.p I (.ld Y49 I)<|.m I<|bK h fun x95 q95 h => .p I (.ix I U49 S33 q95)<|.p I (.ld Y33 I)<|.m I<|bK h fun x96 q96 h => .p I (.call I K129 I (ref17_Value_ok _ _ _ _ q96))<|.f I (G53_3 _) Y51 I<|.m I<|bK h fun x97 q97 h => .p I (.ix I U51 S49 q97)<|.p I (.ld Y49 I)<|.m I<|bK h fun x98 q98 h => .p I (.ix I U49 S33 q98)<|.f I (G33_1 _) Y3 I<|.p I (.gt I)<|.nil<|.nil<|.keep [] [1, 2, 6, 7, 8, 49] (.c4 I<|.c2 I .nil) I<|.condS I h (fun h => ?_) fun h => ?_
     ·refine .region<|.z I<|.nil ⟨_, h, _, Fz8 I trivial⟩
     ·refine .skip ⟨_, h, _, Fz8 I trivial⟩
    ·refine .region<|.m I<|.p I (.ad I)<|.z I<|.nil ⟨_, h, _, Fz8 I trivial⟩
   ·refine .exit<|.sr<|.m I<|.nil<|.condS I h (fun h => ?_) fun h => ?_
    ·refine .sr<|.m I<|.z I<|.z I<|.nil<|.ret ?_
     cases h
     exact zcF I I (.d _) (.d _)
    ·refine .skip<|.region<|.m I<|.p I (.ad I)<|.z I<|.nil ⟨_, h, _, Fz4 I<|Fz2 I trivial⟩
  ·refine .exit<|.sr<|.z I<|.z I<|.nil<|.ret ?_
   cases h
   exact zcF I I (.d _) (.d _)
theorem ref18_Holds_ok (n : Nat) (t0 : System) (t1 : List Int) (r : Bool) (h : zb2 n t0 t1 = some r) : Pure Tryz.prog 25 [System.enc t0, .sl 1 (List.map D.int t1)] (.bool r) := by
 refine Pure.ot Tryz.func25 I Tryz.ntmps25 I fun A w => .sr<|.p I (.bx I)<|.z I<|.nil<|.seq<|.seq<|.plain 10 I<|.p I (.ld Y53 I)<|bK h fun x1 q1 h => .p I (.call I K72 I (ref18_Valid_ok _ _ _ q1))<|.p I (.nt I)<|.m I<|gK h fun c3 h => .jO 5 (!((zY n t0.box t1).getD default)) I (fun b2 => ?_) ?_
 ·refine .qf I (G53_0 _) Y48 I<|.qm I<|.q I (.call I K78 I (ref17_Contains_ok _ _ _ _ (someD (impF c3 b2))))<|.q I (.nt I)<|.nil I
 refine .nil<|.nil<|.condS I h (fun h => ?_) fun h => ?_
 ·refine .sr<|.z I<|.nil<|.ret (rO h I)
 ·refine .skip<|.sr<|.p I (.ld Y53 I)<|.m I<|bK h fun x4 q4 h => .p I (.call I K79 I (ref18_Fails_ok _ _ _ _ q4))<|.m I<|.p I (.extract I I I)<|.p I (.extract I I I)<|.z I<|.z I<|.nil<|.keep [] [1, 2, 5, 6] (.c4 I .nil) I<|.sr<|.p I (.ld Y53 I)<|.m I<|bK h fun x5 q5 h => .p I (.call I K80 I (ref18_Case_ok _ _ _ _ q5))<|.m I<|.p I (.extract I I I)<|.p I (.extract I I I)<|.z I<|.z I<|.nil<|.seq<|.plain 17 I<|.m I<|.p I (.len I U22 I)<|.p I (.eq I)<|.m I<|.jA 3 ((x4.2.length : Int) == 0) I (fun b6 => ?_) ?_
  ·refine .qm I<|.q I (.len I U22 I)<|.q I (.eq I)<|.nil I
  refine .m I<|.jA 7 (((t0.cases.length : Int) == 0) || x5.2) I (fun b7 => ?_) ?_
  ·refine .qf I (G53_3 _) Y51 I<|.q I (.len I U51 I)<|.q I (.eq I)<|.qm I<|.jOr 1 (b2 := x5.2) I I I I (.inr ⟨_, _, _, I, I, I⟩) (fun _ _ _ h1 h2 => by cases h1; cases h2; decide) I I (fun b8 => ?_) ?_
   ·refine .qm I<|.nil I
   exact .nil I
  refine .nil<|.z I<|.nil<|.keep [] [4] (.c I .nil) I<|.ret (rO h I)
theorem ref17_Least_ok (n : Nat) (t0 : List Range) (r : List Int) (h : zbL n t0 = some r) : Pure Tryz.prog 76 [.sl 2 (List.map Range.enc t0)] (.sl 1 (List.map D.int r)) := by
 refine Pure.ot Tryz.func76 I Tryz.ntmps76 I fun A w => .sr<|.p I (.nilS 1 (α := Int) D.int I)<|.nil<|.sr<|.buildVec [] I I I I I E22 I (fun _ => I) I (enc := D.int)<|.z I<|.nil<|.seq<|.sr<|.z I<|.nil<|.block<|.loopS [0] (fun (v : (List Int) × Int) => [(3, .vec 0 (List.length v.1)), (4, .d (.int v.2))]) (fun (v : (List Int) × Int) => [(0, .vec 3 1 (List.map D.int v.1))]) (.c I .nil) h ⟨_, Fz4 I<|Fz2 I trivial⟩ (fun _ v h => ?_)
 obtain ⟨b0_9, x10⟩ := v
 refine .seq<|.sr<|.m I<|.m I<|.p I (.len I U48 I)<|.p I (.ls I)<|.nil<|.keep [.vec 3 1 (List.map D.int b0_9)] [0, 3, 4, 9] (.c4 I .nil) I<|.condS I h (fun h => ?_) fun h => ?_
 ·refine .skip<|.seq<|.block<|.region<|.m I<|.m I<|.m I<|bK h fun x12 q12 h => .p I (.ix I U48 S87 q12)<|.f I (G87_0 _) Y3 I<|.p I (.buildSl [_] I I E22 I (fun _ => I) I (enc := D.int))<|bK h fun x13 q13 h => .app I I I I I I I I E22 I (fun _ => I) q13<|.z I<|.nil<|.region<|.m I<|.p I (.ad I)<|.z I<|.nil ⟨_, h, _, Fz4 I<|Fz2 I trivial⟩
 ·refine .exit<|.sr<|.m I<|.z I<|.nil<|.ret ?_
  cases h
  exact zbw I (.vec I (by simp))
theorem ref17_Next_ok (n : Nat) (t0 : List Range) (t1 : List Int) (r : (List Int) × Bool) (h : za8 n t0 t1 = some r) : Pure Tryz.prog 77 [.sl 2 (List.map Range.enc t0), .sl 1 (List.map D.int t1)] (.tup [.sl 1 (List.map D.int r.1), .bool r.2]) := by
 refine Pure.ot Tryz.func77 I Tryz.ntmps77 I fun A w => .sr<|.p I (.nilS 1 (α := Int) D.int I)<|.z I<|.nil<|.seq<|.seq<|.plain 9 I<|.m I<|bK h fun x1 q1 h => .p I (.callLe I K124 I (.cons (.refl _) (.cons (.nil _) (.nil))) (ref17_Valid_ok _ _ _ _ q1))<|.p I (.nt I)<|.m I<|gK h fun c3 h => .jO 4 (!((zY n t0 t1).getD default)) I (fun b2 => ?_) ?_
 ·refine .qm I<|.qm I<|.q I (.call I K78 I (ref17_Contains_ok _ _ _ _ (someD (impF c3 b2))))<|.q I (.nt I)<|.nil I
 refine .nil<|.nil<|.condS I h (fun h => ?_) fun h => ?_
 ·refine .sr<|.p I (.nilS 1 (α := Int) D.int I)<|.z I<|.nil<|.ret ?_
  cases h
  exact zcF I I (.d _) (.d _)
 ·refine .skip<|.seq<|.sr<|.m I<|.p I (.len I U48 I)<|.p I (.sb I)<|.z I<|.nil<|.block<|.loopS [0, 1] (fun (v : Int) => [(6, .d (.int v))]) (fun (v : Int) => []) (.c2 I .nil) h ⟨_, Fz4 I<|Fz2 I trivial⟩ (fun _ x72 h => ?_)
  refine .seq<|.sr<|.m I<|.p I (.ge I)<|.nil<|.keep [] [0, 1, 6, 22] (.c4 I .nil) I<|.condS I h (fun h => ?_) fun h => ?_
  ·refine .skip<|.seq<|.block<|.seq<|.draw 10 Hm (by kernel_rfl) (by kernel_rfl)<|.m I<|.m I<|bK h fun x74 q74 h => .p I (.ix I U22 S3 q74)<|.p I (.ld Y3 I)<|.m I<|.m I<|bK h fun x75 q75 h => .p I (.ix I U48 S87 q75)<|.f I (G87_1 _) Y3 I<|.p I (.ls I)<|.nil<|.nil<|.condS I h (fun h => ?_) fun h => ?_
   ·refine .sr<|.buildVec [] I I I I I E22 I (fun _ => I) I (enc := D.int)<|.z I<|.nil<|.seq<|.sr<|.z I<|.nil<|.block<|.loopS [0, 1, 6] (fun (v : (List Int) × Int) => [(7, .vec 0 (List.length v.1)), (8, .d (.int v.2))]) (fun (v : (List Int) × Int) => [(0, .vec 3 1 (List.map D.int v.1))]) (.c2 I<|.c I .nil) h ⟨_, Fz8 I trivial⟩ (fun _ v h => ?_)
    obtain ⟨b0_96, x97⟩ := v
    refine .seq<|.sr<|.m I<|.m I<|.p I (.len I U48 I)<|.p I (.ls I)<|.nil<|.keep [.vec 3 1 (List.map D.int b0_96)] [0, 1, 6, 7, 8, 39] (.c4 I<|.c2 I .nil) I<|.condS I h (fun h => ?_) fun h => ?_
    ·refine .skip<|.join [0, 1, 6, 8] (fun (v : (List Int)) => [(7, .vec 0 (List.length v))]) (fun (v : (List Int)) => [(0, .vec 3 1 (List.map D.int v))]) (.c4 I .nil) h (fun k_100 h => ?_) (fun b0_99 h => ?_)
     ·refine .block<|.block<|.sr<|.m I<|.m I<|.p I (.ls I)<|.z I<|.nil<|.condS I h (fun h => ?_) fun h => ?_
      ·refine .region<|.m I<|.m I<|.m I<|bK h fun x101 q101 h => .p I (.ix I U22 S3 q101)<|.p I (.ld Y3 I)<|.p I (.buildSl [_] I I E22 I (fun _ => I) I (enc := D.int))<|bK h fun x102 q102 h => .app I I I I I I I I E22 I (fun _ => I) q102<|.z I<|.nil ⟨_, h, _, Fz8 I trivial⟩
      ·refine .sr<|.m I<|.m I<|.p I (.eq I)<|.z I<|.nil<|.condS I h (fun h => ?_) fun h => ?_
       ·refine .region<|.m I<|.m I<|.m I<|bK h fun x103 q103 h => .p I (.ix I U22 S3 q103)<|.p I (.ld Y3 I)<|.p I (.ad I)<|.p I (.buildSl [_] I I E22 I (fun _ => I) I (enc := D.int))<|bK h fun x104 q104 h => .app I I I I I I I I E22 I (fun _ => I) q104<|.z I<|.nil ⟨_, h, _, Fz8 I trivial⟩
       ·refine .region<|.m I<|.m I<|.m I<|bK h fun x105 q105 h => .p I (.ix I U48 S87 q105)<|.f I (G87_0 _) Y3 I<|.p I (.buildSl [_] I I E22 I (fun _ => I) I (enc := D.int))<|bK h fun x106 q106 h => .app I I I I I I I I E22 I (fun _ => I) q106<|.z I<|.nil ⟨_, h, _, Fz8 I trivial⟩
     ·refine .region<|.m I<|.p I (.ad I)<|.z I<|.nil ⟨_, h, _, Fz8 I trivial⟩
    ·refine .exit<|.sr<|.m I<|.z I<|.z I<|.nil<|.ret ?_
     cases h
     exact zcF I I (.vec I (by simp)) (.d _)
   ·refine .skip<|.region<|.m I<|.p I (.sb I)<|.z I<|.nil ⟨_, h, _, Fz4 I<|Fz2 I trivial⟩
  ·refine .exit<|.sr<|.p I (.nilS 1 (α := Int) D.int I)<|.z I<|.nil<|.ret ?_
   cases h
   exact zcF I I (.d _) (.d _)
theorem law22_states_ok (n : Nat) (t0 : Model) (t1 : (List Int) → Option Bool) (F1 : D) (hF1 : ∀ (q0 : List Int) (y : Bool), t1 q0 = some y → Dyn Tryz.prog F1 [.sl 1 (List.map D.int q0)] (.bool y)) (r : Bool) (h : zbp n t0 t1 = some r) : Pure Tryz.prog 23 [Model.enc t0, F1] (.bool r) := by
 refine Pure.ot Tryz.func23 I Tryz.ntmps23 I fun A w => .sr<|.p I (.bx I)<|.z I<|.nil<|.sr<|.p I (.ld Y30 I)<|bK h fun x1 q1 h => .p I (.call I K65 I (ref22_Box_ok _ _ _ q1))<|.z I<|.nil<|.sr<|.m I<|bK h fun x2 q2 h => .p I (.call I K76 I (ref17_Least_ok _ _ _ q2))<|.z I<|.z I<|.nil<|.seq<|.block<|.loopS [1, 5] (fun (v : (List Int) × Bool) => [(6, .d (.sl 1 (List.map D.int v.1))), (7, .d (.bool v.2))]) (fun (v : (List Int) × Bool) => []) (.c2 I .nil) h ⟨_, Fz4 I<|Fz2 I<|Fz1 I trivial⟩ (fun _ v h => ?_)
 obtain ⟨x11, x12⟩ := v
 refine .seq<|.sr<|.m I<|.nil<|.keep [] [1, 5, 6, 12] (.c4 I .nil) I<|.condS I h (fun h => ?_) fun h => ?_
 ·refine .skip<|.block<|.seq<|.sr<|.m I<|.m I<|bK h fun x14 q14 h => .p I (.dyn I I I (hF1 _ _ q14))<|.p I (.nt I)<|.nil<|.condS I h (fun h => ?_) fun h => ?_
  ·refine .sr<|.z I<|.nil<|.ret (rO h I)
  ·refine .skip<|.region<|.m I<|.m I<|bK h fun x15 q15 h => .p I (.call I K77 I (ref17_Next_ok _ _ _ _ q15))<|.m I<|.p I (.extract I I I)<|.p I (.extract I I I)<|.z I<|.z I<|.nil ⟨_, h, _, Fz4 I<|Fz2 I<|Fz1 I trivial⟩
 ·refine .exit<|.sr<|.z I<|.nil<|.ret (rO h I)
theorem law22_ConditionRelative_1_ok (n : Nat) (t0 : List Int) (t1 : System) (t2 : System) (r : Bool) (h : zaU n t0 t1 t2 = some r) : Pure Tryz.prog 30 [.sl 1 (List.map D.int t0), .ref (System.enc t1), .ref (System.enc t2)] (.bool r) := by
 refine Pure.ot Tryz.func30 I Tryz.ntmps30 I fun A w => .sr<|.z I<|.nil<|.seq<|.plain 9 I<|.p I (.ld Y53 I)<|.m I<|bK h fun x1 q1 h => .p I (.call I K25 I (ref18_Holds_ok _ _ _ _ q1))<|.p I (.nt I)<|.m I<|gK h fun c3 h => .jO 3 (((zb2 n t2 t0).getD default)) I (fun b2 => ?_) ?_
 ·refine .q I (.ld Y53 I)<|.qm I<|.q I (.call I K25 I (ref18_Holds_ok _ _ _ _ (someD (impF c3 b2))))<|.nil I
 refine .nil<|.z I<|.nil<|.ret (rO h I)
end Go.Proofs.YtcagdmegicijlaaGreatDoor
namespace Go.Proofs.YtcagdmegicijlaaGreatDoor
open Go Go.RowKit
def relB (m : Model) (q : Question) (t : List Int) (a b : System) (e : Int) : List (Nat × V) := [(2, .d (LI t)), (3, .d (.ref (Model.enc m))), (4, .d (.ref (Question.enc q))), (7, .d (.ref (System.enc a))), (9, .d (.ref (System.enc b))), (10, .d (.int e))]
def relS (m : Model) (q : Question) (t z u : List Int) (k : Int) (s : System × Int) (B : List (Nat × V)) (f : Nat → Bool) (y : Bool) : St :=
  ⟨B ++ [(46, bif f 0 then .d (Model.enc m) else .junk), (47, bif f 1 then .d (Question.enc q) else .junk), (48, bif f 2 then .d (LI t) else .junk), (49, bif f 3 then .vec (bif f 13 && !y then 2 else 1) z.length else .junk), (50, bif f 4 then .d (LI t) else .junk), (51, bif f 5 then .d (.ref (.int k)) else .junk), (52, bif f 6 then .d (.int k) else .junk), (53, bif f 7 then .d (.sl 1 ([k].map D.int)) else .junk), (54, bif f 8 then .d (LI u) else .junk), (55, bif f 9 then .d (.tup [System.enc s.1, .int s.2]) else .junk), (45, bif f 10 then .d (.tup [System.enc s.1, .int s.2]) else .junk), (56, bif f 11 then .d (System.enc s.1) else .junk), (57, bif f 12 then .d (.int s.2) else .junk), (11, bif f 13 then (bif f 14 then .d (.ref (System.enc s.1)) else .loc (bif f 3 && y then 2 else 1) 0) else .junk), (12, bif f 15 then .d (.int s.2) else .junk)],
   bif f 3 then (bif f 13 then (bif y then [.dead, bif f 8 then .dead else .vec 3 1 (z.map D.int), bif f 14 then .dead else .box 53 (V.cellsV (.d (.agg [.sl 2 (List.map Range.enc []), .sl 2 (List.map Row.enc []), .sl 3 (List.map Graph.enc []), .sl 1 (List.map (fun l => D.sl 2 (List.map Row.enc l)) [])])))] else [.dead, bif f 14 then .dead else .box 53 (V.cellsV (.d (.agg [.sl 2 (List.map Range.enc []), .sl 2 (List.map Row.enc []), .sl 3 (List.map Graph.enc []), .sl 1 (List.map (fun l => D.sl 2 (List.map Row.enc l)) [])]))), bif f 8 then .dead else .vec 3 1 (z.map D.int)]) else [.dead, bif f 8 then .dead else .vec 3 1 (z.map D.int)]) else bif f 13 then [.dead, bif f 14 then .dead else .box 53 (V.cellsV (.d (.agg [.sl 2 (List.map Range.enc []), .sl 2 (List.map Row.enc []), .sl 3 (List.map Graph.enc []), .sl 1 (List.map (fun l => D.sl 2 (List.map Row.enc l)) [])])))] else [.dead]⟩
set_option maxRecDepth 10000 in
theorem law22_ConditionRelative_ok (n : Nat) (t0 : Model) (t1 : Question) (t2 : List Int) (r : Bool) (h : zbK n t0 t1 t2 = some r) : Pure Tryz.prog 8 [Model.enc t0, Question.enc t1, .sl 1 (List.map D.int t2)] (.bool r) := by
 refine Pure.ot Tryz.func8 I Tryz.ntmps8 I fun A w => .sr<|.p I (.bx I)<|.p I (.bx I)<|.z I<|.nil<|.seq<|.sr<|bK h fun x1 q1 h => .p I (.call I K10 I (law22_awake_ok _  _ q1))<|.p I (.nt I)<|.nil<|.condS I h (fun h => ?_) fun h => ?_
 ·refine .sr<|.z I<|.nil<|.ret (rO h I)
 ·refine .skip<|.seq<|.seq<|.plain 8 I<|.p I (.ld Y30 I)<|bK h fun x2 q2 h => .p I (.call I K11 I (ref13_Few_ok _ _ _ q2))<|.p I (.nt I)<|.m I<|.jO 3 (decide (20 < (t2.length : Int))) I (fun b3 => ?_) ?_
  ·refine .qm I<|.q I (.len I U22 I)<|.q I (.gt I)<|.nil I
  refine .nil<|.nil<|.condS I h (fun h => ?_) fun h => ?_
  ·refine .sr<|.z I<|.nil<|.ret (rO h I)
  ·refine .skip<|.sr<|.p I (.ld Y30 I)<|.p I (.ld Y37 I)<|.m I<|bK h fun x4 q4 h => .p I (.call I K19 I (zbM _ _ _ _ _ q4))<|.m I<|.p I (.extract I I I)<|.p I (.extract I I I)<|.allocStore I I I I I I I I (by simp) I I Z53<|.z I<|.nil<|.keep [] [2, 3, 4, 7, 8] (.c4 I<|.c I .nil) I<|.seq<|.seq<|.plain 7 I<|.m I<|.p I (.ne I)<|.m I<|.jO 3 ((t2.length : Int) == 0) I (fun b5 => ?_) ?_
   ·refine .qm I<|.q I (.len I U22 I)<|.q I (.eq I)<|.nil I
   refine .nil<|.nil<|.condS I h (fun h => ?_) fun h => ?_
   ·refine .sr<|.z I<|.nil<|.ret (rO h I)
   ·refine .skip<|.seq<|.draw 11 Hm (by kernel_rfl) (by kernel_rfl)<|.p I (.ld Y30 I)<|.p I (.ld Y37 I)<|.m I<|bK h fun x6 q6 h => .p I (.cutSlL I I I U22 S3 q6)<|bK h fun x7 q7 h => .p I (.call I K19 I (zbM _ _ _ _ _ q7))<|.m I<|.p I (.extract I I I)<|.p I (.extract I I I)<|.alloc I I I I ZZ53<|.store I I I I I I Z53<|.z I<|.nil<|.freezes [0] (.cons (t := 9) (d := .ref (System.enc x7.1)) I (.loc (inIds I) I (.cons (.d _) (.cons (.d _) (.cons (.d _) (.cons (.d _) (.nil)))))) (.nil))<|.nil<|.keep [.dead] [2, 3, 4, 7, 9, 10] (.c4 I<|.c2 I .nil) I<|.seq<|bK h fun x8 q8 h => bK h fun x9 q9 h => bK h fun x10 q10 h => bK h fun x11 q11 h => .drawL [46, 47, 48, 49, 50, 51, 52, 53, 54, 55, 45, 56, 57, 11, 12] (fun f s => ∃ y, s = relS t0 t1 t2 x8 x10 x9 x11 (relB t0 t1 t2 x4.1 x7.1 x7.2) f y) Hm (by decide +kernel) I ⟨true, I⟩ I ?_ ?_
    ·intro f s ⟨y, e⟩ i hi h0 hd hc
     subst e
     match i with
     | 0 => refine ⟨_, _, I, ⟨y, I⟩, ?_⟩; unfold relS; exact OneI.ge (OneI.of I (.p I (.ld Y30 I) (.nil ⟨I, I⟩))) I
     | 1 => refine ⟨_, _, I, ⟨y, I⟩, ?_⟩; unfold relS; exact OneI.ge (OneI.of I (.p I (.ld Y37 I) (.nil ⟨I, I⟩))) I
     | 2 => refine ⟨_, _, I, ⟨y, I⟩, ?_⟩; unfold relS; exact OneI.ge (OneI.of I (.m I (.nil ⟨I, I⟩))) I
     | 3 =>
      refine ⟨_, _, I, ⟨!f 13, I⟩, ?_⟩; unfold relS; rw [h0, show upd f 3 8 = false from hc 8 3 I h0, hc 8 3 I h0, show upd f 3 2 = true from hd 2 I, hd 2 I, show upd f 3 13 = f 13 from I]; cases f 13
      ·exact OneI.ge (OneI.of I (.clone (enc := D.int) I I I I K29 Tryz.func29 I Tryz.ntmps29 I I E22 I (fun _ => I) (fun _ => I) q8 (by simp [relB, V.under_cond, V.under]) I (.nil ⟨I, I⟩))) I
      ·exact OneI.ge (OneI.of I (.clone (enc := D.int) I I I I K29 Tryz.func29 I Tryz.ntmps29 I I E22 I (fun _ => I) (fun _ => I) q8 (by simp [relB, V.under_cond, V.under]) I (.nil ⟨I, I⟩))) I
     | 4 => refine ⟨_, _, I, ⟨y, I⟩, ?_⟩; unfold relS; exact OneI.ge (OneI.of I (.m I (.nil ⟨I, I⟩))) I
     | 5 => refine ⟨_, _, I, ⟨y, I⟩, ?_⟩; unfold relS; rw [show upd f 5 4 = true from hd 4 I, hd 4 I]; exact OneI.ge (OneI.of I (.p I (.ix I U22 S3 q9) (.nil ⟨I, I⟩))) I
     | 6 => refine ⟨_, _, I, ⟨y, I⟩, ?_⟩; unfold relS; rw [show upd f 6 5 = true from hd 5 I, hd 5 I]; exact OneI.ge (OneI.of I (.p I (.ld Y3 I) (.nil ⟨I, I⟩))) I
     | 7 => refine ⟨_, _, I, ⟨y, I⟩, ?_⟩; unfold relS; rw [show upd f 7 6 = true from hd 6 I, hd 6 I]; exact OneI.ge (OneI.of I (.p I (.buildSl [_] I I E22 I (fun _ => I) I (enc := D.int)) (.nil ⟨I, I⟩))) I
     | 8 =>
      refine ⟨_, _, I, ⟨y, I⟩, ?_⟩; unfold relS; rw [h0, show upd f 8 3 = true from hd 3 I, hd 3 I, show upd f 8 7 = true from hd 7 I, hd 7 I, show upd f 8 13 = f 13 from I]; cases y <;> cases f 13
      ·exact OneI.ge (OneI.of I (.app I I I I I I I I E22 I (fun _ => I) q10 (.freezes [1] (.cons (t := 54) I (.vec (inIds I) I (by simp)) .nil) (.nil ⟨I, I⟩)))) I
      ·exact OneI.ge (OneI.of I (.app I I I I I I I I E22 I (fun _ => I) q10 (.freezes [2] (.cons (t := 54) I (.vec (inIds I) I (by simp)) .nil) (.nil ⟨I, I⟩)))) I
      ·exact OneI.ge (OneI.of I (.app I I I I I I I I E22 I (fun _ => I) q10 (.freezes [1] (.cons (t := 54) I (.vec (inIds I) I (by simp)) .nil) (.nil ⟨I, I⟩)))) I
      ·exact OneI.ge (OneI.of I (.app I I I I I I I I E22 I (fun _ => I) q10 (.freezes [1] (.cons (t := 54) I (.vec (inIds I) I (by simp)) .nil) (.nil ⟨I, I⟩)))) I
     | 9 => refine ⟨_, _, I, ⟨y, I⟩, ?_⟩; unfold relS; rw [show upd f 9 0 = true from hd 0 I, hd 0 I, show upd f 9 1 = true from hd 1 I, hd 1 I, show upd f 9 8 = true from hd 8 I, hd 8 I]; exact OneI.ge (OneI.of I (.p I (.call I K19 I (zbM _ _ _ _ _ q11)) (.nil ⟨I, I⟩))) I
     | 10 => refine ⟨_, _, I, ⟨y, I⟩, ?_⟩; unfold relS; rw [show upd f 10 9 = true from hd 9 I, hd 9 I]; exact OneI.ge (OneI.of I (.m I (.nil ⟨I, I⟩))) I
     | 11 => refine ⟨_, _, I, ⟨y, I⟩, ?_⟩; unfold relS; rw [show upd f 11 10 = true from hd 10 I, hd 10 I]; exact OneI.ge (OneI.of I (.p I (.extract I I I) (.nil ⟨I, I⟩))) I
     | 12 => refine ⟨_, _, I, ⟨y, I⟩, ?_⟩; unfold relS; rw [show upd f 12 10 = true from hd 10 I, hd 10 I]; exact OneI.ge (OneI.of I (.p I (.extract I I I) (.nil ⟨I, I⟩))) I
     | 13 =>
      refine ⟨_, _, I, ⟨f 3, I⟩, ?_⟩; unfold relS; rw [h0, show upd f 13 14 = false from hc 14 13 I h0, show upd f 13 3 = f 3 from I]; cases f 3
      ·exact OneI.ge (OneI.of I (.allocZ I I I I (.agg Zc53 (ds' := [.sl 2 (List.map Range.enc []), .sl 2 (List.map Row.enc []), .sl 3 (List.map Graph.enc []), .sl 1 (List.map (fun l => D.sl 2 (List.map Row.enc l)) [])]) (.cons (.nil _) (.cons (.nil _) (.cons (.nil _) (.cons (.nil _) .nil))))) I (.nil ⟨I, I⟩))) I
      ·exact OneI.ge (OneI.of I (.allocZ I I I I (.agg Zc53 (ds' := [.sl 2 (List.map Range.enc []), .sl 2 (List.map Row.enc []), .sl 3 (List.map Graph.enc []), .sl 1 (List.map (fun l => D.sl 2 (List.map Row.enc l)) [])]) (.cons (.nil _) (.cons (.nil _) (.cons (.nil _) (.cons (.nil _) .nil))))) I (.nil ⟨I, I⟩))) I
     | 14 =>
      refine ⟨_, _, I, ⟨y, I⟩, ?_⟩; unfold relS; rw [h0, show upd f 14 3 = true from hd 3 I, hd 3 I, show upd f 14 8 = true from hd 8 I, hd 8 I, show upd f 14 11 = true from hd 11 I, hd 11 I, show upd f 14 13 = true from hd 13 I, hd 13 I]; cases y
      ·exact OneI.ge (OneI.of I (.store I I I I I I (.ofD I) C53 I (Nat.le_of_ble_eq_true I) (.freezes [1] (.cons (t := 11) (d := .ref (System.enc x11.1)) I (.loc (inIds I) I (.cons (.d _) (.cons (.d _) (.cons (.d _) (.cons (.d _) .nil))))) .nil) (.nil ⟨I, I⟩)))) I
      ·exact OneI.ge (OneI.of I (.store I I I I I I (.ofD I) C53 I (Nat.le_of_ble_eq_true I) (.freezes [2] (.cons (t := 11) (d := .ref (System.enc x11.1)) I (.loc (inIds I) I (.cons (.d _) (.cons (.d _) (.cons (.d _) (.cons (.d _) .nil))))) .nil) (.nil ⟨I, I⟩)))) I
     | 15 => refine ⟨_, _, I, ⟨y, I⟩, ?_⟩; unfold relS; rw [show upd f 15 12 = true from hd 12 I, hd 12 I]; exact OneI.ge (OneI.of I (.z I (.nil ⟨I, I⟩))) I
     | i + 16 => exact absurd hi (Nat.not_lt.2 (Nat.le_add_left 16 i))
    ·intro f s hf ⟨y, e⟩
     subst e
     unfold relS
     rw [hf 3 (by decide), hf 8 (by decide), hf 13 (by decide), hf 14 (by decide), hf 15 (by decide)]
     simp only [cond_true, Bool.cond_self]
     refine .keep [.dead, .dead, .dead] [2, 3, 4, 7, 9, 10, 11, 12] (.c8 I .nil) I<|.cut [.dead, .dead] ⟨_, I⟩ I I (Fz8 I trivial) I<|.seq<|.seq<|.plain 12 I<|.m I<|.p I (.ne I)<|.m I<|.jO 2 (x11.2 != 0) I (fun b12 => ?_) ?_
     ·refine .qm I<|.q I (.ne I)<|.nil I
     refine .m I<|gK h fun c14 h => .jO 4 (!((zar n x4.1 x11.1).getD default)) I (fun b13 => ?_) ?_
     ·refine .q I (.ld Y53 I)<|.q I (.ld Y53 I)<|.q I (.call I K21 I (ref18_Same_ok _ _ _ _ (someD (impF c14 b13))))<|.q I (.nt I)<|.nil I
     refine .nil<|.nil<|.condS I h (fun h => ?_) fun h => ?_
     ·refine .sr<|.z I<|.nil<|.ret (rO h I)
     ·refine .skip<|.seq<|.seq<|.draw 19 Hm (by kernel_rfl) (by kernel_rfl)<|.p I (.fa I (G37_2 _))<|.f I (G35_0 _) Y4 I<|.p I (.nt I)<|.m I<|gK h fun c16 h => .jA 7 (((idx t2 0).getD default) == t1.target.index) I (fun b15 => ?_) ?_
      ·refine .qm I<|.q I (.ix I U22 S3 (someD (impT c16 b15)))<|.q I (.ld Y3 I)<|.q I (.fa I (G37_2 _))<|.qf I (G35_1 _) Y3 I<|.q I (.eq I)<|.nil I
      refine .m I<|gK h fun c18 h => .jA 4 (!((zar n x4.1 x7.1).getD default)) I (fun b17 => ?_) ?_
      ·refine .q I (.ld Y53 I)<|.q I (.ld Y53 I)<|.q I (.call I K21 I (ref18_Same_ok _ _ _ _ (someD (impT c18 b17))))<|.q I (.nt I)<|.nil I
      refine .nil<|.nil<|.keep [.dead, .dead] [3, 7, 9, 88] (.c4 I .nil) I<|.condS I h (fun h => ?_) fun h => ?_
      ·refine .sr<|.z I<|.nil<|.ret (rO h I)
      ·refine .skip<|.sr<|.p I (.ld Y30 I)<|.p I (.makeFunc I I)<|bK h fun x19 q19 h => .p I (.call I K23 I (law22_states_ok _ _ _ _ (fun q0 y hq => ⟨_, _, I, K30, law22_ConditionRelative_1_ok _ q0 _ _ _ hq⟩) _ q19))<|.z I<|.nil<|.ret (rO h I)
end Go.Proofs.YtcagdmegicijlaaGreatDoor
namespace Go.Proofs.YtcagdmegicijlaaGreatDoor
open Go Go.RowKit
theorem zL {σ R : Type} {body : (σ → Option R) → σ → Option R} {len : Nat} {st : Nat → σ} {g : Nat → Option R}
  (hb : ∀ rec i, i < len → rec (st (i + 1)) = g (i + 1) → body rec (st i) = g i) (he : ∀ rec, body rec (st len) = g len) :
  ∀ n i, i ≤ len → len - i < n → loopF body n (st i) = g i
 | 0, _, _, h => by omega
 | n + 1, i, hi, h => by
  simp only [loopF]
  by_cases e : i = len
  ·subst e; exact he _
  ·exact hb _ i (by omega) (zL hb he n (i + 1) (by omega) (by omega))
theorem zd {i : Nat} (h : i < 4611686018427387904) : add64 (i : Int) 1 = ((i + 1 : Nat) : Int) := by
 unfold add64; rw [zbX (by omega) (by omega)]; omega
theorem za {α : Type} {l : List α} {i : Nat} (h : i < l.length) : idx l (i : Int) = some l[i] := by
 unfold idx; rw [if_pos (by omega)]; simp [h]
theorem zo {α : Type} {l : List α} {i : Nat} (h : i < l.length) : decide ((i : Int) < (l.length : Int)) = true := by simp; omega
theorem zaN {α : Type} {l : List α} : decide (((l.length : Nat) : Int) < (l.length : Int)) = false := by simp
def zct : List Change → Int → Int
 | [], _ => 0
 | d :: l, c => if d.cell = c then d.add else zct l c
theorem zr {α : Type} {l : List α} {i : Nat} (h : i < l.length) : l.drop i = l[i] :: l.drop (i + 1) := List.drop_eq_getElem_cons h
theorem zZ {n : Nat} {a : Action} (c : Int) (hl : a.effect.delta.length < 4611686018427387904) (hn : a.effect.delta.length < n) : zz n a c = some (zct a.effect.delta c) := by
 have := zL (body := zz.l1 n a c) (len := a.effect.delta.length) (st := fun i => (i : Int)) (g := fun i => some (zct (a.effect.delta.drop i) c)) (fun rec i hi hr => ?_) (fun rec => ?_) n 0 (Nat.zero_le _) (by omega)
 ·simpa [zz] using this
 ·simp only [zz.l1, zo hi, if_true, za hi, Option.bind_some, zd (show i < 4611686018427387904 by omega), hr]
  rw [zr hi]
  simp only [zct, beq_iff_eq]
  split <;> rfl
 ·simp [zz.l1, zct]
def zcY (f : Int → Int) : List Term → Int → Int
 | [], s => s
 | t :: l, s => zcY f l (add64 s (mul64 t.factor (f t.cell)))
def takeP (f : Int → Int) (l : List Term) (i : Nat) : Int := zcY f (l.take i) 0
theorem changeP_append (f : Int → Int) : ∀ (l m : List Term) (s : Int), zcY f (l ++ m) s = zcY f m (zcY f l s)
 | [], _, _ => rfl
 | _ :: l, m, s => by simp only [List.cons_append, zcY]; exact changeP_append f l m _
theorem takeP_succ (f : Int → Int) {l : List Term} {i : Nat} (h : i < l.length) : takeP f l (i + 1) = add64 (takeP f l i) (mul64 l[i].factor (f l[i].cell)) := by
 unfold takeP
 rw [List.take_succ_eq_append_getElem h, changeP_append]
 rfl
theorem condition_change_eq {n : Nat} {a : Action} {r : Row} (h1 : a.effect.delta.length < 4611686018427387904) (h2 : a.effect.delta.length < n) (h3 : r.terms.length < 4611686018427387904) (h4 : r.terms.length < n) :
  zi n a r = some (zcY (zct a.effect.delta) r.terms 0) := by
 have := zL (body := zi.l1 n a r) (len := r.terms.length) (st := fun i => (takeP (zct a.effect.delta) r.terms i, (i : Int))) (g := fun _ => some (zcY (zct a.effect.delta) r.terms 0)) (fun rec i hi hr => ?_) (fun rec => ?_) n 0 (Nat.zero_le _) (by omega)
 ·simpa [zi, takeP, zcY] using this
 ·simp only [zi.l1, zo hi, if_true, za hi, Option.bind_some, zZ _ h1 h2, zd (show i < 4611686018427387904 by omega), ← takeP_succ _ hi, hr]
 ·simp [zi.l1, takeP]
def addP (c : Int) : List Change → Int → Int
 | [], s => s
 | d :: l, s => addP c l (if d.cell = c then add64 s d.add else s)
end Go.Proofs.YtcagdmegicijlaaGreatDoor
namespace Go.Proofs.YtcagdmegicijlaaGreatDoor
open Go Go.RowKit
variable {κ : Type} [DecidableEq κ]
structure SetIs (m : GMap κ Bool) (l : List κ) : Prop where
 tru : ∀ e ∈ m.es, e.2.2 = true
 mem : ∀ k, k ∈ m.es.map (fun e => e.2.1) ↔ k ∈ l
theorem findK_get (k : κ) : ∀ (es : List (Nat × κ × Bool)), (∀ e ∈ es, e.2.2 = true) → ((findK k es).map (·.2)).getD false = decide (k ∈ es.map (fun e => e.2.1))
 | [], _ => by simp [findK]
 | e :: es, h => by
  simp only [findK, List.map_cons, List.mem_cons]
  by_cases hk : k = e.2.1
  ·simp [hk, h e (by simp)]
  ·rw [if_neg hk]
   have := findK_get k es fun x hx => h x (by simp [hx])
   simp only [hk, false_or, ← this, Option.map_map]
   cases findK k es <;> rfl
theorem findK_no (k : κ) : ∀ (es : List (Nat × κ × Bool)), findK k es = none → k ∉ es.map (fun e => e.2.1)
 | [], _ => by simp
 | e :: es, h => by
  simp only [findK] at h
  split at h
  ·cases h
  ·rename_i hk
   simp only [Option.map_eq_none_iff] at h
   simp only [List.map_cons, List.mem_cons, not_or]
   exact ⟨hk, findK_no k es h⟩
theorem findK_yes (k : κ) : ∀ (es : List (Nat × κ × Bool)) (p : Nat × Bool), findK k es = some p → k ∈ es.map (fun e => e.2.1)
 | [], _, h => by simp [findK] at h
 | e :: es, p, h => by
  simp only [findK] at h
  split at h
  ·rename_i hk; simp [hk]
  ·simp only [Option.map_eq_some_iff] at h
   obtain ⟨q, h1, _⟩ := h
   exact List.mem_cons_of_mem _ (findK_yes k es q h1)
theorem SetIs.get {m : GMap κ Bool} {l : List κ} (h : SetIs m l) (k : κ) : (m.get? k).getD false = decide (k ∈ l) := by
 unfold GMap.get?
 rw [findK_get k m.es h.tru]
 exact decide_eq_decide.2 (h.mem k)
theorem SetIs.empty : SetIs (GMap.empty : GMap κ Bool) [] := ⟨fun e he => (by simp [GMap.empty] at he), fun k => by simp [GMap.empty]⟩
theorem modify_keys (f : Nat × κ × Bool → Nat × κ × Bool) (hf : ∀ e, (f e).2.1 = e.2.1) : ∀ (es : List (Nat × κ × Bool)) (i : Nat), (es.modify i f).map (fun e => e.2.1) = es.map (fun e => e.2.1)
 | [], _ => by simp
 | e :: es, 0 => by simp [hf]
 | e :: es, i + 1 => by simp [modify_keys f hf es i]
theorem modify_all {p : Nat × κ × Bool → Prop} (f : Nat × κ × Bool → Nat × κ × Bool) (hf : ∀ e, p (f e)) : ∀ (es : List (Nat × κ × Bool)) (i : Nat), (∀ e ∈ es, p e) → ∀ e ∈ es.modify i f, p e
 | [], _, _ => by simp
 | e :: es, 0, h => by
  intro x hx
  simp only [List.modify_zero_cons, List.mem_cons] at hx
  rcases hx with rfl | hx
  ·exact hf e
  ·exact h x (by simp [hx])
 | e :: es, i + 1, h => by
  intro x hx
  simp only [List.modify_succ_cons, List.mem_cons] at hx
  rcases hx with rfl | hx
  ·exact h x (by simp)
  ·exact modify_all f hf es i (fun y hy => h y (by simp [hy])) x hx
theorem SetIs.put {m : GMap κ Bool} {l : List κ} (h : SetIs m l) (k : κ) : SetIs (m.put k true) (l ++ [k]) := by
 unfold GMap.put
 cases hk : findK k m.es with
 | none =>
  simp only []
  refine ⟨fun e he => ?_, fun x => ?_⟩
  ·simp only [List.mem_append, List.mem_singleton] at he
   rcases he with he | rfl
   ·exact h.tru e he
   ·rfl
  ·simp only [List.map_append, List.map_cons, List.map_nil, List.mem_append, List.mem_singleton, h.mem x]
 | some p =>
  obtain ⟨i, b⟩ := p
  simp only []
  have hkl : k ∈ l := (h.mem k).1 (findK_yes k m.es _ hk)
  refine ⟨modify_all (p := fun e => e.2.2 = true) _ (fun e => rfl) m.es i h.tru, fun x => ?_⟩
  rw [modify_keys (fun e : Nat × κ × Bool => (e.1, e.2.1, true)) (fun e => rfl) m.es i, h.mem x]
  simp only [List.mem_append, List.mem_singleton]
  exact ⟨.inl, fun hx => hx.elim id fun e => by rw [e]; exact hkl⟩
end Go.Proofs.YtcagdmegicijlaaGreatDoor
namespace Go.Proofs.YtcagdmegicijlaaGreatDoor
open Go Go.RowKit
def ixP {α : Type} (p : α → Bool) : List α → Nat → Int
 | [], _ => -1
 | x :: l, i => if p x = true then (i : Int) else ixP p l (i + 1)
theorem ixP_iff {α : Type} (p : α → Bool) : ∀ (l : List α) (i : Nat), 0 ≤ ixP p l i ↔ l.any p = true
 | [], _ => by simp [ixP]
 | x :: l, i => by
  have ih := ixP_iff p l (i + 1)
  rw [ixP, List.any_cons]
  by_cases h : p x = true
  ·rw [if_pos h, h]; simp
  ·rw [if_neg h, ih]; simp only [Bool.not_eq_true] at h; rw [h, Bool.false_or]
theorem ixP_any {α : Type} (p : α → Bool) (l : List α) (i : Nat) : decide (0 ≤ ixP p l i) = l.any p := by
 have := ixP_iff p l i
 cases h : l.any p with
 | true => exact decide_eq_true (this.2 h)
 | false => exact decide_eq_false fun hc => by rw [this.1 hc] at h; cases h
theorem IndexFunc_Lint_eq {n : Nat} {l : List Int} {f : Int → Option Bool} {p : Int → Bool} (hf : ∀ x ∈ l, f x = some (p x)) (hl : l.length < 4611686018427387904) (hn : l.length < n) : zI n l f = some (ixP p l 0) := by
 have := zL (body := zI.l1 n l f) (len := l.length) (st := fun i => (i : Int)) (g := fun i => some (ixP p (l.drop i) i)) (fun rec i hi hr => ?_) (fun rec => ?_) n 0 (Nat.zero_le _) (by omega)
 ·simpa [zI] using this
 ·simp only [zI.l1, zo hi, if_true, za hi, Option.bind_some, hf _ (List.getElem_mem hi), zd (show i < 4611686018427387904 by omega), hr]
  rw [zr hi]
  simp only [ixP]
  split <;> rfl
 ·simp [zI.l1, ixP]
theorem zbz {n : Nat} {l : List Int} {f : Int → Option Bool} {p : Int → Bool} (hf : ∀ x ∈ l, f x = some (p x)) (hl : l.length < 4611686018427387904) (hn : l.length < n) : zm n l f = some (l.any p) := by
 unfold zm
 rw [IndexFunc_Lint_eq hf hl hn, Option.bind_some, ixP_any]
def zb1 (x : Int) : Bool := decide (1 ≤ x) && decide (x ≤ 6)
def colOK (sizes : List Int) (c : Int) : Bool := decide (0 ≤ c) && decide (c < (sizes.length : Int))
theorem any_not {α : Type} (p : α → Bool) (l : List α) : (!l.any fun x => !p x) = l.all p := by
 induction l with
 | nil => rfl
 | cons x l ih => simp only [List.any_cons, List.all_cons, ← ih]; cases p x <;> simp
theorem cells_sized_eq {n : Nat} {l : List Int} (hl : l.length < 4611686018427387904) (hn : l.length < n) : cells_sized n l = some (l.all zb1) := by
 unfold cells_sized
 rw [zbz (p := fun x => !zb1 x) (fun x _ => by simp [cells_sized_1, zc6, zb1]) hl hn, Option.bind_some, any_not]
theorem cells_columned_eq {n : Nat} {sizes cols : List Int} (hl : cols.length < 4611686018427387904) (hn : cols.length < n) : zc3 n sizes cols = some (decide (cols.length ≤ 3) && cols.all (colOK sizes)) := by
 unfold zc3
 rw [zbz (p := fun x => !colOK sizes x) (fun x _ => by
  simp only [zbS, colOK, Option.some.injEq, Bool.not_and]
  congr 1
  ·rw [← decide_not]; exact decide_eq_decide.2 (by omega)
  ·rw [← decide_not]; exact decide_eq_decide.2 (by omega)) hl hn]
 simp only [Option.isSome_some, Bool.or_true, grd, if_true, Option.getD_some, any_not, Option.some.injEq]
 congr 1
 exact decide_eq_decide.2 (by omega)
theorem ref09_sound_eq {n : Nat} {l : List Int} (hl : l.length < 4611686018427387904) (hn : l.length < n) : zaF n l = some (l.all zb1) := by
 have := zL (body := zaF.l1 n l) (len := l.length) (st := fun i => (i : Int)) (g := fun i => some ((l.drop i).all zb1)) (fun rec i hi hr => ?_) (fun rec => ?_) n 0 (Nat.zero_le _) (by omega)
 ·simpa [zaF] using this
 ·simp only [zaF.l1, zo hi, if_true, za hi, Option.bind_some, Option.isSome_some, Bool.or_true, grd, Option.getD_some, zd (show i < 4611686018427387904 by omega), hr]
  rw [zr hi]
  simp only [List.all_cons, zb1]
  by_cases h : 1 ≤ l[i] ∧ l[i] ≤ 6
  ·rw [if_neg (by simp; omega)]; simp [h.1, h.2]
  ·rw [if_pos (by simp; omega)]
   have : (decide (1 ≤ l[i]) && decide (l[i] ≤ 6)) = false := by
    simp only [Bool.and_eq_false_iff, decide_eq_false_iff_not]; omega
   rw [this, Bool.false_and]
 ·simp [zaF.l1]
end Go.Proofs.YtcagdmegicijlaaGreatDoor
namespace Go.Proofs.YtcagdmegicijlaaGreatDoor
open Go Go.RowKit
def z0 (sizes : List Int) : List Int → Int → Int
 | [], s => s
 | c :: l, s => z0 sizes l (mul64 s (sizes.getD c.toNat 0))
theorem zcM (sizes : List Int) : ∀ (l m : List Int) (s : Int), z0 sizes (l ++ m) s = z0 sizes m (z0 sizes l s)
 | [], _, _ => rfl
 | _ :: l, m, s => by simp only [List.cons_append, z0]; exact zcM sizes l m _
theorem idx_col {sizes : List Int} {c : Int} (h : colOK sizes c = true) : idx sizes c = some (sizes.getD c.toNat 0) := by
 simp only [colOK, Bool.and_eq_true, decide_eq_true_eq] at h
 obtain ⟨n, rfl⟩ := Int.eq_ofNat_of_zero_le h.1
 have : n < sizes.length := by omega
 rw [za this]; simp [List.getD, this]
theorem cells_width_eq {n : Nat} {sizes cols : List Int} (hc : cols.all (colOK sizes) = true) (hl : cols.length < 4611686018427387904) (hn : cols.length < n) : zaG n sizes cols = some (z0 sizes cols 1) := by
 have := zL (body := zaG.l1 n sizes cols) (len := cols.length) (st := fun i => (z0 sizes (cols.take i) 1, (i : Int))) (g := fun _ => some (z0 sizes cols 1)) (fun rec i hi hr => ?_) (fun rec => ?_) n 0 (Nat.zero_le _) (by omega)
 ·simpa [zaG, z0] using this
 ·rw [List.take_succ_eq_append_getElem hi, zcM] at hr
  simp only [z0] at hr
  simp only [zaG.l1, zo hi, if_true, za hi, Option.bind_some, idx_col (List.all_eq_true.1 hc _ (List.getElem_mem hi)), zd (show i < 4611686018427387904 by omega), hr]
 ·simp [zaG.l1]
theorem number_loop {n : Nat} {sizes cols : List Int} (hl : cols.length < 4611686018427387904) (hn : cols.length < n) : loopF (zab.l1 n sizes cols) n (1, 0) = some (if cols.all (colOK sizes) = true then z0 sizes cols 1 else 0) := by
 by_cases hc : cols.all (colOK sizes) = true
 ·rw [if_pos hc]
  have := zL (body := zab.l1 n sizes cols) (len := cols.length) (st := fun i => (z0 sizes (cols.take i) 1, (i : Int))) (g := fun _ => some (z0 sizes cols 1)) (fun rec i hi hr => ?_) (fun rec => ?_) n 0 (Nat.zero_le _) (by omega)
  ·simpa [z0] using this
  ·rw [List.take_succ_eq_append_getElem hi, zcM] at hr
   simp only [z0] at hr
   have hcol := List.all_eq_true.1 hc _ (List.getElem_mem hi)
   have h2 := idx_col hcol
   simp only [colOK, Bool.and_eq_true, decide_eq_true_eq] at hcol
   have hif : ((decide (cols[i] < 0)) || (decide ((sizes.length : Int) ≤ cols[i]))) = false := by
    simp only [Bool.or_eq_false_iff, decide_eq_false_iff_not]; omega
   simp only [zab.l1, zo hi, if_true, za hi, Option.bind_some, Option.isSome_some, Bool.or_true, grd, Option.getD_some, hif, Bool.false_eq_true, if_false, h2, zd (show i < 4611686018427387904 by omega), hr]
  ·simp [zab.l1]
 ·rw [if_neg hc]
  have := zL (body := zab.l1 n sizes cols) (len := cols.length) (st := fun i => (z0 sizes (cols.take i) 1, (i : Int))) (g := fun i => some (if (cols.drop i).all (colOK sizes) = true then z0 sizes cols 1 else 0)) (fun rec i hi hr => ?_) (fun rec => ?_) n 0 (Nat.zero_le _) (by omega)
  ·simpa [z0, hc] using this
  ·rw [List.take_succ_eq_append_getElem hi, zcM] at hr
   simp only [z0] at hr
   rw [zr hi, List.all_cons]
   by_cases hcol : colOK sizes cols[i] = true
   ·have h2 := idx_col hcol
    rw [hcol, Bool.true_and]
    simp only [colOK, Bool.and_eq_true, decide_eq_true_eq] at hcol
    have hif : ((decide (cols[i] < 0)) || (decide ((sizes.length : Int) ≤ cols[i]))) = false := by
     simp only [Bool.or_eq_false_iff, decide_eq_false_iff_not]; omega
    simp only [zab.l1, zo hi, if_true, za hi, Option.bind_some, Option.isSome_some, Bool.or_true, grd, Option.getD_some, hif, Bool.false_eq_true, if_false, h2, zd (show i < 4611686018427387904 by omega), hr]
   ·have hif : ((decide (cols[i] < 0)) || (decide ((sizes.length : Int) ≤ cols[i]))) = true := by
     simp only [colOK, Bool.and_eq_true, decide_eq_true_eq] at hcol
     simp only [Bool.or_eq_true, decide_eq_true_eq]; omega
    simp only [Bool.not_eq_true] at hcol
    rw [hcol, Bool.false_and, if_neg (by simp)]
    simp only [zab.l1, zo hi, if_true, za hi, Option.bind_some, Option.isSome_some, Bool.or_true, grd, Option.getD_some, hif]
  ·simp [zab.l1]
theorem ref09_number_eq {n : Nat} {sizes cols : List Int} (hl : cols.length < 4611686018427387904) (hn : cols.length < n) (hs : sizes.length < 4611686018427387904) (hsn : sizes.length < n) :
  zab n sizes cols = some (if (decide (cols.length ≤ 3) && sizes.all zb1 && cols.all (colOK sizes)) = true then z0 sizes cols 1 else 0) := by
 unfold zab
 rw [ref09_sound_eq hs hsn, number_loop hl hn]
 simp only [Option.isSome_some, Bool.or_true, grd, if_true, Option.getD_some]
 by_cases h3 : cols.length ≤ 3
 ·cases h4 : sizes.all zb1 with
  | true => rw [if_neg (by simp; omega)]; simp [h3]
  | false => rw [if_pos (by simp)]; simp
 ·rw [if_pos (by simp; left; omega)]; simp [h3]
end Go.Proofs.YtcagdmegicijlaaGreatDoor
namespace Go.Proofs.YtcagdmegicijlaaGreatDoor
open Go Go.RowKit
theorem loopF_M {S R : Type} {body : (S → Option R) → S → Option R} (μ : S → Nat) (I : S → Prop) (Q : S → Option R → Prop)
  (hb : ∀ rec s, I s → (∀ s', I s' → μ s' < μ s → Q s' (rec s')) → Q s (body rec s)) : ∀ n s, I s → μ s < n → Q s (loopF body n s)
 | 0, _, _, h => by omega
 | n + 1, s, hI, h => hb _ s hI fun s' hI' hlt => loopF_M μ I Q hb n s' hI' (by omega)
theorem zco {σ S R : Type} {body : (S → Option R) → S → Option R} {len : Nat} {st : σ → Nat → S} {g : Nat → σ → Option R} (I : Nat → σ → Prop)
  (hb : ∀ rec i s, i < len → I i s → (∀ s', I (i + 1) s' → rec (st s' (i + 1)) = g (i + 1) s') → body rec (st s i) = g i s) (he : ∀ rec s, I len s → body rec (st s len) = g len s) :
  ∀ n i s, i ≤ len → len - i < n → I i s → loopF body n (st s i) = g i s
 | 0, _, _, _, h, _ => by omega
 | n + 1, i, s, hi, h, hI => by
  simp only [loopF]
  by_cases e : i = len
  ·subst e; exact he _ _ hI
  ·exact hb _ i s (by omega) hI fun s' hI' => zco I hb he n (i + 1) s' (by omega) (by omega) hI'
theorem loopF_1 {S R : Type} {body : (S → Option R) → S → Option R} {n : Nat} (h : 0 < n) (s : S) : loopF body n s = body (loopF body (n - 1)) s := by
 obtain ⟨m, rfl⟩ : ∃ m, n = m + 1 := ⟨n - 1, by omega⟩
 rfl
theorem add64_nat {a b : Nat} (h : a + b < 9223372036854775808) : add64 (a : Int) (b : Int) = ((a + b : Nat) : Int) := by
 unfold add64; rw [zbX (by omega) (by omega)]; omega
theorem zcw {l : List UInt8} {i : Nat} (h : i < l.length) : sidx l (i : Int) = some ((l[i].toNat : Nat) : Int) := by
 unfold sidx; rw [if_pos (by omega)]; simp [h]
theorem cut_nat {α : Type} {l : List α} {a b : Nat} (h1 : a ≤ b) (h2 : b ≤ l.length) : cut l (a : Int) (b : Int) = some ((l.drop a).take (b - a)) := by
 unfold cut; rw [if_pos (by omega)]; simp
theorem cut_end {α : Type} {l : List α} {a : Nat} (h1 : a ≤ l.length) : cut l (a : Int) (l.length : Int) = some (l.drop a) := by
 rw [cut_nat h1 (Nat.le_refl _), List.take_of_length_le (by simp)]
theorem cut_all {α : Type} {l : List α} : cut l 0 (l.length : Int) = some l := by
 have := cut_end (l := l) (a := 0) (by omega); simpa using this
theorem lt_nat {i k : Nat} (h : i < k) : decide ((i : Int) < (k : Int)) = true := by simp; omega
theorem ge_nat {i k : Nat} (h : k ≤ i) : decide ((i : Int) < (k : Int)) = false := by simp; omega
def runP (p : Int → Bool) : List UInt8 → Nat
 | [] => 0
 | b :: l => if p (b.toNat : Nat) = true then runP p l + 1 else 0
theorem runP_le (p : Int → Bool) : ∀ l, runP p l ≤ l.length
 | [] => Nat.le_refl _
 | b :: l => by
  simp only [runP, List.length_cons]; split
  ·exact Nat.succ_le_succ (runP_le p l)
  ·omega
theorem lexer_run_eq {n : Nat} {l : List UInt8} {f : Int → Option Bool} {p : Int → Bool} (hf : ∀ q, f q = some (p q)) (hl : l.length < 4611686018427387904) (hn : l.length < n) : zbY n l f = some ((runP p l : Nat) : Int) := by
 have := zL (body := zbY.l1 n l f) (len := l.length) (st := fun i => (i : Int)) (g := fun i => some ((i + runP p (l.drop i) : Nat) : Int)) (fun rec i hi hr => ?_) (fun rec => ?_) n 0 (Nat.zero_le _) (by omega)
 ·simpa [zbY] using this
 ·simp only [zbY.l1, zo hi, zcw hi, Option.isSome_some, Bool.not_true, Bool.false_or, grd, if_true, Option.getD_some, hf, Bool.true_and, zd (show i < 4611686018427387904 by omega), hr]
  rw [zr hi]
  simp only [runP]
  split <;> simp <;> omega
 ·simp [zbY.l1, runP, grd]
def zbi (q : Int) : Bool := decide (97 ≤ q) && decide (q ≤ 122)
def digitP (q : Int) : Bool := decide (48 ≤ q) && decide (q ≤ 57)
def partP (q : Int) : Bool := (zbi q || digitP q) || (q == 95)
theorem lexer_letter_eq {n : Nat} {q : Int} : zcb n q = some (zbi q) := rfl
theorem lexer_digit_eq {n : Nat} {q : Int} : zaS n q = some (digitP q) := rfl
theorem ref_letter_eq {n : Nat} {q : Int} : zap n q = some (zbi q) := rfl
theorem ref_digit_eq {n : Nat} {q : Int} : zaz n q = some (digitP q) := rfl
def zcJ (q : Int) : Bool := !(q == 9 || q == 10 || q == 13 || q == 32 || q == 35)
theorem letter_black {q : Int} (h : zbi q = true) : zcJ q = true := by
 simp only [zbi, Bool.and_eq_true, decide_eq_true_eq] at h
 simp only [zcJ, Bool.not_eq_true', Bool.or_eq_false_iff, beq_eq_false_iff_ne]; omega
theorem lexer_skip_tt {n : Nat} {l : List UInt8} (hl : l.length < 1000000) (hn : 1000000 ≤ n) :
  ∃ k : Nat, zcg n l = some (k : Int) ∧ k ≤ l.length ∧ (∀ h : 0 < l.length, zcJ (l[0].toNat : Nat) = true → k = 0) ∧ (∀ h : 0 < l.length, zcJ (l[0].toNat : Nat) = false → 0 < k) := by
 have := loopF_M (body := zcg.l1 n l) (fun s : Int => l.length - s.toNat) (fun s => ∃ i : Nat, s = i ∧ i ≤ l.length) (fun s o => ∃ k : Nat, o = some (k : Int) ∧ k ≤ l.length ∧ s.toNat ≤ k ∧ ∀ h : s.toNat < l.length, (zcJ (l[s.toNat].toNat : Nat) = true → k = s.toNat) ∧ (zcJ (l[s.toNat].toNat : Nat) = false → s.toNat < k))
  (fun rec s hI hr => by
   obtain ⟨i, rfl, hi⟩ := hI
   by_cases hlt : i < l.length
   ·simp only [zcg.l1, zo hlt, if_true, zcw hlt, Option.bind_some, zbv, Int.toNat_natCast]
    by_cases hw : ((((((l[i].toNat : Nat) : Int) == 32) || (((l[i].toNat : Nat) : Int) == 9)) || (((l[i].toNat : Nat) : Int) == 10)) || (((l[i].toNat : Nat) : Int) == 13)) = true
    ·rw [if_pos hw, zd (show i < 4611686018427387904 by omega)]
     obtain ⟨k, e, k1, k2, -⟩ := hr ((i + 1 : Nat) : Int) ⟨i + 1, rfl, by omega⟩ (by simp only [Int.toNat_natCast]; omega)
     simp only [Int.toNat_natCast] at k2
     refine ⟨k, e, k1, by omega, fun h => ⟨fun hb => ?_, fun hb => by omega⟩⟩
     exfalso
     simp only [Bool.or_eq_true, beq_iff_eq] at hw
     simp only [zcJ, Bool.not_eq_true', Bool.or_eq_false_iff, beq_eq_false_iff_ne] at hb
     omega
    ·rw [if_neg hw]
     by_cases hh : ((l[i].toNat : Nat) : Int) = 35
     ·rw [if_pos (by simp [hh]), cut_end hi, Option.bind_some, lexer_run_eq (f := fun q => lexer_skip_1 n q) (p := fun q => q != 10) (fun q => rfl) (by rw [List.length_drop]; omega) (by rw [List.length_drop]; omega), Option.bind_some]
      have hrun : 1 ≤ runP (fun q => q != 10) (l.drop i) := by
       rw [zr hlt, runP, hh]; simp
      have hle := runP_le (fun q => q != 10) (l.drop i)
      simp only [List.length_drop] at hle
      rw [add64_nat (by omega)]
      obtain ⟨k, e, k1, k2, -⟩ := hr ((i + runP (fun q => q != 10) (l.drop i) : Nat) : Int) ⟨_, rfl, by omega⟩ (by simp only [Int.toNat_natCast]; omega)
      simp only [Int.toNat_natCast] at k2
      refine ⟨k, e, k1, by omega, fun h => ⟨fun hb => ?_, fun hb => by omega⟩⟩
      rw [hh] at hb; exact absurd hb (by decide)
     ·rw [if_neg (by simpa using hh)]
      refine ⟨i, rfl, hi, Nat.le_refl _, fun h => ⟨fun _ => rfl, fun hb => ?_⟩⟩
      exfalso
      simp only [Bool.or_eq_true, beq_iff_eq, not_or] at hw
      simp only [zcJ, Bool.not_eq_false', Bool.or_eq_true, beq_iff_eq] at hb
      omega
   ·have : i = l.length := by omega
    subst this
    refine ⟨l.length, by simp [zcg.l1], Nat.le_refl _, by simp, fun h => by simp at h⟩) n 0 ⟨0, rfl, by omega⟩ (by simp; omega)
 obtain ⟨k, e, k1, -, k2⟩ := this
 exact ⟨k, by simpa [zcg] using e, k1, fun h hb => (k2 h).1 hb, fun h hb => (k2 h).2 hb⟩
theorem lexer_symbol_tt {n : Nat} {l : List UInt8} (hn : 1000000 ≤ n) : ∃ k : Int, zaL n l = some k := by
 have := loopF_M (body := zaL.l1 n l) (fun s : Int => 5 - s.toNat) (fun s => ∃ i : Nat, s = i ∧ i ≤ 5) (fun _ o => ∃ k : Int, o = some k) (fun rec s hI hr => by
  obtain ⟨i, rfl, hi⟩ := hI
  simp only [zaL.l1]
  generalize hL : ([[61, 61], [33, 61], [60, 61], [62, 61], [46, 46]] : List (List UInt8)) = L
  have hLl : L.length = 5 := by rw [← hL]; rfl
  by_cases hlt : i < L.length
  ·have hp : ∃ b, zcj n l L[i] = some b := by
    simp only [zcj, zaZ]
    by_cases h : L[i].length ≤ l.length
    ·have : cut l 0 (L[i].length : Int) = some ((l.drop 0).take (L[i].length - 0)) := cut_nat (a := 0) (by omega) (by omega)
     simp [this, grd]
    ·simp [h, grd]
   obtain ⟨b, hp⟩ := hp
   have hd : decide ((i : Int) < (([[61, 61], [33, 61], [60, 61], [62, 61], [46, 46]] : List (List Nat)).length : Int)) = true := by simp; omega
   simp only [hd, if_true, za hlt, Option.bind_some, hp, zd (show i < 4611686018427387904 by omega)]
   split
   ·exact ⟨_, rfl⟩
   ·exact hr _ ⟨i + 1, rfl, by omega⟩ (by simp only [Int.toNat_natCast]; omega)
  ·have hd : decide ((i : Int) < (([[61, 61], [33, 61], [60, 61], [62, 61], [46, 46]] : List (List Nat)).length : Int)) = false := by simp; omega
   rw [hd, if_neg (by simp)]
   cases l with
   | nil => simp [grd]
   | cons b l =>
    have h0 : sidx (b :: l) 0 = some ((b.toNat : Nat) : Int) := zcw (l := b :: l) (i := 0) (by simp)
    simp only [h0, zbE, zaY, Option.bind_some, Option.isSome_some, Bool.or_true, grd, if_true, Option.getD_some]
    split <;> exact ⟨_, rfl⟩) n 0 ⟨0, rfl, by omega⟩ (by simp; omega)
 simpa [zaL] using this
theorem lexer_begins_tt {n : Nat} {l : List UInt8} (hn : 1000000 ≤ n) (h : 0 < l.length) : ∃ b, zcB n l = some b := by
 obtain ⟨k, hk⟩ := lexer_symbol_tt (n := n) (l := l) hn
 have h0 : sidx l 0 = some ((l[0].toNat : Nat) : Int) := zcw (i := 0) h
 simp [zcB, h0, zcb, zaS, hk, grd]
theorem lexer_wrong_tt {n : Nat} {l : List UInt8} {k : (Int × Int) → Option Token} (hl : l.length < 1000000) (hn : 1000000 ≤ n) (h1 : 0 < l.length) : ∃ e, loopF (zag.l2 n l k) n 1 = k (5, e) := by
 refine loopF_M (body := zag.l2 n l k) (fun s : Int => l.length - s.toNat) (fun s => ∃ i : Nat, s = i ∧ i ≤ l.length) (fun _ o => ∃ e, o = k (5, e)) (fun rec s hI hr => ?_) n 1 ⟨1, rfl, h1⟩ (by simp; omega)
 obtain ⟨i, rfl, hi⟩ := hI
 by_cases hlt : i < l.length
 ·obtain ⟨b, hb⟩ := lexer_begins_tt (n := n) (l := l.drop i) hn (by simp; omega)
  simp only [zag.l2, zo hlt, zcw hlt, zbv, cut_end hi, hb, Option.isSome_some, Bool.or_true, grd, if_true, Option.getD_some, zd (show i < 4611686018427387904 by omega)]
  split
  ·exact hr _ ⟨i + 1, rfl, by omega⟩ (by simp only [Int.toNat_natCast]; omega)
  ·exact ⟨_, rfl⟩
 ·have : i = l.length := by omega
  subst this
  exact ⟨(l.length : Int), by simp [zag.l2, grd]⟩
def wordP (w : List UInt8) : Bool := (match w with | [] => false | b :: _ => zbi (b.toNat : Nat)) && decide (runP partP w = w.length)
theorem wordP_cons (w : List UInt8) (h : 0 < w.length) : wordP w = (zbi (w[0].toNat : Nat) && decide (runP partP w = w.length)) := by
 cases w with
 | nil => simp at h
 | cons b l => rfl
theorem lexer_first {n : Nat} {w : List UInt8} {kw : GMap (List UInt8) Bool} (hl : w.length < 1000000) (hn : 1000000 ≤ n) (h0 : 0 < w.length) :
  ∃ t, zag n w kw = some t ∧ (t.at_ = 0 ∧ t.end_ = (w.length : Int) ∧ t.kind = 1 ↔ wordP w = true ∧ (kw.get? w).getD false = false) := by
 obtain ⟨k, e, k1, k2, k3⟩ := lexer_skip_tt (n := n) (l := w) hl hn
 unfold zag
 rw [loopF_1 (by omega)]
 have hz : add64 0 (k : Int) = (k : Int) := by have := add64_nat (a := 0) (b := k) (by omega); simpa using this
 simp only [zag.l1, cut_all, Option.bind_some, e, hz, cut_end k1, jn]
 by_cases hk : k = w.length
 ·subst hk
  rw [if_pos (by simp)]
  refine ⟨_, rfl, ?_⟩
  simp only []
  constructor
  ·rintro ⟨-, -, h⟩; simp at h
  ·rintro ⟨h, -⟩
   exfalso
   rw [wordP_cons w h0, Bool.and_eq_true] at h
   have := k2 h0 (letter_black h.1); omega
 ·have hd : 0 < (w.drop k).length := by simp; omega
  rw [if_neg (by simp; omega)]
  have hs : sidx (w.drop k) 0 = some (((w.drop k)[0].toNat : Nat) : Int) := zcw (i := 0) hd
  simp only [hs, Option.bind_some, lexer_letter_eq]
  rw [wordP_cons w h0]
  by_cases hlet : zbi (((w.drop k)[0].toNat : Nat) : Int) = true
  ·rw [if_pos hlet, lexer_run_eq (p := partP) (fun q => by simp [lexer_part, zcb, zaS, grd, partP, zbi, digitP]) (by simp; omega) (by simp; omega)]
   have hle := runP_le partP (w.drop k)
   have hc := cut_nat (l := w.drop k) (a := 0) (b := runP partP (w.drop k)) (by omega) hle
   simp only [Option.bind_some, Int.natCast_zero] at hc ⊢
   rw [hc]
   simp only [List.length_drop] at hle
   have ha : add64 (k : Int) (runP partP (w.drop k) : Nat) = ((k + runP partP (w.drop k) : Nat) : Int) := add64_nat (by omega)
   simp only [Option.bind_some, ha, List.drop_zero, Nat.sub_zero]
   by_cases hk0 : k = 0
   ·subst hk0
    simp only [List.drop_zero] at hlet ⊢
    by_cases hrun : runP partP w = w.length
    ·rw [hrun, List.take_of_length_le (Nat.le_refl _)]
     by_cases hkw : (kw.get? w).getD false = true
     ·rw [if_pos hkw]
      refine ⟨_, rfl, ?_⟩
      simp [hkw]
     ·rw [if_neg hkw]
      refine ⟨_, rfl, ?_⟩
      simp only [Bool.not_eq_true] at hkw
      simp [hkw, hlet]
    ·split
     all_goals
      refine ⟨_, rfl, ?_⟩
      simp [hrun]
      try omega
   ·have hbl : zcJ (w[0].toNat : Nat) = false := by
     cases hb : zcJ (w[0].toNat : Nat) with
     | false => rfl
     | true => exact absurd (k2 h0 hb) hk0
    have hnl : zbi (w[0].toNat : Nat) = false := by
     cases hb : zbi (w[0].toNat : Nat) with
     | false => rfl
     | true => rw [letter_black hb] at hbl; cases hbl
    split
    all_goals
     refine ⟨_, rfl, ?_⟩
     simp [hnl, hk0]
  ·rw [if_neg hlet]
   have hno : k = 0 → zbi (w[0].toNat : Nat) = false := by
    intro hk0; subst hk0
    simp only [List.drop_zero, Bool.not_eq_true] at hlet
    exact hlet
   have hno' : zbi (w[0].toNat : Nat) = false := by
    by_cases hk0 : k = 0
    ·exact hno hk0
    ·cases hb : zbi (w[0].toNat : Nat) with
     | false => rfl
     | true => exact absurd (k2 h0 (letter_black hb)) hk0
   simp only [lexer_digit_eq, Option.bind_some, hno', Bool.false_and, Bool.false_eq_true, false_and, iff_false]
   split
   ·rw [lexer_run_eq (p := digitP) (fun q => rfl) (by simp; omega) (by simp; omega)]
    exact ⟨_, rfl, by simp⟩
   ·obtain ⟨v, hv⟩ := lexer_symbol_tt (n := n) (l := w.drop k) hn
    simp only [hv, Option.bind_some]
    split
    ·exact ⟨_, rfl, by simp⟩
    ·obtain ⟨e, he⟩ := lexer_wrong_tt (n := n) (l := w.drop k) (k := fun v => some (⟨v.1, 0, (k : Int), add64 (k : Int) v.2⟩ : Token)) (by simp; omega) hn hd
     rw [he]
     exact ⟨_, rfl, by simp⟩
end Go.Proofs.YtcagdmegicijlaaGreatDoor
namespace Go.Proofs.YtcagdmegicijlaaGreatDoor
open Go Go.RowKit
def kwL : List (List UInt8) := [[115, 111, 114, 116], [114, 101, 108, 97, 116, 105, 111, 110], [99, 111, 117, 110, 116, 101, 114], [115, 101, 116], [114, 101, 103, 105, 115, 116, 101, 114], [105, 110, 118, 97, 114, 105, 97, 110, 116], [111, 112, 101, 114, 97, 116, 105, 111, 110], [107, 101, 121], [114, 101, 102, 101, 114, 101, 110, 99, 101], [116, 111], [99, 111, 117, 110, 116], [97, 99, 121, 99, 108, 105, 99], [97, 108, 108], [115, 117, 109], [105, 110], [97, 100, 100, 119, 105, 110, 115], [114, 101, 109, 111, 118, 101, 119, 105, 110, 115], [108, 97, 115, 116], [109, 117, 108, 116, 105], [104, 105, 100, 101], [111, 114, 100, 101, 114, 101, 100], [114, 101, 113, 117, 105, 114, 101], [104, 111, 108, 100], [105, 110, 115, 101, 114, 116], [100, 101, 108, 101, 116, 101], [97, 100, 100], [102, 114, 111, 109], [112, 117, 116], [100, 114, 111, 112], [97, 115, 115, 105, 103, 110], [102, 111, 114], [119, 104, 101, 114, 101], [97, 110, 100], [111, 114], [110, 111, 116]]
structure Fuel (n : Nat) : Prop where
 big : 4294967296 ≤ n
 kw : ∃ m, za6 n = some m ∧ SetIs m kwL
def nameP (w : List UInt8) : Bool := decide (w.length ≤ 16) && (wordP w && !decide (w ∈ kwL))
theorem lexer_Name_eq {n : Nat} {w : List UInt8} (hF : Fuel n) : lexer_Name n w = some (nameP w) := by
 have hn := hF.big
 unfold lexer_Name nameP
 by_cases h16 : w.length ≤ 16
 ·have hd : decide ((w.length : Int) ≤ 16) = true := by simp; omega
  simp only [hd, h16, decide_true, Bool.true_and, Bool.not_true, Bool.false_or]
  unfold lexer_Kind
  obtain ⟨m, hm, hs⟩ := hF.kw
  cases hw : w with
  | nil => simp [grd, wordP]
  | cons b l =>
   rw [← hw]
   have h0 : 0 < w.length := by rw [hw]; simp
   rw [if_neg (by simp; exact ⟨by rw [hw]; simp, by omega⟩), hm, Option.bind_some]
   obtain ⟨t, ht, hiff⟩ := lexer_first (n := n) (w := w) (kw := m) (by omega) (by omega) h0
   rw [hs.get] at hiff
   simp only [ht, Option.bind_some]
   by_cases hc : t.at_ = 0 ∧ t.end_ = (w.length : Int) ∧ t.kind = 1
   ·have := hiff.1 hc
    rw [if_neg (by simp [hc.1, hc.2.1])]
    simp only [decide_eq_false_iff_not] at this
    simp [grd, hc.2.2, this.1, this.2]
   ·have hr : (wordP w && !decide (w ∈ kwL)) = false := by
     cases hx : (wordP w && !decide (w ∈ kwL)) with
     | false => rfl
     | true =>
      simp only [Bool.and_eq_true, Bool.not_eq_true', decide_eq_false_iff_not] at hx
      exact absurd (hiff.2 ⟨hx.1, by simp [hx.2]⟩) hc
    rw [hr]
    split
    ·simp [grd]
    ·rename_i hne
     simp only [Bool.or_eq_true, bne_iff_ne, ne_eq, not_or, Decidable.not_not] at hne
     have : t.kind ≠ 1 := fun e => hc ⟨hne.1, hne.2, e⟩
     simp [grd, this]
 ·have hd : decide ((w.length : Int) ≤ 16) = false := by simp; omega
  simp [hd, h16, grd]
theorem ref_comment {n : Nat} {t : List UInt8} {rec : Int → Option Int} {x : Nat} (hx : x ≤ t.length) (hl : t.length < 1000000) (hn : 1000000 ≤ n) :
  ∃ y : Nat, x ≤ y ∧ y ≤ t.length ∧ loopF (zaJ.l2 n t rec) n x = rec (y : Int) ∧ ∀ h : x < t.length, (t[x].toNat : Nat) = 35 → x < y := by
 have := loopF_M (body := zaJ.l2 n t rec) (fun s : Int => t.length - s.toNat) (fun s => ∃ i : Nat, s = i ∧ i ≤ t.length) (fun s o => ∃ y : Nat, s.toNat ≤ y ∧ y ≤ t.length ∧ o = rec (y : Int) ∧ ∀ h : s.toNat < t.length, (t[s.toNat].toNat : Nat) = 35 → s.toNat < y) (fun r s hI hr => by
  obtain ⟨i, rfl, hi⟩ := hI
  by_cases hlt : i < t.length
  ·simp only [zaJ.l2, zo hlt, zcw hlt, Option.isSome_some, Bool.or_true, grd, if_true, Option.getD_some, Bool.true_and, zd (show i < 4611686018427387904 by omega), Int.toNat_natCast]
   by_cases h10 : ((((t[i].toNat : Nat) : Int) != 10)) = true
   ·rw [if_pos h10]
    obtain ⟨y, y1, y2, y3, -⟩ := hr ((i + 1 : Nat) : Int) ⟨_, rfl, by omega⟩ (by simp only [Int.toNat_natCast]; omega)
    simp only [Int.toNat_natCast] at y1
    exact ⟨y, by omega, y2, y3, fun _ _ => by omega⟩
   ·rw [if_neg h10]
    refine ⟨i, Nat.le_refl _, hi, rfl, fun _ h => ?_⟩
    rw [h] at h10; exact absurd h10 (by decide)
  ·have : i = t.length := by omega
   subst this
   exact ⟨t.length, by simp, Nat.le_refl _, by simp [zaJ.l2, grd], fun h => by simp at h⟩) n x ⟨x, rfl, hx⟩ (by simp; omega)
 simpa using this
theorem ref_skip_ok {n : Nat} {t : List UInt8} {a : Nat} (ha : a ≤ t.length) (hl : t.length < 1000000) (hn : 1000000 ≤ n) :
  ∃ k : Nat, zaJ n t a = some (k : Int) ∧ a ≤ k ∧ k ≤ t.length ∧ (∀ h : k < t.length, zcJ (t[k].toNat : Nat) = true) ∧ (∀ h : a < t.length, zcJ (t[a].toNat : Nat) = true → k = a) := by
 have := loopF_M (body := zaJ.l1 n t) (fun s : Int => t.length - s.toNat) (fun s => ∃ i : Nat, s = i ∧ i ≤ t.length)
  (fun s o => ∃ k : Nat, o = some (k : Int) ∧ s.toNat ≤ k ∧ k ≤ t.length ∧ (∀ h : k < t.length, zcJ (t[k].toNat : Nat) = true) ∧ (∀ h : s.toNat < t.length, zcJ (t[s.toNat].toNat : Nat) = true → k = s.toNat)) (fun r s hI hr => by
  obtain ⟨i, rfl, hi⟩ := hI
  by_cases hlt : i < t.length
  ·simp only [zaJ.l1, zo hlt, zcw hlt, zat, Option.isSome_some, Bool.or_true, grd, if_true, Option.getD_some, Bool.true_and, Option.bind_some, zd (show i < 4611686018427387904 by omega), Int.toNat_natCast]
   by_cases hb : zcJ (t[i].toNat : Nat) = true
   ·rw [if_neg (by
     simp only [zcJ, Bool.not_eq_true', Bool.or_eq_false_iff, beq_eq_false_iff_ne] at hb
     simp only [Bool.or_eq_true, beq_iff_eq]; omega)]
    exact ⟨i, rfl, Nat.le_refl _, hi, fun _ => hb, fun _ _ => rfl⟩
   ·rw [if_pos (by
     simp only [zcJ, Bool.not_eq_true', Bool.or_eq_false_iff, beq_eq_false_iff_ne] at hb
     simp only [Bool.or_eq_true, beq_iff_eq]; omega)]
    by_cases hh : (t[i].toNat : Nat) = 35
    ·rw [if_pos (by simp [hh])]
     obtain ⟨y, y1, y2, y3, y4⟩ := ref_comment (n := n) (rec := r) hi hl hn
     have y5 := y4 hlt hh
     rw [y3]
     obtain ⟨k, e, k1, k2, k3, -⟩ := hr (y : Int) ⟨y, rfl, y2⟩ (by simp only [Int.toNat_natCast]; omega)
     simp only [Int.toNat_natCast] at k1
     exact ⟨k, e, by omega, k2, k3, fun _ h => absurd h hb⟩
    ·rw [if_neg (by simp; omega)]
     obtain ⟨k, e, k1, k2, k3, -⟩ := hr ((i + 1 : Nat) : Int) ⟨_, rfl, by omega⟩ (by simp only [Int.toNat_natCast]; omega)
     simp only [Int.toNat_natCast] at k1
     exact ⟨k, e, by omega, k2, k3, fun _ h => absurd h hb⟩
  ·have : i = t.length := by omega
   subst this
   exact ⟨t.length, by simp [zaJ.l1, grd], by simp, Nat.le_refl _, fun h => absurd h (by omega), fun h => by simp at h⟩) n a ⟨a, rfl, ha⟩ (by simp; omega)
 simpa [zaJ] using this
theorem ref_symbol_ok {n : Nat} {t : List UInt8} {a : Nat} (ha : a ≤ t.length) (hl : t.length < 1000000) (hn : 1000000 ≤ n) : ∃ v : Nat, zaK n t a = some (v : Int) ∧ a + v ≤ t.length := by
 unfold zaK
 simp only [ref02_Symbols, Option.bind_some]
 generalize hL : ([[61, 61], [33, 61], [60, 61], [62, 61], [46, 46], [60], [62], [61], [43], [45], [42], [40], [41], [123], [125], [44], [58], [59]] : List (List UInt8)) = L
 have hLl : L.length = 18 := by rw [← hL]; rfl
 have hL2 : ∀ x ∈ L, x.length ≤ 2 := by rw [← hL]; decide
 refine loopF_M (body := zaK.l1 n t a L) (fun s : Int => 18 - s.toNat) (fun s => ∃ i : Nat, s = i ∧ i ≤ 18) (fun s o => ∃ v : Nat, o = some (v : Int) ∧ a + v ≤ t.length) (fun r s hI hr => ?_) n 0 ⟨0, rfl, by omega⟩ (by simp; omega)
 obtain ⟨i, rfl, hi⟩ := hI
 by_cases hlt : i < L.length
 ·have h2 := hL2 _ (List.getElem_mem hlt)
  simp only [zaK.l1, zo hlt, if_true, za hlt, Option.bind_some, Option.isSome_some, Option.getD_some, Bool.or_true, zd (show i < 4611686018427387904 by omega), add64_nat (show a + L[i].length < 9223372036854775808 by omega)]
  by_cases hle : a + L[i].length ≤ t.length
  ·simp only [cut_nat (l := t) (a := a) (b := a + L[i].length) (by omega) hle, Option.isSome_some, Bool.or_true, grd, if_true]
   split
   ·exact ⟨_, rfl, hle⟩
   ·exact hr _ ⟨i + 1, rfl, by omega⟩ (by simp only [Int.toNat_natCast]; omega)
  ·have hd : decide (((a + L[i].length : Nat) : Int) ≤ (t.length : Int)) = false := by simp; omega
   simp only [hd, Bool.not_false, Bool.true_or, grd, if_true, Bool.false_and, Bool.false_eq_true, if_false]
   exact hr _ ⟨i + 1, rfl, by omega⟩ (by simp only [Int.toNat_natCast]; omega)
 ·have : i = L.length := by omega
  subst this
  exact ⟨0, by simp [zaK.l1], by omega⟩
theorem ref_Has_eq {n : Nat} {L : List (List UInt8)} {w : List UInt8} (hl : L.length < 1000000) (hn : 1000000 ≤ n) : zcK n L w = some (decide (w ∈ L)) := by
 have := zL (body := zcK.l1 n L w) (len := L.length) (st := fun i => (i : Int)) (g := fun i => some (decide (w ∈ L.drop i))) (fun rec i hi hr => ?_) (fun rec => ?_) n 0 (Nat.zero_le _) (by omega)
 ·simpa [zcK] using this
 ·simp only [zcK.l1, zo hi, if_true, za hi, Option.bind_some, zd (show i < 4611686018427387904 by omega), hr]
  rw [zr hi]
  by_cases h : L[i] = w
  ·rw [if_pos (by simpa using h)]
   simp only [List.mem_cons, h, true_or, decide_true]
  ·have h' : ¬ w = L[i] := fun e => h e.symm
   rw [if_neg (by simpa using h)]
   simp only [List.mem_cons, h', false_or]
 ·simp [zcK.l1]
theorem ref_keywords_eq {n : Nat} : ref02_Keywords n = some kwL := rfl
theorem ref_token_ok {n : Nat} {t : List UInt8} {a : Nat} (ha : a < t.length) (hb : zcJ (t[a].toNat : Nat) = true) (hl : t.length < 1000000) (hn : 1000000 ≤ n) :
  ∃ (k : Int) (e : Nat), zac n t a = some (k, (e : Int)) ∧ a < e ∧ e ≤ t.length ∧ (zbi (t[a].toNat : Nat) = true → e = a + runP partP (t.drop a)) ∧ (k = 1 ↔ zbi (t[a].toNat : Nat) = true ∧ (t.drop a).take (e - a) ∉ kwL) := by
 unfold zac
 simp only [zcw ha, Option.bind_some, ref_letter_eq, ref_digit_eq]
 by_cases hlet : zbi ((t[a].toNat : Nat) : Int) = true
 ·rw [if_pos hlet]
  have hlp : zbi (t[a].toNat : Nat) = true := hlet
  have hrun1 : 1 ≤ runP partP (t.drop a) := by
   rw [zr ha, runP, if_pos (by simp [partP, hlp])]; omega
  have hle := runP_le partP (t.drop a)
  simp only [List.length_drop] at hle
  have := zco (body := zac.l1 n t a) (len := t.length) (st := fun (_ : Unit) i => (i : Int)) (g := fun i _ => some (if decide ((t.drop a).take (i + runP partP (t.drop i) - a) ∈ kwL) = true then (2, ((i + runP partP (t.drop i) : Nat) : Int)) else (1, ((i + runP partP (t.drop i) : Nat) : Int)))) (fun i _ => a ≤ i) (fun rec i _ hi hai hr => ?_) (fun rec _ hai => ?_) n a () (by omega) (by omega) (Nat.le_refl _)
  ·rw [this]
   refine ⟨if decide ((t.drop a).take (a + runP partP (t.drop a) - a) ∈ kwL) = true then 2 else 1, a + runP partP (t.drop a), ?_, by omega, by omega, fun _ => rfl, ?_⟩
   ·split <;> rfl
   ·rw [hlp]
    by_cases hk : (t.drop a).take (a + runP partP (t.drop a) - a) ∈ kwL
    ·simp [hk]
    ·simp [hk]
  ·have hr := hr () (by omega)
   have hle' := runP_le partP (t.drop i)
   simp only [List.length_drop] at hle'
   simp only [zac.l1, zo hi, zcw hi, ref_letter_eq, ref_digit_eq, Option.isSome_some, Bool.or_true, grd, if_true, Option.getD_some, Bool.true_and, zd (show i < 4611686018427387904 by omega), hr]
   rw [zr hi, runP]
   have hpe : (zbi ((t[i].toNat : Nat) : Int) || digitP ((t[i].toNat : Nat) : Int) || ((t[i].toNat : Nat) : Int) == 95) = partP ((t[i].toNat : Nat) : Int) := rfl
   rw [hpe]
   by_cases hp : partP (t[i].toNat : Nat) = true
   ·rw [if_pos hp, if_pos hp, show i + (runP partP (t.drop (i + 1)) + 1) = i + 1 + runP partP (t.drop (i + 1)) by omega]
   ·rw [if_neg hp, if_neg hp]
    simp only [Nat.add_zero, ref_keywords_eq, Option.bind_some, cut_nat hai (Nat.le_of_lt hi)]
    rw [ref_Has_eq (by decide) hn, Option.bind_some]
    cases decide ((t.drop a).take (i - a) ∈ kwL) <;> rfl
  ·simp only [zac.l1, zaN, Bool.not_false, Bool.true_or, grd, if_true, Bool.false_and, Bool.false_eq_true, if_false, ref_keywords_eq, Option.bind_some, cut_nat hai (Nat.le_refl _)]
   rw [ref_Has_eq (by decide) hn, Option.bind_some]
   simp only [List.drop_length, runP, Nat.add_zero]
   cases decide ((t.drop a).take (t.length - a) ∈ kwL) <;> rfl
 ·rw [if_neg hlet]
  have hlp : zbi (t[a].toNat : Nat) = false := by simpa using hlet
  simp only [hlp, Bool.false_eq_true, false_implies, false_and, iff_false, true_and]
  by_cases hdig : digitP ((t[a].toNat : Nat) : Int) = true
  ·rw [if_pos hdig]
   have := loopF_M (body := zac.l2 n t) (fun s : Int => t.length - s.toNat) (fun s => ∃ i : Nat, s = i ∧ i ≤ t.length) (fun s o => ∃ e : Nat, o = some (3, (e : Int)) ∧ s.toNat ≤ e ∧ e ≤ t.length ∧ ∀ h : s.toNat < t.length, digitP (t[s.toNat].toNat : Nat) = true → s.toNat < e) (fun r s hI hr => by
    obtain ⟨i, rfl, hi⟩ := hI
    by_cases hlt : i < t.length
    ·simp only [zac.l2, zo hlt, zcw hlt, ref_digit_eq, Option.isSome_some, Bool.or_true, grd, if_true, Option.getD_some, Bool.true_and, zd (show i < 4611686018427387904 by omega), Int.toNat_natCast]
     split
     ·obtain ⟨e, e1, e2, e3, -⟩ := hr ((i + 1 : Nat) : Int) ⟨_, rfl, by omega⟩ (by simp only [Int.toNat_natCast]; omega)
      simp only [Int.toNat_natCast] at e2
      exact ⟨e, e1, by omega, e3, fun _ _ => by omega⟩
     ·rename_i hno
      exact ⟨i, rfl, Nat.le_refl _, hi, fun _ h => absurd h hno⟩
    ·have : i = t.length := by omega
     subst this
     exact ⟨t.length, by simp [zac.l2, grd], by simp, Nat.le_refl _, fun h => by simp at h⟩) n a ⟨a, rfl, Nat.le_of_lt ha⟩ (by simp; omega)
   obtain ⟨e, e1, -, e3, e4⟩ := this
   exact ⟨3, e, e1, e4 ha hdig, e3, by decide⟩
  ·rw [if_neg hdig]
   obtain ⟨v, hv, hv2⟩ := ref_symbol_ok (n := n) (t := t) (a := a) (Nat.le_of_lt ha) hl hn
   rw [hv, Option.bind_some]
   by_cases hv0 : 0 < v
   ·rw [if_pos (by simpa using hv0), add64_nat (by omega)]
    exact ⟨4, a + v, rfl, by omega, hv2, by decide⟩
   ·have hv0 : v = 0 := by omega
    subst hv0
    rw [if_neg (by simp)]
    have := loopF_M (body := zac.l3 n t) (fun s : Int => t.length - s.toNat) (fun s => ∃ i : Nat, s = i ∧ i ≤ t.length) (fun s o => ∃ e : Nat, o = some (5, (e : Int)) ∧ s.toNat ≤ e ∧ e ≤ t.length ∧ (s = a → a < e)) (fun r s hI hr => by
     obtain ⟨i, rfl, hi⟩ := hI
     by_cases hlt : i < t.length
     ·obtain ⟨u, hu, -⟩ := ref_symbol_ok (n := n) (t := t) (a := i) hi hl hn
      simp only [zac.l3, zo hlt, zcw hlt, zat, ref_letter_eq, ref_digit_eq, hu, Option.isSome_some, Bool.or_true, grd, if_true, Option.getD_some, Bool.true_and, zd (show i < 4611686018427387904 by omega), Int.toNat_natCast]
      split
      ·obtain ⟨e, e1, e2, e3, -⟩ := hr ((i + 1 : Nat) : Int) ⟨_, rfl, by omega⟩ (by simp only [Int.toNat_natCast]; omega)
       simp only [Int.toNat_natCast] at e2
       exact ⟨e, e1, by omega, e3, fun h => by omega⟩
      ·rename_i hno
       refine ⟨i, rfl, Nat.le_refl _, hi, fun h => ?_⟩
       have hia : i = a := by omega
       subst hia
       exfalso; apply hno
       rw [hv] at hu
       simp only [Option.some.injEq, Int.natCast_inj] at hu
       subst hu
       simp only [zcJ, Bool.not_eq_true', Bool.or_eq_false_iff, beq_eq_false_iff_ne] at hb
       simp only [Bool.and_eq_true, bne_iff_ne, ne_eq, Bool.not_eq_true', Bool.or_eq_false_iff, beq_eq_false_iff_ne]
       simp only [Bool.not_eq_true] at hlet hdig
       exact ⟨⟨⟨⟨by omega, by omega⟩, hlet⟩, hdig⟩, by simp⟩
     ·have : i = t.length := by omega
      subst this
      exact ⟨t.length, by simp [zac.l3, grd], by simp, Nat.le_refl _, fun h => by omega⟩) n a ⟨a, rfl, Nat.le_of_lt ha⟩ (by simp; omega)
    obtain ⟨e, e1, -, e3, e4⟩ := this
    exact ⟨5, e, e1, e4 rfl, e3, by decide⟩
theorem zJ {α : Type} {b : Nat} {xs ys : List α} (h : (xs.length + ys.length) * b ≤ 140737488355328) : Go.Proofs.YtcagdmegicijlaaGreatDoor.app b xs ys = some (xs ++ ys) := by
 unfold Go.Proofs.YtcagdmegicijlaaGreatDoor.app; rw [if_pos h]
theorem ref_Scan_ok {n : Nat} {t : List UInt8} (hl : t.length < 1000000) (hn : 1000000 ≤ n) : ∀ (m : Nat) (b : List Token) (a : Nat), a ≤ t.length → b.length ≤ a → t.length - a < m → ∃ r, r ≠ [] ∧ loopF (zcc.l1 n t) m (b, (a : Int)) = some (b ++ r, 0)
 | 0, _, _, _, _, h => by omega
 | m + 1, b, a, ha, hb, h => by
  obtain ⟨k, e, k1, k2, k3, -⟩ := ref_skip_ok (n := n) ha hl hn
  simp only [loopF, zcc.l1, e, Option.bind_some]
  by_cases hlt : k < t.length
  ·obtain ⟨q, z, hz, z1, z2, -, -⟩ := ref_token_ok (n := n) hlt (k3 hlt) hl hn
   simp only [zo hlt, if_true, hz, Option.bind_some]
   rw [zJ (by simp; omega), Option.bind_some]
   obtain ⟨r, -, hr⟩ := ref_Scan_ok hl hn m (b ++ [(⟨q, (a : Int), (k : Int), (z : Int)⟩ : Token)]) z z2 (by simp; omega) (by omega)
   rw [hr]
   exact ⟨_ :: r, by simp, by rw [List.append_assoc]; rfl⟩
  ·rw [ge_nat (by omega), if_neg (by simp), zJ (by simp; omega), Option.bind_some]
   exact ⟨_, by simp, rfl⟩
theorem ref_Kind_ok {n : Nat} {w : List UInt8} (hl : w.length ≤ 4096) (hn : 1000000 ≤ n) : ∃ k, ref02_Kind n w = some k ∧ (k = 1 ↔ wordP w = true ∧ w ∉ kwL) := by
 unfold ref02_Kind zcc
 rw [if_neg (by simp; omega), loopF_1 (by omega)]
 obtain ⟨k, e, -, k2, k3, k4⟩ := ref_skip_ok (n := n) (t := w) (a := 0) (by omega) (by omega) hn
 simp only [Int.natCast_zero] at e
 simp only [zcc.l1, e, Option.bind_some]
 by_cases hlt : k < w.length
 ·obtain ⟨q, z, hz, z1, z2, z3, z4⟩ := ref_token_ok (n := n) hlt (k3 hlt) (by omega) hn
  simp only [zo hlt, if_true, hz, Option.bind_some, List.nil_append]
  rw [zJ (by simp), Option.bind_some]
  obtain ⟨r, r0, hr⟩ := ref_Scan_ok (n := n) (t := w) (by omega) hn (n - 1) [(⟨q, 0, (k : Int), (z : Int)⟩ : Token)] z z2 (by simp; omega) (by omega)
  simp only [List.nil_append]
  rw [hr]
  have h0 : idx ([(⟨q, 0, (k : Int), (z : Int)⟩ : Token)] ++ r) 0 = some ⟨q, 0, (k : Int), (z : Int)⟩ := by simp [idx]
  simp only [Option.bind_some, h0, Option.isSome_some, Bool.or_true, grd, if_true, Option.getD_some]
  rw [wordP_cons w (by omega)]
  have hw0 : k = 0 → z = w.length → (zbi (w[k].toNat : Nat) = true ∧ (w.drop k).take (z - k) ∉ kwL ↔ (zbi (w[0].toNat : Nat) && decide (runP partP w = w.length)) = true ∧ w ∉ kwL) := by
   intro e1 e2
   subst e1
   rw [e2]
   simp only [List.drop_zero, Nat.sub_zero, List.take_length, Bool.and_eq_true, decide_eq_true_eq]
   constructor
   ·rintro ⟨h1, h2⟩
    have := z3 h1
    simp only [List.drop_zero] at this
    exact ⟨⟨h1, by omega⟩, h2⟩
   ·rintro ⟨⟨h1, -⟩, h2⟩
    exact ⟨h1, h2⟩
  by_cases hc : ((((((0 : Int) != 0) || ((([(⟨q, 0, (k : Int), (z : Int)⟩ : Token)] ++ r).length : Int) != 2)) || ((k : Int) != 0)) || ((z : Int) != (w.length : Int)))) = true
  ·rw [if_pos hc]
   refine ⟨0, rfl, ?_⟩
   constructor
   ·intro h; exact absurd h (by decide)
   ·rintro ⟨h1, h2⟩
    exfalso
    simp only [Bool.and_eq_true, decide_eq_true_eq] at h1
    have hk0 : k = 0 := k4 (by omega) (letter_black h1.1)
    subst hk0
    have hzw := z3 h1.1
    simp only [List.drop_zero] at hzw
    have hzl : z = w.length := by omega
    subst hzl
    rw [loopF_1 (by omega)] at hr
    obtain ⟨k', e', p1, p2, -, -⟩ := ref_skip_ok (n := n) (t := w) (a := w.length) (Nat.le_refl _) (by omega) hn
    have : k' = w.length := by omega
    subst this
    simp only [zcc.l1, e', Option.bind_some, zaN, Bool.false_eq_true, if_false] at hr
    rw [zJ (by simp), Option.bind_some] at hr
    simp only [Option.some.injEq, Prod.mk.injEq, and_true, List.append_cancel_left_eq] at hr
    subst hr
    simp at hc
  ·rw [if_neg hc]
   refine ⟨q, rfl, ?_⟩
   simp only [Bool.or_eq_true, bne_iff_ne, ne_eq, not_or, Decidable.not_not] at hc
   rw [z4]
   exact hw0 (by omega) (by omega)
 ·rw [ge_nat (by omega), if_neg (by simp), zJ (by simp), Option.bind_some]
  simp only [List.nil_append, Option.bind_some]
  refine ⟨0, by simp [grd, idx], ?_⟩
  constructor
  ·intro h; exact absurd h (by decide)
  ·rintro ⟨h1, -⟩
   exfalso
   cases w with
   | nil => simp [wordP] at h1
   | cons x l =>
    simp only [wordP, Bool.and_eq_true] at h1
    have := k4 (by simp) (letter_black h1.1)
    simp at hlt; omega
theorem ref02_Name_eq {n : Nat} {w : List UInt8} (hl : w.length ≤ 4096) (hn : 1000000 ≤ n) : ref02_Name n w = some (nameP w) := by
 unfold ref02_Name nameP
 obtain ⟨k, hk, hiff⟩ := ref_Kind_ok (n := n) hl hn
 rw [hk, Option.bind_some]
 have h16 : decide ((w.length : Int) ≤ 16) = decide (w.length ≤ 16) := decide_eq_decide.2 (by omega)
 rw [h16, Bool.and_comm]
 congr 2
 rw [Bool.eq_iff_iff]
 simp only [beq_iff_eq, hiff, Bool.and_eq_true, Bool.not_eq_true', decide_eq_false_iff_not]
end Go.Proofs.YtcagdmegicijlaaGreatDoor
namespace Go.Proofs.YtcagdmegicijlaaGreatDoor
open Go Go.RowKit
theorem SetIs.getS {m : GMap (List UInt8) Bool} {l : List (List UInt8)} (h : SetIs m l) (k : List UInt8) : (m.get? k).getD false = decide (k ∈ l) := (h.get k).trans (decide_eq_decide.2 Iff.rfl)
def distP : List (List UInt8) → List (List UInt8) → Bool
 | _, [] => true
 | seen, s :: l => nameP s && !decide (s ∈ seen) && distP (seen ++ [s]) l
theorem model_distinct_eq {n : Nat} {l : List (List UInt8)} (hF : Fuel n) (hl : l.length < 1000000) : zX n l = some (distP [] l) := by
 have hn := hF.big
 have := zco (body := zX.l1 n l) (len := l.length) (st := fun m i => (m, (i : Int))) (g := fun i _ => some (distP (l.take i) (l.drop i))) (fun i m => SetIs m (l.take i)) (fun rec i m hi hm hr => ?_) (fun rec m _ => ?_) n 0 (GMap.empty) (Nat.zero_le _) (by omega) (by simpa using SetIs.empty)
 ·simpa [zX] using this
 ·simp only [zX.l1, zo hi, if_true, za hi, Option.bind_some, lexer_Name_eq hF, hm.getS, zd (show i < 4611686018427387904 by omega)]
  rw [hr _ (by rw [List.take_succ_eq_append_getElem hi]; exact hm.put _), zr hi, distP, List.take_succ_eq_append_getElem hi]
  cases nameP l[i] <;> cases hd : decide (l[i] ∈ l.take i) <;> simp
 ·simp [zX.l1, distP]
theorem IndexB_eq {n : Nat} {l : List Bool} {v : Bool} (hl : l.length < 1000000) (hn : 1000000 ≤ n) : zP n l v = some (ixP (fun x => v == x) l 0) := by
 have := zL (body := zP.l1 n l v) (len := l.length) (st := fun i => (i : Int)) (g := fun i => some (ixP (fun x => v == x) (l.drop i) i)) (fun rec i hi hr => ?_) (fun rec => ?_) n 0 (Nat.zero_le _) (by omega)
 ·simpa [zP] using this
 ·simp only [zP.l1, zo hi, if_true, za hi, Option.bind_some, zd (show i < 4611686018427387904 by omega), hr]
  rw [zr hi]
  simp only [ixP]
  split <;> rfl
 ·simp [zP.l1, ixP]
theorem cells_all_eq {n : Nat} {l : List Bool} (hl : l.length < 1000000) (hn : 1000000 ≤ n) : cells_all n l = some (l.all id) := by
 unfold cells_all zbh
 rw [IndexB_eq hl hn]
 simp only [Option.bind_some, ixP_any, Option.some.injEq]
 rw [← any_not]
 congr 2
 funext x; cases x <;> rfl
def b6 : Nat → Int → Int
 | 0, A => A
 | k + 1, A => b6 k (A * 6)
theorem b6_le : ∀ (k : Nat) (A : Int), 1 ≤ A → A ≤ b6 k A
 | 0, _, _ => Int.le_refl _
 | k + 1, A, h => Int.le_trans (by omega) (b6_le k (A * 6) (by omega))
theorem mul_small {a b A : Int} (h1 : 1 ≤ a) (h2 : a ≤ A) (h3 : 1 ≤ b) (h4 : b ≤ 6) : 1 ≤ a * b ∧ a * b ≤ A * 6 := by
 have e1 : 1 * 1 ≤ a * b := Int.mul_le_mul h1 h3 (by omega) (by omega)
 have e2 : a * b ≤ A * 6 := Int.mul_le_mul h2 h4 (by omega) (by omega)
 omega
theorem widthP_b6 (sizes : List Int) (hs : sizes.all zb1 = true) : ∀ (cols : List Int) (s A : Int), cols.all (colOK sizes) = true → 1 ≤ s → s ≤ A → b6 cols.length A ≤ 1000000 → 1 ≤ z0 sizes cols s ∧ z0 sizes cols s ≤ b6 cols.length A
 | [], s, A, _, h1, h2, _ => by simpa [z0, b6] using ⟨h1, h2⟩
 | c :: l, s, A, hc, h1, h2, h3 => by
  simp only [List.all_cons, Bool.and_eq_true] at hc
  have hcol := hc.1
  simp only [colOK, Bool.and_eq_true, decide_eq_true_eq] at hcol
  obtain ⟨k, rfl⟩ := Int.eq_ofNat_of_zero_le hcol.1
  have hk : k < sizes.length := by omega
  have hz := List.all_eq_true.1 hs _ (List.getElem_mem hk)
  simp only [zb1, Bool.and_eq_true, decide_eq_true_eq] at hz
  have hg : sizes.getD (k : Int).toNat 0 = sizes[k] := by simp [List.getD, hk]
  have hm := mul_small h1 h2 hz.1 hz.2
  simp only [List.length_cons, b6] at h3 ⊢
  have hb := b6_le l.length (A * 6) (by omega)
  simp only [z0, hg]
  unfold mul64
  rw [zbX (by omega) (by omega)]
  exact widthP_b6 sizes hs l _ _ hc.2 hm.1 hm.2 h3
theorem widthP_bound {sizes cols : List Int} (hs : sizes.all zb1 = true) (hc : cols.all (colOK sizes) = true) (h3 : cols.length ≤ 3) : 1 ≤ z0 sizes cols 1 ∧ z0 sizes cols 1 ≤ 216 := by
 have h : b6 cols.length 1 ≤ 216 := by
  match cols, h3 with
  | [], _ => decide
  | [_], _ => simp [b6]
  | [_, _], _ => simp [b6]
  | [_, _, _], _ => simp [b6]
  | _ :: _ :: _ :: _ :: _, h => simp at h
 have := widthP_b6 sizes hs cols 1 1 hc (by decide) (by decide) (by omega)
 omega
def zbA (k : Int) : Bool := k == 0 || k == 1
def rangedP (t : Table) : Bool := if (t.kind == 1 || t.kind == 4 || t.kind == 5) = true then (decide (t.range.lo ≤ t.range.hi) && decide (-9999 ≤ t.range.lo)) && decide (t.range.hi ≤ 9999) else decide (t.range = (⟨0, 1⟩ : Range))
def tabP (sizes : List Int) (t : Table) : Bool := nameP t.name && (decide (0 ≤ t.kind) && decide (t.kind ≤ 5)) && (decide (t.columns.length ≤ 3) && t.columns.all (colOK sizes)) && rangedP t
def layP (sizes : List Int) : List (List UInt8) → Int → Int → List Table → Bool
 | _, a, b, [] => decide (a ≤ 128) && decide (b ≤ 64)
 | seen, a, b, t :: l => (tabP sizes t && !decide (t.name ∈ seen)) && (if zbA t.kind = true then t.first == a && layP sizes (seen ++ [t.name]) (add64 a (z0 sizes t.columns 1)) b l else t.first == b && layP sizes (seen ++ [t.name]) a (add64 b (z0 sizes t.columns 1)) l)
def zbC (sizes : List Int) (tables : List Table) : Bool := decide (sizes.length ≤ 4) && decide (tables.length ≤ 12) && sizes.all zb1 && layP sizes [] 0 0 tables
theorem cells_ranged_eq {n : Nat} {t : Table} : cells_ranged n t = some (rangedP t) := by
 unfold cells_ranged rangedP jn
 by_cases h1 : t.kind = 1
 ·simp [h1]
 ·by_cases h4 : t.kind = 4
  ·simp [h4]
  ·by_cases h5 : t.kind = 5
   ·simp [h5]
   ·simp [h1, h4, h5]
theorem cells_Valid_eq {n : Nat} {sizes : List Int} {tables : List Table} (hF : Fuel n) (hs : sizes.length ≤ 1000) (ht : tables.length ≤ 1000) (hc : ∀ t ∈ tables, t.columns.length ≤ 1000) : zbd n sizes tables = some (zbC sizes tables) := by
 have hn := hF.big
 unfold zbd zbC
 rw [cells_sized_eq (by omega) (by omega), Option.bind_some, cells_all_eq (by simp) (by omega), Option.bind_some]
 simp only [List.all_cons, List.all_nil, id, Bool.and_true]
 have e1 : decide ((sizes.length : Int) ≤ 4) = decide (sizes.length ≤ 4) := decide_eq_decide.2 (by omega)
 have e2 : decide ((tables.length : Int) ≤ 12) = decide (tables.length ≤ 12) := decide_eq_decide.2 (by omega)
 rw [e1, e2, ← Bool.and_assoc]
 by_cases h : (decide (sizes.length ≤ 4) && decide (tables.length ≤ 12) && sizes.all zb1) = true
 ·rw [h, if_neg (by simp), Bool.true_and]
  have := zco (body := zbd.l1 n sizes tables) (len := tables.length) (st := fun (s : GMap (List UInt8) Bool × Int × Int) i => (s.1, s.2.1, s.2.2, (i : Int))) (g := fun i s => some (layP sizes ((tables.take i).map (·.name)) s.2.1 s.2.2 (tables.drop i))) (fun i s => SetIs s.1 ((tables.take i).map (·.name))) (fun rec i s hi hm hr => ?_) (fun rec s _ => ?_) n 0 (GMap.empty, 0, 0) (Nat.zero_le _) (by omega) (by simpa using SetIs.empty)
  ·simpa using this
  ·obtain ⟨m, a, b⟩ := s
   simp only [] at hm
   have hmem := List.getElem_mem hi
   have hcols := hc _ hmem
   simp only [zbd.l1, jn, zo hi, if_true, za hi, Option.bind_some, lexer_Name_eq hF, hm.getS, zc6, cells_columned_eq (show tables[i].columns.length < 4611686018427387904 by omega) (show tables[i].columns.length < n by omega), cells_ranged_eq, zbt, zd (show i < 4611686018427387904 by omega)]
   rw [cells_all_eq (by simp) (by omega), Option.bind_some]
   simp only [List.all_cons, List.all_nil, id, Bool.and_true]
   have hput := hm.put tables[i].name
   have htk : ((tables.take (i + 1)).map (·.name)) = (tables.take i).map (·.name) ++ [tables[i].name] := by rw [List.take_succ_eq_append_getElem hi, List.map_append]; rfl
   rw [← htk] at hput
   have hT : (nameP tables[i].name && (!decide (tables[i].name ∈ (tables.take i).map (·.name)) && (decide (0 ≤ tables[i].kind) && decide (tables[i].kind ≤ 5) && (decide (tables[i].columns.length ≤ 3) && tables[i].columns.all (colOK sizes) && rangedP tables[i])))) = (tabP sizes tables[i] && !decide (tables[i].name ∈ (tables.take i).map (·.name))) := by
    unfold tabP
    cases nameP tables[i].name <;> cases decide (tables[i].name ∈ (tables.take i).map (·.name)) <;> simp [Bool.and_assoc]
   rw [hT, zr hi, layP]
   by_cases hv : (tabP sizes tables[i] && !decide (tables[i].name ∈ (tables.take i).map (·.name))) = true
   ·rw [hv, if_neg (by simp), Bool.true_and]
    have hcol : tables[i].columns.all (colOK sizes) = true := by
     simp only [tabP, Bool.and_eq_true] at hv; exact hv.1.1.2.2
    simp only [cells_width_eq hcol (show tables[i].columns.length < 4611686018427387904 by omega) (show tables[i].columns.length < n by omega), Option.bind_some, ← htk]
    unfold zbA
    by_cases hk : (tables[i].kind == 0 || tables[i].kind == 1) = true
    ·rw [if_pos hk, if_pos hk]
     by_cases hf : tables[i].first = a
     ·rw [if_neg (by simp [hf]), hr (m.put tables[i].name true, add64 a (z0 sizes tables[i].columns 1), b) hput]
      simp [hf]
     ·rw [if_pos (by simp [hf])]; simp [hf]
    ·rw [if_neg hk, if_neg hk]
     by_cases hf : tables[i].first = b
     ·rw [if_neg (by simp [hf]), hr (m.put tables[i].name true, a, add64 b (z0 sizes tables[i].columns 1)) hput]
      simp [hf]
     ·rw [if_pos (by simp [hf])]; simp [hf]
   ·simp only [Bool.not_eq_true] at hv
    rw [hv, if_pos (by simp), Bool.false_and]
  ·simp [zbd.l1, layP]
 ·simp only [Bool.not_eq_true] at h
  rw [h, if_pos (by simp), Bool.false_and]
end Go.Proofs.YtcagdmegicijlaaGreatDoor
namespace Go.Proofs.YtcagdmegicijlaaGreatDoor
open Go Go.RowKit
theorem ref09_Valid_eq {n : Nat} {sizes : List Int} {tables : List Table} (hn : 1000000 ≤ n) (hs : sizes.length ≤ 1000) (ht : tables.length ≤ 1000) (hc : ∀ t ∈ tables, t.columns.length ≤ 1000 ∧ t.name.length ≤ 4096) : zau n sizes tables = some (zbC sizes tables) := by
 unfold zau zbC
 have e1 : decide (4 < (sizes.length : Int)) = !decide (sizes.length ≤ 4) := by rw [← decide_not]; exact decide_eq_decide.2 (by omega)
 have e2 : decide (12 < (tables.length : Int)) = !decide (tables.length ≤ 12) := by rw [← decide_not]; exact decide_eq_decide.2 (by omega)
 rw [ref09_sound_eq (by omega) (by omega), e1, e2]
 simp only [Option.isSome_some, Bool.or_true, grd, if_true, Option.getD_some]
 by_cases h : (decide (sizes.length ≤ 4) && decide (tables.length ≤ 12) && sizes.all zb1) = true
 ·rw [h, Bool.true_and]
  simp only [Bool.and_eq_true] at h
  obtain ⟨⟨h1, h2⟩, h3⟩ := h
  rw [h1, h2, h3, if_neg (by simp)]
  have := zco (body := zau.l1 n sizes tables) (len := tables.length) (st := fun (s : Int × Int) i => (s.1, s.2, (i : Int))) (g := fun i s => some (layP sizes ((tables.take i).map (·.name)) s.1 s.2 (tables.drop i))) (fun _ _ => True) (fun rec i s hi _ hr => ?_) (fun rec s _ => ?_) n 0 (0, 0) (Nat.zero_le _) (by omega) trivial
  ·simpa using this
  ·obtain ⟨a, b⟩ := s
   have hmem := List.getElem_mem hi
   obtain ⟨hcols, hname⟩ := hc _ hmem
   simp only [zau.l1, jn, zo hi, if_true, za hi, Option.bind_some]
   generalize hK : (fun (v : Int × Int) => rec (v.1, v.2, add64 (i : Int) 1)) = K
   have inner := zL (body := zau.l2 n sizes tables a b i K tables[i]) (len := i) (st := fun k => (k : Int)) (g := fun k => if decide (tables[i].name ∈ ((tables.take i).drop k).map (·.name)) = true then some false else zau.l2 n sizes tables a b i K tables[i] (fun _ => none) (i : Int)) (fun rec' k hk hr' => ?_) (fun rec' => ?_) n 0 (Nat.zero_le _) (by omega)
   ·rw [show ((0 : Nat) : Int) = 0 from rfl] at inner
    rw [inner, zr hi, layP, List.drop_zero]
    have htk : ((tables.take (i + 1)).map (·.name)) = (tables.take i).map (·.name) ++ [tables[i].name] := by rw [List.take_succ_eq_append_getElem hi, List.map_append]; rfl
    cases hseen : decide (tables[i].name ∈ (tables.take i).map (·.name)) with
    | true => simp
    | false =>
     simp only [Bool.false_eq_true, if_false, Bool.not_false, Bool.and_true]
     have hnum := ref09_number_eq (n := n) (sizes := sizes) (cols := tables[i].columns) (by omega) (by omega) (by omega) (by omega)
     rw [h3, Bool.and_true] at hnum
     simp only [zau.l2, ge_nat (Nat.le_refl i), Bool.false_eq_true, if_false, hnum, Option.bind_some, ref02_Name_eq hname hn, zb5]
     unfold tabP
     by_cases hcol : (decide (tables[i].columns.length ≤ 3) && tables[i].columns.all (colOK sizes)) = true
     ·simp only [hcol, if_true, Bool.and_true]
      have hcol' := hcol
      simp only [Bool.and_eq_true, decide_eq_true_eq] at hcol'
      have hw := widthP_bound h3 hcol'.2 hcol'.1
      have hw0 : (z0 sizes tables[i].columns 1 == 0) = false := by simp; omega
      rw [hw0, Bool.or_false]
      by_cases hnk : (nameP tables[i].name && (decide (0 ≤ tables[i].kind) && decide (tables[i].kind ≤ 5))) = true
      ·rw [hnk, Bool.true_and]
       simp only [Bool.and_eq_true, decide_eq_true_eq] at hnk
       rw [if_neg (by simp [hnk.1]; omega)]
       by_cases hrg : rangedP tables[i] = true
       ·rw [hrg, Bool.true_and]
        unfold rangedP at hrg
        rw [if_neg (by
         split at hrg
         ·simp only [Bool.and_eq_true, decide_eq_true_eq] at hrg
          simp only [Bool.or_eq_true, decide_eq_true_eq]; omega
         ·simp only [decide_eq_true_eq] at hrg
          rw [hrg]; decide), if_neg (by
         split at hrg
         ·rename_i hk
          simp only [Bool.or_eq_true, beq_iff_eq] at hk
          simp only [Bool.and_eq_true, Bool.or_eq_true, beq_iff_eq]; omega
         ·simp only [decide_eq_true_eq] at hrg
          rw [hrg]; simp)]
        unfold zbA
        by_cases hk : (tables[i].kind == 0 || tables[i].kind == 1) = true
        ·rw [if_pos hk, if_pos hk]
         by_cases hf : tables[i].first = a
         ·rw [if_neg (by simp [hf]), ← hK]
          simp only [zd (show i < 4611686018427387904 by omega)]
          have := hr (add64 a (z0 sizes tables[i].columns 1), b) trivial
          simp only [] at this
          rw [this, htk]
          simp [hf]
         ·rw [if_pos (by simp [hf])]; simp [hf]
        ·rw [if_neg hk, if_neg hk]
         by_cases hf : tables[i].first = b
         ·rw [if_neg (by simp [hf]), ← hK]
          simp only [zd (show i < 4611686018427387904 by omega)]
          have := hr (a, add64 b (z0 sizes tables[i].columns 1)) trivial
          simp only [] at this
          rw [this, htk]
          simp [hf]
         ·rw [if_pos (by simp [hf])]; simp [hf]
       ·simp only [Bool.not_eq_true] at hrg
        rw [hrg, Bool.false_and]
        unfold rangedP at hrg
        split at hrg
        ·rename_i hk
         rw [if_pos (by
          simp only [Bool.and_eq_false_iff, decide_eq_false_iff_not] at hrg
          simp only [Bool.or_eq_true, decide_eq_true_eq]; omega)]
        ·rename_i hk
         simp only [Bool.or_eq_true, beq_iff_eq, not_or] at hk
         have hr01 : ¬ (tables[i].range.lo = 0 ∧ tables[i].range.hi = 1) := by
          rintro ⟨q1, q2⟩
          simp only [decide_eq_false_iff_not] at hrg
          apply hrg
          cases hrr : tables[i].range
          rw [hrr] at q1 q2
          simp only [] at q1 q2
          rw [q1, q2]
         split
         ·rfl
         ·rw [if_pos (by
           simp only [Bool.and_eq_true, Bool.or_eq_true, beq_iff_eq, bne_iff_ne, ne_eq]; omega)]
      ·simp only [Bool.not_eq_true] at hnk
       rw [hnk, Bool.false_and, Bool.false_and]
       rw [if_pos (by
        simp only [Bool.and_eq_false_iff, decide_eq_false_iff_not] at hnk
        simp only [Bool.or_eq_true, Bool.not_eq_true', decide_eq_true_eq]
        rcases hnk with h | h | h
        ·exact .inl (.inl h)
        ·exact .inl (.inr (by omega))
        ·exact .inr (by omega))]
     ·simp only [Bool.not_eq_true] at hcol
      simp only [hcol, Bool.and_false, Bool.false_and, Bool.false_eq_true, if_false]
      rw [if_pos (by simp)]
   ·have hk' : k < tables.length := by omega
    simp only [zau.l2, lt_nat hk, if_true, za hk', Option.bind_some, zd (show k < 4611686018427387904 by omega), hr']
    have hk2 : k < (tables.take i).length := by simp; omega
    rw [zr hk2]
    simp only [List.getElem_take, List.map_cons, List.mem_cons]
    by_cases hnm : tables[k].name = tables[i].name
    ·rw [if_pos (by simpa using hnm), if_pos (by simp [hnm])]
    ·rw [if_neg (by simpa using hnm)]
     have hnm' : ¬ tables[i].name = tables[k].name := fun e => hnm e.symm
     simp only [hnm', false_or]
   ·rw [if_neg (by simp)]
    simp only [zau.l2, ge_nat (Nat.le_refl i), Bool.false_eq_true, if_false]
  ·simp [zau.l1, layP]
 ·simp only [Bool.not_eq_true] at h
  rw [h, Bool.false_and]
  rw [if_pos (by
   simp only [Bool.and_eq_false_iff] at h
   simp only [Bool.or_eq_true, Bool.not_eq_true']
   rcases h with (h | h) | h
   ·exact .inl (.inl h)
   ·exact .inr h
   ·exact .inl (.inr h))]
def zQ (sizes : List Int) (s : Bool) : List Table → List Range
 | [] => []
 | t :: l => if (zbA t.kind == s) = true then List.replicate (z0 sizes t.columns 1).toNat t.range ++ zQ sizes s l else zQ sizes s l
theorem layP_tab {sizes : List Int} : ∀ {l : List Table} {seen : List (List UInt8)} {a b : Int}, layP sizes seen a b l = true → ∀ t ∈ l, tabP sizes t = true
 | [], _, _, _, _, _, ht => by simp at ht
 | x :: l, seen, a, b, h, t, ht => by
  simp only [layP, Bool.and_eq_true] at h
  simp only [List.mem_cons] at ht
  rcases ht with rfl | ht
  ·exact h.1.1
  ·have h2 := h.2
   split at h2
   ·simp only [Bool.and_eq_true] at h2; exact layP_tab h2.2 t ht
   ·simp only [Bool.and_eq_true] at h2; exact layP_tab h2.2 t ht
theorem zbQ {sizes : List Int} {tables : List Table} (h : zbC sizes tables = true) : sizes.length ≤ 4 ∧ tables.length ≤ 12 ∧ sizes.all zb1 = true ∧ ∀ t ∈ tables, nameP t.name = true ∧ (0 ≤ t.kind ∧ t.kind ≤ 5) ∧ t.columns.length ≤ 3 ∧ t.columns.all (colOK sizes) = true ∧ 1 ≤ z0 sizes t.columns 1 ∧ z0 sizes t.columns 1 ≤ 216 := by
 simp only [zbC, Bool.and_eq_true, decide_eq_true_eq] at h
 obtain ⟨⟨⟨h1, h2⟩, h3⟩, h4⟩ := h
 refine ⟨h1, h2, h3, fun t ht => ?_⟩
 have := layP_tab h4 t ht
 simp only [tabP, Bool.and_eq_true, decide_eq_true_eq] at this
 obtain ⟨⟨⟨p1, p2⟩, p3⟩, -⟩ := this
 exact ⟨p1, p2, p3.1, p3.2, widthP_bound h3 p3.2 p3.1⟩
theorem zcV {sizes : List Int} {s : Bool} : ∀ {l : List Table}, (∀ t ∈ l, 1 ≤ z0 sizes t.columns 1 ∧ z0 sizes t.columns 1 ≤ 216) → (zQ sizes s l).length ≤ l.length * 216
 | [], _ => by simp [zQ]
 | t :: l, h => by
  have ih := zcV (s := s) (l := l) fun x hx => h x (by simp [hx])
  have ht := h t (by simp)
  simp only [zQ, List.length_cons]
  split
  ·simp only [List.length_append, List.length_replicate]; omega
  ·omega
theorem Mul_eq {n : Nat} : ∀ w : Fin 217, math_bits_Mul n 1 ((w.1 : Nat) : Int) = some (0, ((w.1 : Nat) : Int)) := by
 intro w
 unfold math_bits_Mul math_bits_Mul64
 revert w
 decide +kernel
end Go.Proofs.YtcagdmegicijlaaGreatDoor
namespace Go.Proofs.YtcagdmegicijlaaGreatDoor
open Go Go.RowKit
theorem wk_small : ∀ w : Fin 217, wk .u64 ((w.1 : Nat) : Int) = ((w.1 : Nat) : Int) ∧ wk .i64 ((w.1 : Nat) : Int) = ((w.1 : Nat) : Int) := by decide +kernel
theorem Repeat_eq {n : Nat} {x : Range} {w : Int} (h1 : 1 ≤ w) (h2 : w ≤ 216) (hn : 1000000 ≤ n) : zB n [x] w = some (List.replicate w.toNat x) := by
 obtain ⟨W, rfl⟩ := Int.eq_ofNat_of_zero_le (show 0 ≤ w by omega)
 have hW : W < 217 := by omega
 have hwk := wk_small ⟨W, hW⟩
 simp only [] at hwk
 have h1k : wk .u64 (([x] : List Range).length : Int) = 1 := (wk_small ⟨1, by decide⟩).1
 unfold zB
 rw [if_neg (by simp), h1k, hwk.1, Mul_eq ⟨W, hW⟩]
 simp only [Option.bind_some]
 rw [if_neg (by simp; omega), hwk.2]
 have hm : mkl 16 (W : Int) (⟨0, 0⟩ : Range) = some (List.replicate W ⟨0, 0⟩) := by
  unfold mkl; rw [if_pos (by omega)]; simp
 rw [hm, Option.bind_some]
 simp only [List.length_replicate, List.length_singleton, Nat.sub_zero, Int.toNat_natCast]
 rw [show min W 1 = 1 by omega]
 refine loopF_M (body := zB.l1 n) (fun s => W - s.2.toNat) (fun s => ∃ k : Nat, s.2 = (k : Int) ∧ 1 ≤ k ∧ k ≤ W ∧ s.1.length = W ∧ s.1.take k = List.replicate k x) (fun _ o => o = some (List.replicate W x)) (fun rec s hI hr => ?_) n _ ⟨1, rfl, by omega, by omega, ?_, ?_⟩ (by simp; omega)
 ·obtain ⟨b, kk⟩ := s
  obtain ⟨k, rfl, k1, k2, hb, hk⟩ := hI
  simp only [] at hb hk
  simp only [zB.l1]
  by_cases hlt : k < W
  ·have hcE : cut b (k : Int) (W : Int) = some (b.drop k) := by rw [← hb]; exact cut_end (by omega)
   have hc := cut_nat (l := b) (a := 0) (b := k) (by omega) (by omega)
   simp only [Int.natCast_zero] at hc
   simp only [hb, lt_nat hlt, if_true, hcE, hc, Option.bind_some, Int.toNat_natCast, List.drop_zero, Nat.sub_zero, hk, List.length_replicate]
   rw [add64_nat (by omega)]
   refine hr (_, ((k + min (W - k) k : Nat) : Int)) ⟨k + min (W - k) k, rfl, by omega, by omega, ?_, ?_⟩ (by simp only [Int.toNat_natCast]; omega)
   ·simp only []
    rw [zch (by omega) (by omega), hb]
   ·simp only [zcl, hk, List.take_replicate, List.length_replicate]
    rw [show min (W - k) k = min (W - k) k from rfl, ← List.append_assoc, List.replicate_append_replicate]
    rw [List.take_append_of_le_length (by simp)]
    simp
  ·have : k = W := by omega
   subst this
   have hd : decide ((k : Int) < (b.length : Int)) = false := by rw [hb]; exact ge_nat (Nat.le_refl _)
   simp only [hd, Bool.false_eq_true, if_false]
   rw [← hk, List.take_of_length_le (by omega)]
 ·rw [zch (by omega) (by simp)]; simp
 ·simp [zcl, List.take_append]
  rw [List.take_of_length_le (l := [x]) (by simp; omega), show min W 1 = 1 by omega]
  simp
theorem rangesP_append (sizes : List Int) (s : Bool) : ∀ (l m : List Table), zQ sizes s (l ++ m) = zQ sizes s l ++ zQ sizes s m
 | [], _ => rfl
 | t :: l, m => by
  simp only [List.cons_append, zQ, rangesP_append sizes s l m]
  split <;> simp
theorem rangesP_snoc {sizes : List Int} {s : Bool} {l : List Table} {i : Nat} (hi : i < l.length) : zQ sizes s (l.take (i + 1)) = if (zbA l[i].kind == s) = true then zQ sizes s (l.take i) ++ List.replicate (z0 sizes l[i].columns 1).toNat l[i].range else zQ sizes s (l.take i) := by
 rw [List.take_succ_eq_append_getElem hi, rangesP_append]
 simp only [zQ]
 split <;> simp
theorem cells_Ranges_eq {n : Nat} {sizes : List Int} {tables : List Table} {s : Bool} (hF : Fuel n) (hs : sizes.length ≤ 1000) (ht : tables.length ≤ 1000) (hc : ∀ t ∈ tables, t.columns.length ≤ 1000) :
  za4 n sizes tables s = some (if zbC sizes tables = true then zQ sizes s tables else []) := by
 have hn := hF.big
 unfold za4
 rw [cells_Valid_eq hF hs ht hc, Option.bind_some]
 cases hL : zbC sizes tables with
 | false => simp
 | true =>
  obtain ⟨l1, l2, l3, l4⟩ := zbQ hL
  have := zL (body := za4.l1 n sizes tables s) (len := tables.length) (st := fun i => (zQ sizes s (tables.take i), (i : Int))) (g := fun _ => some (zQ sizes s tables)) (fun rec i hi hr => ?_) (fun rec => ?_) n 0 (Nat.zero_le _) (by omega)
  ·simpa [zQ] using this
  ·obtain ⟨-, -, c1, c2, c3, c4⟩ := l4 _ (List.getElem_mem hi)
   have hlen := zcV (sizes := sizes) (s := s) (l := tables.take i) fun x hx => (l4 x (List.mem_of_mem_take hx)).2.2.2.2
   simp only [List.length_take] at hlen
   rw [rangesP_snoc hi] at hr
   simp only [za4.l1, jn, zo hi, if_true, za hi, Option.bind_some, zbt, zd (show i < 4611686018427387904 by omega)]
   unfold zbA at hr
   by_cases hk : ((tables[i].kind == 0 || tables[i].kind == 1) == s) = true
   ·rw [if_pos hk] at hr ⊢
    rw [cells_width_eq c2 (by omega) (by omega), Option.bind_some, Repeat_eq c3 c4 (by omega), Option.bind_some, zJ (by simp only [List.length_replicate]; omega), Option.bind_some, hr]
   ·rw [if_neg hk] at hr ⊢
    rw [hr]
  ·simp [za4.l1]
theorem ref09_Ranges_eq {n : Nat} {sizes : List Int} {tables : List Table} {s : Bool} (hn : 1000000 ≤ n) (hs : sizes.length ≤ 1000) (ht : tables.length ≤ 1000) (hc : ∀ t ∈ tables, t.columns.length ≤ 1000 ∧ t.name.length ≤ 4096) :
  zao n sizes tables s = some (if zbC sizes tables = true then zQ sizes s tables else []) := by
 unfold zao
 rw [ref09_Valid_eq hn hs ht hc, Option.bind_some]
 cases hL : zbC sizes tables with
 | false => simp
 | true =>
  obtain ⟨l1, l2, l3, l4⟩ := zbQ hL
  have := zL (body := zao.l1 n sizes tables s) (len := tables.length) (st := fun i => (zQ sizes s (tables.take i), (i : Int))) (g := fun _ => some (zQ sizes s tables)) (fun rec i hi hr => ?_) (fun rec => ?_) n 0 (Nat.zero_le _) (by omega)
  ·simpa [zQ] using this
  ·obtain ⟨-, -, c1, c2, c3, c4⟩ := l4 _ (List.getElem_mem hi)
   have hlen := zcV (sizes := sizes) (s := s) (l := tables.take i) fun x hx => (l4 x (List.mem_of_mem_take hx)).2.2.2.2
   simp only [List.length_take] at hlen
   rw [rangesP_snoc hi] at hr
   simp only [zao.l1, zo hi, if_true]
   obtain ⟨W, hW⟩ := Int.eq_ofNat_of_zero_le (show 0 ≤ z0 sizes tables[i].columns 1 by omega)
   have hnum := ref09_number_eq (n := n) (sizes := sizes) (cols := tables[i].columns) (by omega) (by omega) (by omega) (by omega)
   simp only [l3, c2, c1, decide_true, Bool.and_true, if_true] at hnum
   have inner := zL (body := zao.l2 n sizes tables s i rec) (len := if (zbA tables[i].kind == s) = true then W else 0) (st := fun k => (zQ sizes s (tables.take i) ++ List.replicate k tables[i].range, (k : Int))) (g := fun _ => some (zQ sizes s tables)) (fun rec' k hk hr' => ?_) (fun rec' => ?_) n 0 (Nat.zero_le _) (by split <;> omega)
   ·simpa using inner
   ·split at hk
    ·rename_i hst
     simp only [zbA] at hst
     simp only [zao.l2, za hi, Option.bind_some, zb5, hst, Option.isSome_some, Bool.or_true, grd, if_true, Option.getD_some, hnum, Bool.true_and, hW, lt_nat hk, zd (show k < 4611686018427387904 by omega)]
     rw [zJ (by simp only [List.length_append, List.length_replicate, List.length_singleton]; omega), Option.bind_some, List.append_assoc, ← List.replicate_succ', hr']
    ·omega
   ·by_cases hst : ((tables[i].kind == 0 || tables[i].kind == 1) == s) = true
    ·have hst' : (zbA tables[i].kind == s) = true := hst
     rw [if_pos hst'] at hr ⊢
     simp only [zao.l2, za hi, Option.bind_some, zb5, hst, Option.isSome_some, Bool.or_true, grd, if_true, Option.getD_some, hnum, Bool.true_and, hW, ge_nat (Nat.le_refl W), Bool.false_eq_true, if_false, zd (show i < 4611686018427387904 by omega)]
     rw [hW] at hr
     simpa using hr
    ·have hst' : ¬ (zbA tables[i].kind == s) = true := hst
     rw [if_neg hst'] at hr ⊢
     simp only [Bool.not_eq_true] at hst
     simp only [zao.l2, za hi, Option.bind_some, zb5, hst, Bool.not_false, Bool.true_or, grd, if_true, Bool.false_and, Bool.false_eq_true, if_false, zd (show i < 4611686018427387904 by omega)]
     simpa using hr
  ·simp [zao.l1]
end Go.Proofs.YtcagdmegicijlaaGreatDoor
namespace Go.Proofs.YtcagdmegicijlaaGreatDoor
open Go Go.RowKit
def zcp (p : Int → Bool) (i : Nat) : Nat → List Int
 | 0 => []
 | m + 1 => if p (i : Int) = true then (i : Int) :: zcp p (i + 1) m else zcp p (i + 1) m
theorem raisedP_len (p : Int → Bool) : ∀ (m i : Nat), (zcp p i m).length ≤ m
 | 0, _ => Nat.le_refl _
 | m + 1, i => by
  simp only [zcp]; split
  ·simp only [List.length_cons]; exact Nat.succ_le_succ (raisedP_len p m (i + 1))
  ·exact Nat.le_succ_of_le (raisedP_len p m (i + 1))
theorem raisedP_snoc (p : Int → Bool) : ∀ (m i : Nat), zcp p i (m + 1) = if p ((i + m : Nat) : Int) = true then zcp p i m ++ [((i + m : Nat) : Int)] else zcp p i m
 | 0, i => by simp [zcp]
 | m + 1, i => by
  have ih := raisedP_snoc p m (i + 1)
  have e : i + 1 + m = i + (m + 1) := by omega
  rw [e] at ih
  rw [zcp, ih]
  conv => rhs; simp only [zcp]
  split <;> split <;> simp
def raiseP (l : List Change) (c : Constraint) (k : Int) : Bool := decide (0 < zct l (add64 c.first k))
theorem condition_raised_eq {n : Nat} {a : Action} {c : Constraint} {K : Nat} (hK : mul64 c.size c.size = (K : Int)) (h1 : a.effect.delta.length < 4611686018427387904) (h2 : a.effect.delta.length < n) (h3 : K < 17592186044416) (h4 : K < n) :
  zx n a c = some (zcp (raiseP a.effect.delta c) 0 K) := by
 have := zL (body := zx.l1 n a c) (len := K) (st := fun i => (zcp (raiseP a.effect.delta c) 0 i, (i : Int))) (g := fun _ => some (zcp (raiseP a.effect.delta c) 0 K)) (fun rec i hi hr => ?_) (fun rec => ?_) n 0 (Nat.zero_le _) (by omega)
 ·simpa [zx, zcp] using this
 ·rw [raisedP_snoc] at hr
  have hlen := raisedP_len (raiseP a.effect.delta c) i 0
  have hd : decide ((i : Int) < mul64 c.size c.size) = true := by rw [hK]; simp; omega
  have happ : Go.Proofs.YtcagdmegicijlaaGreatDoor.app 8 (zcp (raiseP a.effect.delta c) 0 i) [(i : Int)] = some (zcp (raiseP a.effect.delta c) 0 i ++ [(i : Int)]) := by
   unfold Go.Proofs.YtcagdmegicijlaaGreatDoor.app; rw [if_pos (by simp only [List.length_singleton]; omega)]
  simp only [zx.l1, hd, if_true, jn, zZ _ h1 h2, Option.bind_some, zd (show i < 4611686018427387904 by omega), happ]
  simp only [Nat.zero_add] at hr
  by_cases hp : raiseP a.effect.delta c (i : Int) = true
  ·rw [if_pos hp] at hr
   unfold raiseP at hp
   rw [if_pos hp, hr]
  ·rw [if_neg hp] at hr
   unfold raiseP at hp
   rw [if_neg hp, hr]
 ·have hd : decide ((K : Int) < mul64 c.size c.size) = false := by rw [hK]; simp
  simp [zx.l1, hd]
end Go.Proofs.YtcagdmegicijlaaGreatDoor
namespace Go.Proofs.YtcagdmegicijlaaGreatDoor
open Go Go.RowKit
structure Good (n : Nat) (m : Model) : Prop where
 acts : ∀ a ∈ m.actions, a.effect.delta.length < 4611686018427387904 ∧ a.effect.delta.length < n ∧ (∀ k, addP k a.effect.delta 0 = zct a.effect.delta k) ∧ ∀ r ∈ a.effect.hold, r.terms.length < 4611686018427387904 ∧ r.terms.length < n
 cons : ∀ c ∈ m.constraints, (c.kind = 0 ∨ c.kind = 1) ∧ c.row.terms.length < 4611686018427387904 ∧ c.row.terms.length < n ∧ ∃ K : Nat, mul64 c.size c.size = (K : Int) ∧ K < 17592186044416 ∧ K < n
theorem idx_mem {α : Type} {l : List α} {i : Int} {x : α} (h : idx l i = some x) : x ∈ l := by
 obtain ⟨n, rfl, hn, rfl⟩ := idxS h
 exact List.getElem_mem hn
theorem zbr {α : Type} {l : List α} {i : Int} (h0 : 0 ≤ i) (h1 : i < (l.length : Int)) : ∃ x, idx l i = some x := by
 obtain ⟨n, rfl⟩ := Int.eq_ofNat_of_zero_le h0
 exact ⟨_, za (by omega)⟩
end Go.Proofs.YtcagdmegicijlaaGreatDoor
namespace Go.Proofs.YtcagdmegicijlaaGreatDoor
open Go Go.RowKit
def allR (p : Nat → Bool) (i : Nat) : Nat → Bool
 | 0 => true
 | k + 1 => p i && allR p (i + 1) k
theorem allR_iff {p : Nat → Bool} : ∀ {k i : Nat}, allR p i k = true ↔ ∀ j, i ≤ j → j < i + k → p j = true
 | 0, i => by simp [allR]; omega
 | k + 1, i => by
  simp only [allR, Bool.and_eq_true, allR_iff (k := k) (i := i + 1)]
  constructor
  ·rintro ⟨h1, h2⟩ j hj hk
   by_cases e : j = i
   ·rw [e]; exact h1
   ·exact h2 j (by omega) (by omega)
  ·intro h
   exact ⟨h i (Nat.le_refl _) (by omega), fun j hj hk => h j (by omega) (by omega)⟩
theorem allR_0 {p : Nat → Bool} {k : Nat} : allR p 0 k = true ↔ ∀ j, j < k → p j = true := by
 rw [allR_iff]; simp
theorem loopF_all {S R : Type} {body : (S → Option R) → S → Option R} {len n : Nat} {st : Nat → S} (p : Nat → Bool) (F T : Option R)
  (hb : ∀ rec i, i < len → body rec (st i) = if p i = true then rec (st (i + 1)) else F) (he : ∀ rec, body rec (st len) = T) (hn : len < n) : loopF body n (st 0) = if allR p 0 len = true then T else F := by
 have := zL (body := body) (len := len) (st := st) (g := fun i => if allR p i (len - i) = true then T else F) (fun rec i hi hr => ?_) (fun rec => ?_) n 0 (Nat.zero_le _) (by omega)
 ·simpa using this
 ·rw [hb rec i hi, show len - i = (len - (i + 1)) + 1 by omega, allR, hr]
  cases p i <;> simp
 ·rw [he]; simp [allR]
theorem IndexFunc_LTable_api_Table_eq {n : Nat} {l : List Table} {f : Table → Option Bool} {p : Table → Bool} (hf : ∀ x ∈ l, f x = some (p x)) (hl : l.length < 1000000) (hn : 1000000 ≤ n) : zn n l f = some (ixP p l 0) := by
 have := zL (body := zn.l1 n l f) (len := l.length) (st := fun i => (i : Int)) (g := fun i => some (ixP p (l.drop i) i)) (fun rec i hi hr => ?_) (fun rec => ?_) n 0 (Nat.zero_le _) (by omega)
 ·simpa [zn] using this
 ·simp only [zn.l1, zo hi, if_true, za hi, Option.bind_some, hf _ (List.getElem_mem hi), zd (show i < 4611686018427387904 by omega), hr]
  rw [zr hi]
  simp only [ixP]
  split <;> rfl
 ·simp [zn.l1, ixP]
theorem zcS {n : Nat} {l : List Table} {f : Table → Option Bool} {p : Table → Bool} (hf : ∀ x ∈ l, f x = some (p x)) (hl : l.length < 1000000) (hn : 1000000 ≤ n) : zE n l f = some (l.any p) := by
 unfold zE
 rw [IndexFunc_LTable_api_Table_eq hf hl hn, Option.bind_some, ixP_any]
theorem IndexFunc_LRow_api_Row_eq {n : Nat} {l : List Row} {f : Row → Option Bool} {p : Row → Bool} (hf : ∀ x ∈ l, f x = some (p x)) (hl : l.length < 1000000) (hn : 1000000 ≤ n) : zy n l f = some (ixP p l 0) := by
 have := zL (body := zy.l1 n l f) (len := l.length) (st := fun i => (i : Int)) (g := fun i => some (ixP p (l.drop i) i)) (fun rec i hi hr => ?_) (fun rec => ?_) n 0 (Nat.zero_le _) (by omega)
 ·simpa [zy] using this
 ·simp only [zy.l1, zo hi, if_true, za hi, Option.bind_some, hf _ (List.getElem_mem hi), zd (show i < 4611686018427387904 by omega), hr]
  rw [zr hi]
  simp only [ixP]
  split <;> rfl
 ·simp [zy.l1, ixP]
theorem zbW {n : Nat} {l : List Row} {f : Row → Option Bool} {p : Row → Bool} (hf : ∀ x ∈ l, f x = some (p x)) (hl : l.length < 1000000) (hn : 1000000 ≤ n) : zh n l f = some (l.any p) := by
 unfold zh
 rw [IndexFunc_LRow_api_Row_eq hf hl hn, Option.bind_some, ixP_any]
theorem IndexFunc_LHide_api_Hide_eq {n : Nat} {l : List Hide} {f : Hide → Option Bool} {p : Hide → Bool} (hf : ∀ x ∈ l, f x = some (p x)) (hl : l.length < 1000000) (hn : 1000000 ≤ n) : zq n l f = some (ixP p l 0) := by
 have := zL (body := zq.l1 n l f) (len := l.length) (st := fun i => (i : Int)) (g := fun i => some (ixP p (l.drop i) i)) (fun rec i hi hr => ?_) (fun rec => ?_) n 0 (Nat.zero_le _) (by omega)
 ·simpa [zq] using this
 ·simp only [zq.l1, zo hi, if_true, za hi, Option.bind_some, hf _ (List.getElem_mem hi), zd (show i < 4611686018427387904 by omega), hr]
  rw [zr hi]
  simp only [ixP]
  split <;> rfl
 ·simp [zq.l1, ixP]
theorem ContainsFunc_LHide_api_Hide_eq {n : Nat} {l : List Hide} {f : Hide → Option Bool} {p : Hide → Bool} (hf : ∀ x ∈ l, f x = some (p x)) (hl : l.length < 1000000) (hn : 1000000 ≤ n) : zaf n l f = some (l.any p) := by
 unfold zaf
 rw [IndexFunc_LHide_api_Hide_eq hf hl hn, Option.bind_some, ixP_any]
def zaM (x most : Int) : Bool := decide (-most ≤ x) && decide (x ≤ most)
theorem around3 {n : Nat} {x : Int} : zah n x 1000 = some (zaM x 1000) := rfl
theorem around9 {n : Nat} {x : Int} : zah n x 1000000000 = some (zaM x 1000000000) := rfl
theorem around4 {n : Nat} {x : Int} : zah n x 9999 = some (zaM x 9999) := rfl
def rowP (K : Nat) : Int → List Term → Bool
 | _, [] => true
 | last, t :: l => (decide (last < t.cell) && decide (t.cell < (K : Int)) && (t.factor != 0) && zaM t.factor 1000) && rowP K t.cell l
def rowOK (K : Nat) (r : Row) : Bool := rowP K (-1) r.terms && zaM r.bound 1000000000
theorem sub64_1 {i : Nat} (h0 : 0 < i) (h : i < 4611686018427387904) : sub64 (i : Int) 1 = ((i - 1 : Nat) : Int) := by
 unfold sub64; rw [zbX (by omega) (by omega)]; omega
theorem model_row_eq {n : Nat} {j : Judge} {r : Row} (hl : r.terms.length < 1000000) (hn : 1000000 ≤ n) : zae n j r = some (rowOK j.strict.length r) := by
 have := zco (body := zae.l1 n j r) (len := r.terms.length) (st := fun (s : Int) i => (s, (i : Int))) (g := fun i s => some (rowP j.strict.length s (r.terms.drop i) && zaM r.bound 1000000000)) (fun _ _ => True) (fun rec i s hi _ hr => ?_) (fun rec s _ => ?_) n 0 (-1) (Nat.zero_le _) (by omega) trivial
 ·simpa [zae, rowOK] using this
 ·simp only [zae.l1, zo hi, if_true, za hi, Option.bind_some, around3, Option.isSome_some, Bool.or_true, grd, Option.getD_some, zd (show i < 4611686018427387904 by omega), hr r.terms[i].cell trivial]
  rw [zr hi, rowP]
  by_cases h : (decide (s < r.terms[i].cell) && decide (r.terms[i].cell < (j.strict.length : Int)) && (r.terms[i].factor != 0) && zaM r.terms[i].factor 1000) = true
  ·rw [h, Bool.true_and]
   simp only [Bool.and_eq_true, decide_eq_true_eq, bne_iff_ne] at h
   rw [if_neg (by simp [h.2, h.1.2]; omega)]
  ·rw [if_pos (by
    simp only [Bool.and_eq_true, decide_eq_true_eq, bne_iff_ne, ne_eq] at h
    simp only [Bool.or_eq_true, decide_eq_true_eq, beq_iff_eq, Bool.not_eq_true', ← Bool.not_eq_true]
    by_cases ha : zaM r.terms[i].factor 1000 = true
    ·left; simp only [ha, and_true] at h; omega
    ·exact .inr ha)]
   simp only [Bool.not_eq_true] at h
   rw [h]; rfl
 ·simp [zae.l1, around9, rowP]
def graphT (sorts : List Int) (c : Constraint) (t : Table) : Bool := (t.kind == 0 && ((t.columns.length : Int) == 2)) && (((idx t.columns 0).getD default == (idx t.columns 1).getD default) && t.first == c.first && ((idx sorts ((idx t.columns 0).getD default)).getD default == c.size))
def graphP (m : Model) (c : Constraint) : Bool := (((c.row.terms.length : Int) == 0) && (c.row.bound == 0)) && m.tables.any (graphT m.sorts c)
theorem graph_cols {sorts : List Int} {t : Table} (hc : t.columns.all (colOK sorts) = true) (h2 : (t.columns.length : Int) = 2) : (∃ x, idx t.columns 0 = some x) ∧ (∃ x, idx t.columns 1 = some x) ∧ ∃ x, idx sorts ((idx t.columns 0).getD default) = some x := by
 obtain ⟨x, hx⟩ := zbr (l := t.columns) (i := 0) (by omega) (by omega)
 obtain ⟨y, hy⟩ := zbr (l := t.columns) (i := 1) (by omega) (by omega)
 refine ⟨⟨x, hx⟩, ⟨y, hy⟩, ?_⟩
 rw [hx]
 exact ⟨_, idx_col (List.all_eq_true.1 hc x (idx_mem hx))⟩
theorem graph_1_eq {n : Nat} {j : Judge} {c : Constraint} {t : Table} (hc : t.columns.all (colOK j.model.sorts) = true) : zaO n t c j = some (graphT j.model.sorts c t) := by
 unfold zaO graphT
 by_cases h2 : (t.kind == 0 && ((t.columns.length : Int) == 2)) = true
 ·have h2' := h2
  simp only [Bool.and_eq_true, beq_iff_eq] at h2'
  obtain ⟨⟨x, hx⟩, ⟨y, hy⟩, z, hz⟩ := graph_cols hc h2'.2
  rw [hx] at hz
  simp only [Option.getD_some] at hz
  simp [h2, hx, hy, hz, grd, Bool.and_assoc]
 ·simp only [Bool.not_eq_true] at h2
  simp [h2, grd]
theorem model_graph_eq {n : Nat} {j : Judge} {c : Constraint} (hc : ∀ t ∈ j.model.tables, t.columns.all (colOK j.model.sorts) = true) (hl : j.model.tables.length < 1000000) (hn : 1000000 ≤ n) : za7 n j c = some (graphP j.model c) := by
 unfold za7 graphP
 rw [zcS (p := graphT j.model.sorts c) (fun t ht => graph_1_eq (hc t ht)) hl hn]
 simp [grd]
theorem EqualTerm_eq {n : Nat} {a b : List Term} (hl : a.length < 1000000) (hn : 1000000 ≤ n) : zD n a b = some (decide (a = b)) := by
 unfold zD
 by_cases h : a.length = b.length
 ·rw [if_neg (by simp [h])]
  have := zL (body := zD.l1 n a b) (len := a.length) (st := fun i => (i : Int)) (g := fun i => some (decide (a.drop i = b.drop i))) (fun rec i hi hr => ?_) (fun rec => ?_) n 0 (Nat.zero_le _) (by omega)
  ·simpa using this
  ·have hib : i < b.length := by omega
   simp only [zD.l1, zo hi, if_true, za hi, za hib, Option.bind_some, zd (show i < 4611686018427387904 by omega), hr]
   rw [zr hi, zr hib]
   by_cases e : a[i] = b[i]
   ·simp only [e, decide_true, Bool.not_true, Bool.false_eq_true, if_false, List.cons.injEq, true_and]
   ·simp only [e, decide_false, Bool.not_false, if_true, List.cons.injEq, false_and]
  ·simp [zD.l1, h]
 ·rw [if_pos (by simp; omega)]
  have : ¬ a = b := fun e => h (by rw [e])
  simp [this]
theorem single_eq {n : Nat} {r : Row} {c f b : Int} (hl : r.terms.length < 1000000) (hn : 1000000 ≤ n) : zcA n r c f b = some (decide (r = (⟨[⟨c, f⟩], b⟩ : Row))) := by
 unfold zcA
 rw [EqualTerm_eq hl hn, Option.bind_some]
 congr 1
 rw [Bool.eq_iff_iff]
 cases r
 simp
end Go.Proofs.YtcagdmegicijlaaGreatDoor
namespace Go.Proofs.YtcagdmegicijlaaGreatDoor
open Go Go.RowKit
structure SmallM (m : Model) : Prop where
 sorts : m.sorts.length ≤ 8
 tables : m.tables.length ≤ 6
 tab : ∀ t ∈ m.tables, t.name.length ≤ 40 ∧ t.columns.length ≤ 12
 families : m.families.length ≤ 20
 fam : ∀ s ∈ m.families, s.length ≤ 40
 constraints : m.constraints.length ≤ 60
 con : ∀ c ∈ m.constraints, c.row.terms.length ≤ 20
 operations : m.operations.length ≤ 8
 op : ∀ o ∈ m.operations, o.name.length ≤ 40 ∧ o.sorts.length ≤ 6
 actions : m.actions.length ≤ 30
 act : ∀ a ∈ m.actions, a.arguments.length ≤ 6 ∧ a.effect.delta.length ≤ 20 ∧ a.effect.hold.length ≤ 10 ∧ a.effect.updates.length ≤ 40 ∧ ∀ r ∈ a.effect.hold, r.terms.length ≤ 20
 hides : m.hides.length ≤ 12
def boundRow (l : List Range) (i : Nat) : Row := ⟨[⟨((i / 2 : Nat) : Int), if i % 2 = 0 then -1 else 1⟩], if i % 2 = 0 then neg64 ((idx l ((i / 2 : Nat) : Int)).getD default).lo else ((idx l ((i / 2 : Nat) : Int)).getD default).hi⟩
def famP (m : Model) (c : Constraint) : Bool := decide (0 ≤ c.family) && decide (c.family < (m.families.length : Int))
def plainP (K : Nat) (c : Constraint) : Bool := (((c.kind == 0) && (c.first == 0)) && (c.size == 0)) && rowOK K c.row
def acyP (m : Model) (c : Constraint) : Bool := c.kind == 1 && graphP m c
def conP (m : Model) (l : List Range) (i : Nat) (c : Constraint) : Bool := famP m c && (plainP l.length c || acyP m c) && (!decide (i / 2 < l.length) || (c.kind == 0 && decide (c.row = boundRow l i)))
def consP (m : Model) (l : List Range) : Bool := decide (m.constraints.length ≤ 512) && decide (2 * l.length ≤ m.constraints.length) && allR (fun i => conP m l i ((idx m.constraints (i : Int)).getD default)) 0 m.constraints.length
theorem quo2 {i : Nat} (h : i < 1000000) : quo64 (i : Int) 2 = some ((i / 2 : Nat) : Int) := by
 unfold quo64
 rw [if_neg (by decide), Int.tdiv_eq_ediv_of_nonneg (by omega), zbX (by omega) (by omega)]
 congr 1
theorem rem2 {i : Nat} : rem64 (i : Int) 2 = some ((i % 2 : Nat) : Int) := by
 unfold rem64
 rw [if_neg (by decide), Int.tmod_eq_emod_of_nonneg (by omega)]
 congr 1
theorem mul2 {i : Nat} (h : i < 1000000) : mul64 2 (i : Int) = ((2 * i : Nat) : Int) := by
 unfold mul64
 rw [zbX (by omega) (by omega)]; omega
theorem model_constraints_eq {n : Nat} {m : Model} {l : List Range} (hS : SmallM m) (hc : ∀ t ∈ m.tables, t.columns.all (colOK m.sorts) = true) (hK : l.length < 100000) (hn : 1000000 ≤ n) : zO n ⟨m, l⟩ = some (consP m l) := by
 have hcl := hS.constraints
 have htl := hS.tables
 unfold zO consP
 simp only [mul2 (show l.length < 1000000 by omega)]
 by_cases h0 : (decide (m.constraints.length ≤ 512) && decide (2 * l.length ≤ m.constraints.length)) = true
 ·rw [h0, Bool.true_and]
  simp only [Bool.and_eq_true, decide_eq_true_eq] at h0
  rw [if_neg (by simp; omega)]
  have := loopF_all (body := zO.l1 n ⟨m, l⟩) (len := m.constraints.length) (n := n) (st := fun i => (i : Int)) (fun i => conP m l i ((idx m.constraints (i : Int)).getD default)) (some false) (some true) (fun rec i hi => ?_) (fun rec => ?_) (by omega)
  ·simp only [Int.natCast_zero] at this
   rw [this]
   cases allR (fun i => conP m l i ((idx m.constraints (i : Int)).getD default)) 0 m.constraints.length <;> rfl
  ·have hterms := hS.con _ (List.getElem_mem hi)
   simp only [zO.l1, jn, zo hi, if_true, za hi, Option.bind_some, zW, Option.getD_some, model_row_eq (j := ⟨m, l⟩) (r := m.constraints[i].row) (show m.constraints[i].row.terms.length < 1000000 by omega) hn, model_graph_eq (j := ⟨m, l⟩) (c := m.constraints[i]) hc (show m.tables.length < 1000000 by omega) hn, Option.isSome_some, Bool.or_true, grd, quo2 (show i < 1000000 by omega), rem2, single_eq (r := m.constraints[i].row) (show m.constraints[i].row.terms.length < 1000000 by omega) hn, zd (show i < 4611686018427387904 by omega)]
   have hfam : (decide (0 ≤ m.constraints[i].family) && decide (m.constraints[i].family < (m.families.length : Int))) = famP m m.constraints[i] := rfl
   rw [hfam]
   cases hf : famP m m.constraints[i] with
   | false => simp [conP, hf]
   | true =>
    simp only [Bool.not_true, Bool.false_eq_true, if_false]
    have hrest : ∀ (X : Bool), X = (plainP l.length m.constraints[i] || acyP m m.constraints[i]) →
      (if X = true then (if decide (((i / 2 : Nat) : Int) < (l.length : Int)) = true then (idx l ((i / 2 : Nat) : Int)).bind fun x81 => (if (((i % 2 : Nat) : Int) == 0) = true then (if (m.constraints[i].kind != 0 || !decide (m.constraints[i].row = (⟨[⟨((i / 2 : Nat) : Int), -1⟩], neg64 x81.lo⟩ : Row))) = true then some false else rec ((i + 1 : Nat) : Int)) else (if (m.constraints[i].kind != 0 || !decide (m.constraints[i].row = (⟨[⟨((i / 2 : Nat) : Int), 1⟩], x81.hi⟩ : Row))) = true then some false else rec ((i + 1 : Nat) : Int))) else rec ((i + 1 : Nat) : Int)) else some false) = if conP m l i m.constraints[i] = true then rec ((i + 1 : Nat) : Int) else some false := by
     intro X hX
     unfold conP
     rw [hf, ← hX]
     cases X with
     | false => simp
     | true =>
      simp only [if_true, Bool.true_and]
      by_cases hlt : i / 2 < l.length
      ·rw [if_pos (lt_nat hlt), za hlt, Option.bind_some]
       simp only [hlt, decide_true, Bool.not_true, Bool.false_or, boundRow, za hlt, Option.getD_some]
       by_cases hm : i % 2 = 0
       ·rw [if_pos (by simp [hm])]
        simp only [hm, if_true]
        cases hkk : (m.constraints[i].kind == 0) <;> simp [bne, hkk]
       ·rw [if_neg (by simp; omega)]
        simp only [hm, if_false]
        cases hkk : (m.constraints[i].kind == 0) <;> simp [bne, hkk]
      ·rw [if_neg (by rw [ge_nat (by omega)]; simp)]
       simp [hlt]
    by_cases hk : m.constraints[i].kind = 0
    ·rw [if_pos (by simp [hk])]
     have hX : (plainP l.length m.constraints[i] || acyP m m.constraints[i]) = ((m.constraints[i].first == 0 && m.constraints[i].size == 0) && rowOK l.length m.constraints[i].row) := by
      simp [plainP, acyP, hk]
     rw [← hrest _ hX.symm]
     cases h1 : (m.constraints[i].first == 0) <;> cases h2 : (m.constraints[i].size == 0) <;> cases h3 : rowOK l.length m.constraints[i].row <;> simp [bne, h1, h2]
    ·rw [if_neg (by simp [hk])]
     have hX : (plainP l.length m.constraints[i] || acyP m m.constraints[i]) = (m.constraints[i].kind == 1 && graphP m m.constraints[i]) := by
      simp [plainP, acyP, hk]
     rw [← hrest _ hX.symm]
     cases h1 : (m.constraints[i].kind == 1) <;> cases h3 : graphP m m.constraints[i] <;> simp [bne, h1]
  ·simp [zO.l1]
 ·rw [if_pos (by
   simp only [Bool.and_eq_true, decide_eq_true_eq] at h0
   simp only [Bool.or_eq_true, decide_eq_true_eq]; omega)]
  simp only [Bool.not_eq_true] at h0
  rw [h0, Bool.false_and]
end Go.Proofs.YtcagdmegicijlaaGreatDoor
namespace Go.Proofs.YtcagdmegicijlaaGreatDoor
open Go Go.RowKit
theorem zaT {α S R : Type} {body : (S → Option R) → S → Option R} {l : List α} {n : Nat} {st : Nat → S} (p : α → Bool) (F T : Option R)
  (hb : ∀ rec i (hi : i < l.length), body rec (st i) = if p l[i] = true then rec (st (i + 1)) else F) (he : ∀ rec, body rec (st l.length) = T) (hn : l.length < n) : loopF body n (st 0) = if l.all p = true then T else F := by
 have := zL (body := body) (len := l.length) (st := st) (g := fun i => if (l.drop i).all p = true then T else F) (fun rec i hi hr => ?_) (fun rec => ?_) n 0 (Nat.zero_le _) (by omega)
 ·simpa using this
 ·rw [hb rec i hi, zr hi, List.all_cons, hr]
  cases p l[i] <;> simp
 ·rw [he]; simp
def sizeAt (sizes : List Int) (c : Int) : Int := sizes.getD c.toNat 0
def digR (sizes : List Int) : List Int → Int → List Int
 | [], _ => []
 | c :: l, k => k.tmod (sizeAt sizes c) :: digR sizes l (w64 (k.tdiv (sizeAt sizes c)))
def tupleP (sizes cols : List Int) (k : Int) : List Int := (digR sizes cols.reverse k).reverse
theorem sizeAt_ne {sizes : List Int} (hs : sizes.all zb1 = true) {c : Int} (hc : colOK sizes c = true) : 1 ≤ sizeAt sizes c ∧ sizeAt sizes c ≤ 6 := by
 simp only [colOK, Bool.and_eq_true, decide_eq_true_eq] at hc
 obtain ⟨k, rfl⟩ := Int.eq_ofNat_of_zero_le hc.1
 have hk : k < sizes.length := by omega
 have hz := List.all_eq_true.1 hs _ (List.getElem_mem hk)
 simp only [zb1, Bool.and_eq_true, decide_eq_true_eq] at hz
 have hg : sizeAt sizes (k : Int) = sizes[k] := by simp [sizeAt, List.getD, hk]
 rw [hg]; exact hz
theorem sto_mid {r : Nat} {done : List Int} {x : Int} : sto (List.replicate (r + 1) 0 ++ done) (r : Int) x = some (List.replicate r 0 ++ x :: done) := by
 unfold sto
 rw [if_pos (by simp; omega)]
 simp only [Int.toNat_natCast, Option.some.injEq]
 rw [List.replicate_succ', List.append_assoc, List.set_append_right _ _ (by simp)]
 simp
theorem idx_mid {r : Nat} {done : List Int} : ∃ x, idx (List.replicate (r + 1) 0 ++ done) (r : Int) = some x := ⟨_, za (by simp; omega)⟩
theorem take_rev {α : Type} {l : List α} {r : Nat} (h : r < l.length) : (l.take (r + 1)).reverse = l[r] :: (l.take r).reverse := by
 rw [List.take_succ_eq_append_getElem h]; simp
theorem cells_digits {n : Nat} {sizes : List Int} {t : Table} {i : Int} (hs : sizes.all zb1 = true) (hc : t.columns.all (colOK sizes) = true) (hl : t.columns.length < 1000000) : ∀ (m r : Nat) (done : List Int) (k : Int), r < m → r ≤ t.columns.length →
  loopF (zaE.l2 n sizes i t) m (List.replicate r 0 ++ done, k, (r : Int) - 1) = some (i, (digR sizes (t.columns.take r).reverse k).reverse ++ done, true)
 | 0, _, _, _, h, _ => by omega
 | m + 1, 0, done, k, _, _ => by simp [loopF, zaE.l2, digR]
 | m + 1, r + 1, done, k, h, hr => by
  have hrl : r < t.columns.length := by omega
  have hcol := List.all_eq_true.1 hc _ (List.getElem_mem hrl)
  have hsz := sizeAt_ne hs hcol
  have e : (((r + 1 : Nat) : Int)) - 1 = (r : Int) := by omega
  obtain ⟨x, hx⟩ := idx_mid (r := r) (done := done)
  have hrem : rem64 k (sizeAt sizes t.columns[r]) = some (k.tmod (sizeAt sizes t.columns[r])) := by unfold rem64; rw [if_neg (by omega)]
  have hquo : quo64 k (sizeAt sizes t.columns[r]) = some (w64 (k.tdiv (sizeAt sizes t.columns[r]))) := by unfold quo64; rw [if_neg (by omega)]
  have hcs := idx_col hcol
  have hsub : sub64 (r : Int) 1 = (r : Int) - 1 := by unfold sub64; rw [zbX (by omega) (by omega)]
  have hd : decide (0 ≤ (r : Int)) = true := by simp
  unfold sizeAt at hrem hquo
  simp only [loopF, zaE.l2, e, hd, if_true, za hrl, hcs, hrem, hquo, hx, sto_mid, Option.bind_some, hsub]
  rw [cells_digits hs hc hl m r _ _ (by omega) (by omega), take_rev hrl]
  simp only [digR, sizeAt, List.reverse_cons, List.append_assoc, List.singleton_append]
theorem mkl_0 {b k : Nat} (h : k * b ≤ 140737488355328) : mkl b (k : Int) (0 : Int) = some (List.replicate k 0) := by
 have e : ((k * b : Nat) : Int) = (k : Int) * (b : Int) := Int.natCast_mul k b
 unfold mkl; rw [if_pos ⟨by omega, by omega⟩]; simp
theorem sub64_len {k : Nat} (h : k < 1000000) : sub64 (k : Int) 1 = (k : Int) - 1 := by
 unfold sub64; rw [zbX (by omega) (by omega)]
def hitP (sizes : List Int) (s : Bool) (cell : Int) (t : Table) : Bool := (zbA t.kind == s) && (decide (0 ≤ sub64 cell t.first) && decide (sub64 cell t.first < z0 sizes t.columns 1))
def resT (sizes : List Int) (s : Bool) (cell : Int) : List Table → Nat → Int × List Int × Bool
 | [], _ => (0, [], false)
 | t :: l, i => if hitP sizes s cell t = true then ((i : Int), tupleP sizes t.columns (sub64 cell t.first), true) else resT sizes s cell l (i + 1)
def cellP (sizes : List Int) (tables : List Table) (s : Bool) (cell : Int) : Int × List Int × Bool := if (zbC sizes tables && decide (0 ≤ cell)) = true then resT sizes s cell tables 0 else (0, [], false)
theorem cells_Tuple_eq {n : Nat} {sizes : List Int} {tables : List Table} {s : Bool} {cell : Int} (hF : Fuel n) (hs : sizes.length ≤ 1000) (ht : tables.length ≤ 1000) (hc : ∀ t ∈ tables, t.columns.length ≤ 1000) : zaE n sizes tables s cell = some (cellP sizes tables s cell) := by
 have hn := hF.big
 unfold zaE cellP
 rw [cells_Valid_eq hF hs ht hc, Option.bind_some]
 cases hL : zbC sizes tables with
 | false => simp
 | true =>
  obtain ⟨l1, l2, l3, l4⟩ := zbQ hL
  by_cases h0 : 0 ≤ cell
  ·rw [if_neg (by simp; omega), if_pos (by simp [h0])]
   have := zL (body := zaE.l1 n sizes tables s cell) (len := tables.length) (st := fun i => (i : Int)) (g := fun i => some (resT sizes s cell (tables.drop i) i)) (fun rec i hi hr => ?_) (fun rec => ?_) n 0 (Nat.zero_le _) (by omega)
   ·simpa using this
   ·obtain ⟨-, -, c1, c2, c3, c4⟩ := l4 _ (List.getElem_mem hi)
    simp only [zaE.l1, zo hi, if_true, za hi, Option.bind_some, zbt, cells_width_eq c2 (show tables[i].columns.length < 4611686018427387904 by omega) (show tables[i].columns.length < n by omega), Option.isSome_some, Bool.or_true, grd, Option.getD_some, zd (show i < 4611686018427387904 by omega), hr, mkl_0 (b := 8) (k := tables[i].columns.length) (by omega), List.length_replicate, sub64_len (show tables[i].columns.length < 1000000 by omega)]
    have hdig := cells_digits (n := n) (i := (i : Int)) l3 c2 (by omega) n tables[i].columns.length [] (sub64 cell tables[i].first) (by omega) (Nat.le_refl _)
    simp only [List.append_nil, List.take_length] at hdig
    rw [hdig, zr hi, resT]
    have hh : (((tables[i].kind == 0 || tables[i].kind == 1) != s || decide (sub64 cell tables[i].first < 0)) || decide (z0 sizes tables[i].columns 1 ≤ sub64 cell tables[i].first)) = !hitP sizes s cell tables[i] := by
     unfold hitP zbA
     rw [Bool.not_and, Bool.not_and, ← decide_not, ← decide_not, Bool.or_assoc]
     congr 1
     congr 1
     ·exact decide_eq_decide.2 (by omega)
     ·exact decide_eq_decide.2 (by omega)
    rw [hh]
    cases hitP sizes s cell tables[i] <;> simp [tupleP]
   ·simp [zaE.l1, resT]
  ·rw [if_pos (by simp; omega), if_neg (by simp; omega)]
theorem resT_lt {sizes : List Int} {s : Bool} {cell : Int} : ∀ (l : List Table) (i : Nat), (resT sizes s cell l i).2.2 = true → ∃ k : Nat, (resT sizes s cell l i).1 = (k : Int) ∧ i ≤ k ∧ k < i + l.length
 | [], _, h => by simp [resT] at h
 | t :: l, i, h => by
  rw [resT] at h ⊢
  split at h
  ·rename_i hh
   rw [if_pos hh]
   exact ⟨i, rfl, Nat.le_refl _, by simp⟩
  ·rename_i hh
   rw [if_neg hh]
   obtain ⟨k, e, k1, k2⟩ := resT_lt l (i + 1) h
   exact ⟨k, e, by omega, by simp only [List.length_cons]; omega⟩
theorem cellP_idx {sizes : List Int} {tables : List Table} {s : Bool} {cell : Int} (h : (cellP sizes tables s cell).2.2 = true) : ∃ t, idx tables (cellP sizes tables s cell).1 = some t := by
 unfold cellP at h ⊢
 split at h
 ·rename_i hh
  rw [if_pos hh]
  obtain ⟨k, e, -, k2⟩ := resT_lt tables 0 h
  rw [e]
  exact ⟨_, za (by omega)⟩
 ·simp at h
def updT (t : Table) (u : Update) : Bool := if (t.kind == 2 || t.kind == 3) = true then ((u.kind == 0) || (u.kind == 1)) && (u.value == 0) else ((u.kind == 2) && decide (t.range.lo ≤ u.value)) && decide (u.value ≤ t.range.hi)
def updP (m : Model) (u : Update) : Bool := (cellP m.sorts m.tables false u.cell).2.2 && updT ((idx m.tables (cellP m.sorts m.tables false u.cell).1).getD default) u
def updsP (m : Model) : Int → List Update → Bool
 | _, [] => true
 | last, u :: l => (decide (last < u.cell) && updP m u) && updsP m u.cell l
theorem model_update_eq {n : Nat} {m : Model} {l : List Range} {u : Update} (hF : Fuel n) (hS : SmallM m) : za1 n ⟨m, l⟩ u = some (updP m u) := by
 unfold za1 updP
 have hs := hS.sorts
 have ht := hS.tables
 simp only []
 rw [cells_Tuple_eq hF (by omega) (by omega) (fun t h => by have := hS.tab t h; omega), Option.bind_some]
 cases hok : (cellP m.sorts m.tables false u.cell).2.2 with
 | false => simp
 | true =>
  obtain ⟨t, ht⟩ := cellP_idx hok
  simp only [ht, Bool.not_true, Bool.false_eq_true, if_false, Option.bind_some, Option.getD_some, Bool.true_and, jn, updT]
  by_cases h2 : t.kind = 2
  ·simp [h2]
  ·by_cases h3 : t.kind = 3
   ·simp [h3]
   ·simp [h2, h3]
def opP (m : Model) (o : Operation) : Bool := decide (o.sorts.length ≤ 3) && o.sorts.all fun s => decide (-1 ≤ s) && decide (s < (m.sorts.length : Int))
def opsP (m : Model) : Bool := m.operations.all (opP m) && (decide (m.operations.length ≤ 8) && distP [] (m.operations.map (·.name)))
theorem map_take_snoc {α β : Type} {f : α → β} {l : List α} {i : Nat} (hi : i < l.length) : (l.take i).map f ++ [f l[i]] = (l.take (i + 1)).map f := by
 rw [List.take_succ_eq_append_getElem hi, List.map_append]; rfl
theorem model_operations_eq {n : Nat} {m : Model} {l : List Range} (hF : Fuel n) (hS : SmallM m) : zu n ⟨m, l⟩ = some (opsP m) := by
 have hn := hF.big
 have hol := hS.operations
 unfold zu opsP
 have := zaT (body := zu.l1 n ⟨m, l⟩) (l := m.operations) (n := n) (st := fun i => ((m.operations.take i).map (·.name), (i : Int))) (opP m) (some false) (some (decide (m.operations.length ≤ 8) && distP [] (m.operations.map (·.name)))) (fun rec i hi => ?_) (fun rec => ?_) (by omega)
 ·simp only [List.take_zero, List.map_nil, Int.natCast_zero] at this
  rw [this]
  cases m.operations.all (opP m) <;> rfl
 ·have hop := hS.op _ (List.getElem_mem hi)
  simp only [zu.l1, zo hi, if_true, za hi, Option.bind_some]
  rw [zJ (by simp; omega), Option.bind_some, zbz (p := fun s => !(decide (-1 ≤ s) && decide (s < (m.sorts.length : Int)))) (fun x _ => by
   simp only [zaB, Option.some.injEq, Bool.not_and, ← decide_not]
   congr 1
   ·exact decide_eq_decide.2 (by omega)
   ·exact decide_eq_decide.2 (by omega)) (by omega) (by omega)]
  simp only [Option.isSome_some, Bool.or_true, grd, if_true, Option.getD_some, zd (show i < 4611686018427387904 by omega), map_take_snoc hi]
  have h3 : decide (3 < (m.operations[i].sorts.length : Int)) = !decide (m.operations[i].sorts.length ≤ 3) := by rw [← decide_not]; exact decide_eq_decide.2 (by omega)
  rw [h3, ← Bool.not_not (m.operations[i].sorts.any _), any_not, ← Bool.not_and]
  unfold opP
  cases (decide (m.operations[i].sorts.length ≤ 3) && m.operations[i].sorts.all fun s => decide (-1 ≤ s) && decide (s < (m.sorts.length : Int))) <;> rfl
 ·simp only [zu.l1, zaN, Bool.false_eq_true, if_false, List.take_length]
  rw [model_distinct_eq hF (by simp; omega)]
  simp only [Option.isSome_some, Bool.or_true, grd, if_true, Option.getD_some, List.length_map, Option.some.injEq]
  congr 1
  exact decide_eq_decide.2 (by omega)
end Go.Proofs.YtcagdmegicijlaaGreatDoor
namespace Go.Proofs.YtcagdmegicijlaaGreatDoor
open Go Go.RowKit
def deltaP (K : Nat) : Int → List Change → Bool
 | _, [] => true
 | last, d :: l => (decide (last < d.cell) && decide (d.cell < (K : Int)) && (d.add != 0) && zaM d.add 1000000000) && deltaP K d.cell l
def effP (m : Model) (K : Nat) (x : Effect) : Bool := deltaP K (-1) x.delta && (updsP m (-1) x.updates && (decide (x.hold.length ≤ 8) && decide (x.updates.length ≤ 32) && x.hold.all (rowOK K)))
theorem model_effect_eq {n : Nat} {m : Model} {l : List Range} {x : Effect} (hF : Fuel n) (hS : SmallM m) (h1 : x.delta.length ≤ 1000) (h2 : x.updates.length ≤ 1000) (h3 : x.hold.length ≤ 1000) (h4 : ∀ r ∈ x.hold, r.terms.length ≤ 1000) : zC n ⟨m, l⟩ x = some (effP m l.length x) := by
 have hn := hF.big
 have T : loopF (zC.l2 n ⟨m, l⟩ x) n (-1, 0) = some (updsP m (-1) x.updates && (decide (x.hold.length ≤ 8) && decide (x.updates.length ≤ 32) && x.hold.all (rowOK l.length))) := by
  have := zco (body := zC.l2 n ⟨m, l⟩ x) (len := x.updates.length) (st := fun (s : Int) i => (s, (i : Int))) (g := fun i s => some (updsP m s (x.updates.drop i) && (decide (x.hold.length ≤ 8) && decide (x.updates.length ≤ 32) && x.hold.all (rowOK l.length)))) (fun _ _ => True) (fun rec i s hi _ hr => ?_) (fun rec s _ => ?_) n 0 (-1) (Nat.zero_le _) (by omega) trivial
  ·simpa using this
  ·simp only [zC.l2, zo hi, if_true, za hi, Option.bind_some, model_update_eq hF hS, Option.isSome_some, Bool.or_true, grd, Option.getD_some, zd (show i < 4611686018427387904 by omega), hr x.updates[i].cell trivial]
   rw [zr hi, updsP]
   by_cases hlt : s < x.updates[i].cell
   ·have hd : decide (x.updates[i].cell ≤ s) = false := by simp; omega
    rw [hd]
    cases updP m x.updates[i] <;> simp [hlt]
   ·have hd : decide (x.updates[i].cell ≤ s) = true := by simp; omega
    rw [hd]; simp [hlt]
  ·have hc : zh n x.hold (fun q0 => zaI n q0 ⟨m, l⟩) = some (x.hold.any fun r => !rowOK l.length r) := zbW (fun r hr => by
    unfold zaI
    rw [model_row_eq (by have := h4 r hr; omega) (by omega)]; rfl) (by omega) (by omega)
   simp only [zC.l2, zaN, Bool.false_eq_true, if_false, hc, Option.isSome_some, Bool.or_true, grd, if_true, Option.getD_some, any_not, List.drop_length, updsP, Bool.true_and, Option.some.injEq]
   congr 2
   ·exact decide_eq_decide.2 (by omega)
   ·exact decide_eq_decide.2 (by omega)
 have := zco (body := zC.l1 n ⟨m, l⟩ x) (len := x.delta.length) (st := fun (s : Int) i => (s, (i : Int))) (g := fun i s => some (deltaP l.length s (x.delta.drop i) && (updsP m (-1) x.updates && (decide (x.hold.length ≤ 8) && decide (x.updates.length ≤ 32) && x.hold.all (rowOK l.length))))) (fun _ _ => True) (fun rec i s hi _ hr => ?_) (fun rec s _ => ?_) n 0 (-1) (Nat.zero_le _) (by omega) trivial
 ·simpa [zC, effP] using this
 ·simp only [zC.l1, zo hi, if_true, za hi, Option.bind_some, around9, Option.isSome_some, Bool.or_true, grd, Option.getD_some, zd (show i < 4611686018427387904 by omega), hr x.delta[i].cell trivial]
  rw [zr hi, deltaP]
  by_cases h : (decide (s < x.delta[i].cell) && decide (x.delta[i].cell < (l.length : Int)) && (x.delta[i].add != 0) && zaM x.delta[i].add 1000000000) = true
  ·rw [h, Bool.true_and]
   simp only [Bool.and_eq_true, decide_eq_true_eq, bne_iff_ne] at h
   rw [if_neg (by simp [h.2, h.1.2]; omega)]
  ·rw [if_pos (by
    simp only [Bool.and_eq_true, decide_eq_true_eq, bne_iff_ne, ne_eq] at h
    simp only [Bool.or_eq_true, decide_eq_true_eq, beq_iff_eq, Bool.not_eq_true', ← Bool.not_eq_true]
    by_cases ha : zaM x.delta[i].add 1000000000 = true
    ·left; simp only [ha, and_true] at h; omega
    ·exact .inr ha)]
   simp only [Bool.not_eq_true] at h
   rw [h]; rfl
 ·simp only [zC.l1, zaN, Bool.false_eq_true, if_false, T, List.drop_length, deltaP, Bool.true_and]
def cmpP : List Int → List Int → Int
 | [], [] => 0
 | [], _ :: _ => -1
 | _ :: _, [] => 1
 | x :: l, y :: k => if x < y then -1 else if y < x then 1 else cmpP l k
def lessP : List Int → List Int → Bool
 | [], [] => false
 | [], _ :: _ => true
 | _ :: _, [] => false
 | x :: l, y :: k => if x = y then lessP l k else decide (x < y)
theorem cmp_less : ∀ a b : List Int, decide (0 ≤ cmpP a b) = !lessP a b
 | [], [] => rfl
 | [], _ :: _ => rfl
 | _ :: _, [] => rfl
 | x :: l, y :: k => by
  simp only [cmpP, lessP]
  by_cases h : x = y
  ·subst h; simp [cmp_less l k]
  ·by_cases h2 : x < y
   ·simp [h, h2]
   ·have : y < x := by omega
    simp [h, h2, this]
theorem Compare_eq {n : Nat} {a b : List Int} (hl : a.length < 1000000) (hn : 1000000 ≤ n) : zf n a b = some (cmpP a b) := by
 have := zL (body := zf.l1 n a b) (len := a.length) (st := fun i => (i : Int)) (g := fun i => some (cmpP (a.drop i) (b.drop i))) (fun rec i hi hr => ?_) (fun rec => ?_) n 0 (Nat.zero_le _) (by omega)
 ·simpa [zf] using this
 ·simp only [zf.l1, zo hi, if_true, za hi, Option.bind_some, zd (show i < 4611686018427387904 by omega), hr]
  rw [zr hi]
  by_cases hb : i < b.length
  ·rw [if_neg (by simp; omega), za hb, zr hb]
   simp only [Option.bind_some, zbH, zcP, bne_self_eq_false, Bool.false_eq_true, if_false, cmpP, decide_eq_true_eq]
   by_cases h1 : a[i] < b[i]
   ·simp [h1]
   ·by_cases h2 : b[i] < a[i]
    ·simp [h1, h2]
    ·simp [h1, h2]
  ·rw [if_pos (by simp; omega), show b.drop i = [] from List.drop_eq_nil_of_le (by omega)]
   rfl
 ·simp only [zf.l1, zaN, Bool.false_eq_true, if_false, List.drop_length]
  by_cases hb : a.length < b.length
  ·rw [if_pos (by simpa using hb), zr hb]; rfl
  ·rw [if_neg (by simpa using hb), List.drop_eq_nil_of_le (by omega)]; rfl
def argP (m : Model) (s x : Int) : Bool := (!decide (s < 0) || zaM x 9999) && (!decide (0 ≤ s) || (decide (0 ≤ x) && decide (x < (idx m.sorts s).getD default)))
def argsP (m : Model) : List Int → List Int → Bool
 | s :: l, x :: k => argP m s x && argsP m l k
 | _, _ => true
def opAt (m : Model) (a : Action) : Operation := (idx m.operations a.operation).getD default
def ordP (b a : Action) : Bool := !decide (a.operation < b.operation) && (!(b.operation == a.operation) || lessP b.arguments a.arguments)
def actP (m : Model) (K : Nat) (i : Nat) (a : Action) : Bool :=
 (decide (0 ≤ a.operation) && decide (a.operation < (m.operations.length : Int))) && (a.arguments.length == (opAt m a).sorts.length) && argsP m (opAt m a).sorts a.arguments && (decide (i = 0) || ordP ((idx m.actions ((i - 1 : Nat) : Int)).getD default) a) && effP m K a.effect
def actsP (m : Model) (K : Nat) : Bool := decide (m.actions.length ≤ 256) && allR (fun i => actP m K i ((idx m.actions (i : Int)).getD default)) 0 m.actions.length
end Go.Proofs.YtcagdmegicijlaaGreatDoor
namespace Go.Proofs.YtcagdmegicijlaaGreatDoor
open Go Go.RowKit
theorem argsP_drop {m : Model} {s x : List Int} {k : Nat} (h1 : k < s.length) (h2 : k < x.length) : argsP m (s.drop k) (x.drop k) = (argP m s[k] x[k] && argsP m (s.drop (k + 1)) (x.drop (k + 1))) := by
 rw [zr h1, zr h2]; rfl
theorem opAt_idx {m : Model} {a : Action} (h : (decide (0 ≤ a.operation) && decide (a.operation < (m.operations.length : Int))) = true) : idx m.operations a.operation = some (opAt m a) ∧ opAt m a ∈ m.operations := by
 simp only [Bool.and_eq_true, decide_eq_true_eq] at h
 obtain ⟨o, ho⟩ := zbr h.1 h.2
 refine ⟨by rw [ho, opAt, ho]; rfl, ?_⟩
 rw [opAt, ho]; exact idx_mem ho
theorem opsP_sorts {m : Model} (h : opsP m = true) : ∀ o ∈ m.operations, o.sorts.length ≤ 3 ∧ ∀ s ∈ o.sorts, -1 ≤ s ∧ s < (m.sorts.length : Int) := by
 simp only [opsP, Bool.and_eq_true, List.all_eq_true] at h
 intro o ho
 have := h.1 o ho
 simp only [opP, Bool.and_eq_true, decide_eq_true_eq, List.all_eq_true] at this
 exact this
theorem ord_model {b a : Action} : ((decide (a.operation < b.operation)) || ((b.operation == a.operation) && (decide (0 ≤ cmpP b.arguments a.arguments)))) = !ordP b a := by
 rw [cmp_less]
 unfold ordP
 cases decide (a.operation < b.operation) <;> cases (b.operation == a.operation) <;> cases lessP b.arguments a.arguments <;> rfl
theorem model_actions_eq {n : Nat} {m : Model} {l : List Range} (hF : Fuel n) (hS : SmallM m) (hO : opsP m = true) : zp n ⟨m, l⟩ = some (actsP m l.length) := by
 have hn := hF.big
 have hal := hS.actions
 unfold zp actsP
 by_cases h0 : m.actions.length ≤ 256
 ·rw [if_neg (by simp; omega), decide_eq_true h0, Bool.true_and]
  have := loopF_all (body := zp.l1 n ⟨m, l⟩) (len := m.actions.length) (n := n) (st := fun i => (i : Int)) (fun i => actP m l.length i ((idx m.actions (i : Int)).getD default)) (some false) (some true) (fun rec i hi => ?_) (fun rec => ?_) (by omega)
  ·simp only [Int.natCast_zero] at this
   rw [this]
   cases allR (fun i => actP m l.length i ((idx m.actions (i : Int)).getD default)) 0 m.actions.length <;> rfl
  ·have hmem := List.getElem_mem hi
   obtain ⟨a1, a2, a3, a4, a5⟩ := hS.act _ hmem
   simp only [zp.l1, zo hi, if_true, za hi, Option.bind_some, zW, Option.getD_some]
   unfold actP
   cases hop : (decide (0 ≤ m.actions[i].operation) && decide (m.actions[i].operation < (m.operations.length : Int))) with
   | false => simp [grd]
   | true =>
    obtain ⟨ho, hom⟩ := opAt_idx hop
    obtain ⟨o1, o2⟩ := opsP_sorts hO _ hom
    simp only [ho, Option.isSome_some, Bool.or_true, grd, if_true, Option.getD_some, Bool.not_true, Bool.false_or, Bool.true_and, Option.bind_some]
    by_cases hlen : m.actions[i].arguments.length = (opAt m m.actions[i]).sorts.length
    ·rw [if_neg (by simp [hlen])]
     have hle : (m.actions[i].arguments.length == (opAt m m.actions[i]).sorts.length) = true := by simp [hlen]
     rw [hle, Bool.true_and]
     have inner := zL (body := zp.l2 n ⟨m, l⟩ i rec m.actions[i] (opAt m m.actions[i])) (len := (opAt m m.actions[i]).sorts.length) (st := fun k => (k : Int)) (g := fun k => if argsP m ((opAt m m.actions[i]).sorts.drop k) (m.actions[i].arguments.drop k) = true then (if ((decide (i = 0) || ordP ((idx m.actions ((i - 1 : Nat) : Int)).getD default) m.actions[i]) && effP m l.length m.actions[i].effect) = true then rec ((i + 1 : Nat) : Int) else some false) else some false) (fun rec' k hk hr' => ?_) (fun rec' => ?_) n 0 (Nat.zero_le _) (by omega)
     ·simp only [Int.natCast_zero, List.drop_zero] at inner
      rw [inner]
      cases argsP m (opAt m m.actions[i]).sorts m.actions[i].arguments <;> simp
     ·have hk2 : k < m.actions[i].arguments.length := by omega
      have hs2 := o2 _ (List.getElem_mem hk)
      simp only [zp.l2, zo hk, if_true, za hk, za hk2, Option.bind_some, around4, Option.isSome_some, Bool.or_true, grd, Option.getD_some, zd (show k < 4611686018427387904 by omega), hr', zW]
      rw [argsP_drop hk hk2]
      unfold argP
      by_cases hneg : (opAt m m.actions[i]).sorts[k] < 0
      ·have hd1 : decide ((opAt m m.actions[i]).sorts[k] < 0) = true := by simp [hneg]
       have hd2 : decide (0 ≤ (opAt m m.actions[i]).sorts[k]) = false := by simp; omega
       rw [hd1, hd2]
       cases zaM m.actions[i].arguments[k] 9999 <;> simp
      ·have hd1 : decide ((opAt m m.actions[i]).sorts[k] < 0) = false := by simp; omega
       have hd2 : decide (0 ≤ (opAt m m.actions[i]).sorts[k]) = true := by simp; omega
       obtain ⟨z, hz⟩ := zbr (l := m.sorts) (i := (opAt m m.actions[i]).sorts[k]) (by omega) hs2.2
       rw [hz, hd1, hd2]
       by_cases h1 : 0 ≤ m.actions[i].arguments[k]
       ·by_cases h2 : m.actions[i].arguments[k] < z
        ·have h2' : ¬ z ≤ m.actions[i].arguments[k] := by omega
         simp [h1, h2, h2']
        ·have h2' : z ≤ m.actions[i].arguments[k] := by omega
         simp [h1, h2, h2']
       ·simp [h1]
     ·simp only [zp.l2, zaN, Bool.false_eq_true, if_false, jn, List.drop_length]
      rw [model_effect_eq hF hS (by omega) (by omega) (by omega) (fun r hr => by have := a5 r hr; omega)]
      simp only [Option.bind_some, zd (show i < 4611686018427387904 by omega)]
      have hargs : argsP m [] (m.actions[i].arguments.drop (opAt m m.actions[i]).sorts.length) = true := rfl
      rw [hargs, if_pos rfl]
      by_cases h0i : i = 0
      ·subst h0i
       rw [if_neg (by simp)]
       cases effP m l.length m.actions[0].effect <;> simp
      ·rw [if_pos (by simp; omega), sub64_1 (by omega) (by omega)]
       have hi1 : i - 1 < m.actions.length := by omega
       have b1 := (hS.act _ (List.getElem_mem hi1)).1
       simp only [za hi1, Option.bind_some, ord_model, Option.getD_some, Compare_eq (a := m.actions[i - 1].arguments) (b := m.actions[i].arguments) (show m.actions[i - 1].arguments.length < 1000000 by omega) (show 1000000 ≤ n by omega), Option.isSome_some, Bool.or_true, if_true, h0i, decide_false, Bool.false_or]
       cases ordP m.actions[i - 1] m.actions[i] <;> cases effP m l.length m.actions[i].effect <;> simp [grd]
    ·rw [if_pos (by simp; omega)]
     have hle : (m.actions[i].arguments.length == (opAt m m.actions[i]).sorts.length) = false := by simp [hlen]
     rw [hle]; simp
  ·simp [zp.l1]
 ·rw [if_pos (by simp; omega), decide_eq_false h0, Bool.false_and]
end Go.Proofs.YtcagdmegicijlaaGreatDoor
namespace Go.Proofs.YtcagdmegicijlaaGreatDoor
open Go Go.RowKit
def za2 (hs : List Hide) : Nat → Int → Int → Bool
 | 0, a, b => a == b
 | k + 1, a, b => a == b || hs.any fun h => h.table == a && za2 hs k h.to b
def hideP (m : Model) (h : Hide) : Bool :=
 (((decide (0 ≤ h.table) && decide (h.table < (m.tables.length : Int))) && (decide (0 ≤ h.to) && decide (h.to < (m.tables.length : Int)))) && (h.table != h.to)) &&
 (((((idx m.tables h.table).getD default).kind == 0) && (((idx m.tables h.to).getD default).kind == 0)) && ((decide (0 ≤ h.column) && decide (h.column < (((idx m.tables h.table).getD default).columns.length : Int))) && (((((idx m.tables h.to).getD default).columns.length : Int) == 1) && ((idx ((idx m.tables h.to).getD default).columns 0).getD default == (idx ((idx m.tables h.table).getD default).columns h.column).getD default))))
def hidesP (m : Model) : Bool := decide (m.hides.length ≤ 12) && (m.hides.all (hideP m) && m.hides.all fun h => !za2 m.hides m.tables.length h.to h.table)
theorem hide_idx {m : Model} {h : Hide} (h0 : 0 ≤ h.table ∧ h.table < (m.tables.length : Int)) (h1 : 0 ≤ h.to ∧ h.to < (m.tables.length : Int)) : ∃ t u, idx m.tables h.table = some t ∧ idx m.tables h.to = some u := by
 obtain ⟨t, ht⟩ := zbr h0.1 h0.2
 obtain ⟨u, hu⟩ := zbr h1.1 h1.2
 exact ⟨t, u, ht, hu⟩
end Go.Proofs.YtcagdmegicijlaaGreatDoor
namespace Go.Proofs.YtcagdmegicijlaaGreatDoor
open Go Go.RowKit
theorem nodup_len : ∀ (T : Nat) (l : List Int), l.Nodup → (∀ x ∈ l, 0 ≤ x ∧ x < (T : Int)) → l.length ≤ T
 | 0, l, _, h => by
  cases l with
  | nil => simp
  | cons x l => have := h x (by simp); omega
 | T + 1, l, hn, h => by
  by_cases hm : (T : Int) ∈ l
  ·have h1 := nodup_len T (l.erase (T : Int)) (hn.erase _) (fun x hx => by
    have := (hn.mem_erase_iff).1 hx
    have := h x this.2
    omega)
   rw [List.length_erase_of_mem hm] at h1
   omega
  ·have := nodup_len T l hn (fun x hx => by
    have := h x hx
    have : x ≠ (T : Int) := fun e => hm (e ▸ hx)
    omega)
   omega
theorem leadsP_mono {hs : List Hide} : ∀ {k : Nat} {a b : Int}, za2 hs k a b = true → za2 hs (k + 1) a b = true
 | 0, a, b, h => by
  simp only [za2] at h
  simp only [za2, h, Bool.true_or]
 | k + 1, a, b, h => by
  rw [za2] at h ⊢
  simp only [Bool.or_eq_true, List.any_eq_true, Bool.and_eq_true] at h ⊢
  rcases h with h | ⟨x, hx, h1, h2⟩
  ·exact .inl h
  ·exact .inr ⟨x, hx, h1, leadsP_mono h2⟩
theorem leadsP_le {hs : List Hide} {k j : Nat} {a b : Int} (h : za2 hs k a b = true) (hkj : k ≤ j) : za2 hs j a b = true := by
 obtain ⟨d, rfl⟩ := Nat.exists_eq_add_of_le hkj
 clear hkj
 induction d with
 | zero => exact h
 | succ d ih => exact leadsP_mono ih
theorem leadsP_refl {hs : List Hide} {k : Nat} {a : Int} : za2 hs k a a = true := by cases k <;> simp [za2]
theorem leadsP_snoc {hs : List Hide} {h : Hide} (hh : h ∈ hs) : ∀ {k : Nat} {a : Int}, za2 hs k a h.table = true → za2 hs (k + 1) a h.to = true
 | 0, a, e => by
  simp only [za2, beq_iff_eq] at e
  simp only [za2, Bool.or_eq_true, List.any_eq_true, Bool.and_eq_true, beq_iff_eq]
  exact .inr ⟨h, hh, e.symm, rfl⟩
 | k + 1, a, e => by
  rw [za2] at e ⊢
  simp only [Bool.or_eq_true, List.any_eq_true, Bool.and_eq_true, beq_iff_eq] at e ⊢
  rcases e with e | ⟨x, hx, h1, h2⟩
  ·exact .inr ⟨h, hh, e.symm, leadsP_refl⟩
  ·exact .inr ⟨x, hx, h1, leadsP_snoc hh h2⟩
def walkP (f : Int → Hide) (s : Int) : Nat → Int
 | 0 => s
 | k + 1 => (f (walkP f s k)).to
theorem sink_ex {hs : List Hide} {T : Nat} {S : List Int} (hS : S ≠ []) (hb : ∀ t ∈ S, 0 ≤ t ∧ t < (T : Int)) (hac : ∀ h ∈ hs, za2 hs T h.to h.table = false) : ∃ t ∈ S, ∀ h ∈ hs, ¬ (h.table = t ∧ h.to ∈ S) := by
 apply Classical.byContradiction
 intro hno
 have hedge : ∀ t, t ∈ S → ∃ h, h ∈ hs ∧ h.table = t ∧ h.to ∈ S := fun t ht => by
  apply Classical.byContradiction
  intro hn
  exact hno ⟨t, ht, fun h hh he => hn ⟨h, hh, he.1, he.2⟩⟩
 obtain ⟨s, hs0⟩ : ∃ s, s ∈ S := by
  cases S with
  | nil => exact absurd rfl hS
  | cons x l => exact ⟨x, by simp⟩
 obtain ⟨f, hf⟩ : ∃ f : Int → Hide, ∀ t, t ∈ S → f t ∈ hs ∧ (f t).table = t ∧ (f t).to ∈ S := by
  refine ⟨fun t => if ht : t ∈ S then Classical.choose (hedge t ht) else default, fun t ht => ?_⟩
  simp only [ht, dite_true]
  exact Classical.choose_spec (hedge t ht)
 have hw : ∀ k, walkP f s k ∈ S := fun k => by
  induction k with
  | zero => exact hs0
  | succ k ih => exact (hf _ ih).2.2
 have hlead : ∀ d i, za2 hs d (walkP f s i) (walkP f s (i + d)) = true := fun d => by
  induction d with
  | zero => intro i; exact leadsP_refl
  | succ d ih =>
   intro i
   simp only [za2, Bool.or_eq_true, List.any_eq_true, Bool.and_eq_true, beq_iff_eq]
   refine .inr ⟨f (walkP f s i), (hf _ (hw i)).1, (hf _ (hw i)).2.1, ?_⟩
   have := ih (i + 1)
   rw [show i + 1 + d = i + (d + 1) by omega] at this
   exact this
 have hne : ∀ i j, i < j → j ≤ T → walkP f s i ≠ walkP f s j := fun i j hij hj e => by
  have h1 := hlead (j - i - 1) (i + 1)
  rw [show i + 1 + (j - i - 1) = j by omega, ← e] at h1
  have h2 := hac _ (hf _ (hw i)).1
  rw [(hf _ (hw i)).2.1] at h2
  have h3 : za2 hs T (f (walkP f s i)).to (walkP f s i) = true := leadsP_le h1 (by omega)
  rw [h3] at h2
  cases h2
 have hlen := nodup_len T ((List.range (T + 1)).map (walkP f s)) (by
  rw [List.Nodup, List.pairwise_map]
  exact List.Pairwise.imp_of_mem (fun {a b} _ hb hab => hne a b hab (by have := List.mem_range.1 hb; omega)) List.pairwise_lt_range) (fun x hx => by
  simp only [List.mem_map] at hx
  obtain ⟨k, -, rfl⟩ := hx
  exact hb _ (hw k))
 simp at hlen
 omega
def zbF (m : GMap Int Bool) : List Int := m.es.map fun e => e.2.1
structure WfM (m : GMap Int Bool) : Prop where
 tru : ∀ e ∈ m.es, e.2.2 = true
 nd : (m.es.map (·.1)).Nodup
 lt : ∀ e ∈ m.es, e.1 < m.clock
theorem WfM.get {m : GMap Int Bool} (h : WfM m) (k : Int) : (m.get? k).getD false = decide (k ∈ zbF m) := by
 unfold GMap.get?
 rw [findK_get k m.es h.tru]; rfl
theorem WfM.empty : WfM (GMap.empty : GMap Int Bool) := ⟨fun e he => (by simp [GMap.empty] at he), by simp [GMap.empty], fun e he => (by simp [GMap.empty] at he)⟩
theorem findK_at (k : Int) : ∀ (es : List (Nat × Int × Bool)) (p : Nat × Bool), findK k es = some p → ∃ h : p.1 < es.length, es[p.1].2.1 = k
 | [], _, h => by simp [findK] at h
 | e :: es, p, h => by
  simp only [findK] at h
  split at h
  ·rename_i hk
   cases h
   exact ⟨by simp, hk.symm⟩
  ·simp only [Option.map_eq_some_iff] at h
   obtain ⟨q, h1, rfl⟩ := h
   obtain ⟨h2, h3⟩ := findK_at k es q h1
   exact ⟨by simp only [List.length_cons]; omega, by simpa using h3⟩
theorem modify_births (f : Nat × Int × Bool → Nat × Int × Bool) (hf : ∀ e, (f e).1 = e.1) : ∀ (es : List (Nat × Int × Bool)) (i : Nat), (es.modify i f).map (·.1) = es.map (·.1)
 | [], _ => by simp
 | e :: es, 0 => by simp [hf]
 | e :: es, i + 1 => by simp [modify_births f hf es i]
theorem WfM.put {m : GMap Int Bool} (h : WfM m) (k : Int) : WfM (m.put k true) ∧ (m.put k true).es.length ≤ m.es.length + 1 ∧ ∀ t, t ∈ zbF (m.put k true) ↔ t ∈ zbF m ∨ t = k := by
 unfold GMap.put zbF
 cases hk : findK k m.es with
 | none =>
  simp only []
  refine ⟨⟨fun e he => ?_, ?_, fun e he => ?_⟩, by simp, fun t => by simp⟩
  ·simp only [List.mem_append, List.mem_singleton] at he
   rcases he with he | rfl
   ·exact h.tru e he
   ·rfl
  ·simp only [List.map_append, List.map_cons, List.map_nil]
   rw [List.nodup_append]
   refine ⟨h.nd, by simp, fun a ha b hb => ?_⟩
   simp only [List.mem_singleton] at hb
   subst hb
   simp only [List.mem_map] at ha
   obtain ⟨e, he, rfl⟩ := ha
   have := h.lt e he
   omega
  ·simp only [List.mem_append, List.mem_singleton] at he
   rcases he with he | rfl
   ·have := h.lt e he
    simp only []; omega
   ·simp
 | some p =>
  obtain ⟨i, b⟩ := p
  simp only []
  have hb := modify_births (fun e : Nat × Int × Bool => (e.1, e.2.1, true)) (fun e => rfl) m.es i
  refine ⟨⟨modify_all (p := fun e => e.2.2 = true) _ (fun e => rfl) m.es i h.tru, by rw [hb]; exact h.nd, fun e he => ?_⟩, by simp, fun t => ?_⟩
  ·have : e.1 ∈ m.es.map (·.1) := by rw [← hb]; exact List.mem_map_of_mem he
   simp only [List.mem_map] at this
   obtain ⟨x, hx, e1⟩ := this
   have := h.lt x hx
   simp only []; omega
  ·rw [modify_keys (fun e : Nat × Int × Bool => (e.1, e.2.1, true)) (fun e => rfl) m.es i]
   constructor
   ·exact .inl
   ·rintro (h1 | rfl)
    ·exact h1
    ·exact findK_yes _ m.es _ hk
theorem WfM.del {m : GMap Int Bool} (h : WfM m) {e : Nat × Int × Bool} (he : e ∈ m.es) : WfM (m.del e.2.1) ∧ (m.del e.2.1).clock = m.clock ∧ (m.del e.2.1).es.length + 1 = m.es.length ∧ (m.del e.2.1).es.Sublist m.es ∧ ∀ t, t ∈ zbF m → t ≠ e.2.1 → t ∈ zbF (m.del e.2.1) := by
 unfold GMap.del zbF
 cases hk : findK e.2.1 m.es with
 | none => exact absurd (List.mem_map_of_mem (f := fun e : Nat × Int × Bool => e.2.1) he) (findK_no _ m.es hk)
 | some p =>
  obtain ⟨i, b⟩ := p
  obtain ⟨hi, hik⟩ := findK_at _ m.es _ hk
  simp only [] at hi hik ⊢
  have hsub := List.eraseIdx_sublist m.es i
  refine ⟨⟨fun x hx => h.tru x (hsub.subset hx), (hsub.map _).nodup h.nd, fun x hx => h.lt x (hsub.subset hx)⟩, trivial, ?_, hsub, fun t ht hne => ?_⟩
  ·rw [List.length_eraseIdx_of_lt hi]; omega
  ·simp only [List.mem_map] at ht ⊢
   obtain ⟨x, hx, rfl⟩ := ht
   obtain ⟨j, hj, rfl⟩ := List.mem_iff_getElem.1 hx
   refine ⟨_, ?_, rfl⟩
   rw [List.mem_eraseIdx_iff_getElem]
   refine ⟨j, hj, fun e1 => hne ?_, rfl⟩
   subst e1; exact hik
theorem left_less {m m' : GMap Int Bool} {seen : List Nat} {e : Nat × Int × Bool} (he : e ∈ m.left seen) (hs : m'.es.Sublist m.es) : (m'.left (seen ++ [e.1])).length < (m.left seen).length := by
 unfold GMap.left at he ⊢
 have h1 : (m'.es.filter fun x => !(seen ++ [e.1]).contains x.1).length ≤ (m.es.filter fun x => !(seen ++ [e.1]).contains x.1).length := (hs.filter _).length_le
 have h2 : (m.es.filter fun x => !(seen ++ [e.1]).contains x.1) = (m.es.filter fun x => !seen.contains x.1).filter fun x => !(x.1 == e.1) := by
  rw [List.filter_filter]
  congr 1
  funext x
  rw [Bool.eq_iff_iff]
  simp
  constructor
  ·rintro ⟨a, b⟩; exact ⟨b, a⟩
  ·rintro ⟨a, b⟩; exact ⟨b, a⟩
 have h3 : ((m.es.filter fun x => !seen.contains x.1).filter fun x => !(x.1 == e.1)).length < (m.es.filter fun x => !seen.contains x.1).length :=
  List.length_filter_lt_length_iff_exists.2 ⟨e, he, by simp⟩
 rw [h2] at h1
 omega
theorem hidden_round {n : Nat} {j : Judge} {m0 : GMap Int Bool} {i : Int} {rec : (GMap Int Bool × Int) → Option Bool} {r : Bool} (hn : 1000000 ≤ n) (hh : j.model.hides.length < 1000000) (J : GMap Int Bool → List Nat → Prop)
  (hwf : ∀ m seen, J m seen → WfM m ∧ m.clock = m0.clock) (hover : ∀ m seen, J m seen → m.left seen = [] → rec (m, add64 i 1) = some r)
  (hstep : ∀ m seen e, J m seen → e ∈ m.left seen → J (if (j.model.hides.any fun h => h.table == e.2.1 && decide (h.to ∈ zbF m)) = true then m else m.del e.2.1) (seen ++ [e.1]))
  (h0 : J m0 []) (hl : m0.es.length < 1000000) : loopF (zb.l4 n j m0 i rec) n (m0, [], m0.clock) = some r := by
 refine loopF_M (body := zb.l4 n j m0 i rec) (fun s => (s.1.left s.2.1).length) (fun s => J s.1 s.2.1 ∧ s.2.2 = m0.clock) (fun _ o => o = some r) (fun rec' s hI hr => ?_) n _ ⟨h0, rfl⟩ ?_
 ·obtain ⟨m, seen, last⟩ := s
  obtain ⟨hJ, hlast⟩ := hI
  simp only [] at hJ hlast hr
  subst hlast
  obtain ⟨hw, hc⟩ := hwf m seen hJ
  simp only [zb.l4, stepM]
  have hold : m.old m0.clock m0.clock = true := by
   simp only [GMap.old, Bool.and_eq_true, List.all_eq_true, decide_eq_true_eq]
   exact ⟨fun e he => by have := hw.lt e he; omega, Nat.le_refl _⟩
  rw [hold]
  unfold grd
  rw [if_pos rfl]
  cases hleft : m.left seen with
  | nil =>
   simp only [List.isEmpty_nil, if_true]
   exact hover m seen hJ hleft
  | cons x l =>
   rw [← hleft, if_neg (by rw [hleft]; simp)]
   refine chooseAll_all (by rw [hleft]; simp) (fun e he => ?_)
   have hem : e ∈ m.es := (List.mem_filter.1 he).1
   rw [if_pos (by simpa using hw.nd), ContainsFunc_LHide_api_Hide_eq (p := fun h => h.table == e.2.1 && decide (h.to ∈ zbF m)) (fun h _ => by
    unfold zcm
    rw [hw.get]) hh hn, Option.bind_some]
   have hst := hstep m seen e hJ he
   cases hb : (j.model.hides.any fun h => h.table == e.2.1 && decide (h.to ∈ zbF m)) with
   | true =>
    rw [hb] at hst
    rw [if_neg (by simp)]
    exact hr (m, seen ++ [e.1], m.clock) ⟨hst, hc⟩ (left_less he (List.Sublist.refl _))
   | false =>
    rw [hb] at hst
    rw [if_pos (by simp)]
    exact hr (m.del e.2.1, seen ++ [e.1], m.clock) ⟨hst, hc⟩ (left_less he (hw.del hem).2.2.2.1)
 ·have : (m0.left []).length ≤ m0.es.length := List.length_filter_le _ _
  simp only []
  omega
end Go.Proofs.YtcagdmegicijlaaGreatDoor
namespace Go.Proofs.YtcagdmegicijlaaGreatDoor
open Go Go.RowKit
theorem nodup_map_inj {α β : Type} {f : α → β} : ∀ {l : List α}, (l.map f).Nodup → ∀ x ∈ l, ∀ y ∈ l, f x = f y → x = y
 | [], _, x, hx, _, _, _ => by simp at hx
 | a :: l, h, x, hx, y, hy, e => by
  simp only [List.map_cons, List.nodup_cons, List.mem_map, not_exists, not_and] at h
  simp only [List.mem_cons] at hx hy
  rcases hx with rfl | hx <;> rcases hy with rfl | hy
  ·rfl
  ·exact absurd e.symm (h.1 y hy)
  ·exact absurd e (h.1 x hx)
  ·exact nodup_map_inj h.2 x hx y hy e
theorem hidden_rounds {n : Nat} {j : Judge} {m : GMap Int Bool} (hn : 1000000 ≤ n) (hh : j.model.hides.length ≤ 1000) (hok : ∀ h ∈ j.model.hides, (0 ≤ h.table ∧ h.table < (j.model.tables.length : Int)))
  (hw : WfM m) (hlen : m.es.length ≤ j.model.hides.length) (hk : ∀ t, t ∈ zbF m ↔ ∃ h ∈ j.model.hides, h.table = t) :
  loopF (zb.l3 n j) n (m, 0) = some (j.model.hides.all fun h => !za2 j.model.hides j.model.tables.length h.to h.table) := by
 cases hac : (j.model.hides.all fun h => !za2 j.model.hides j.model.tables.length h.to h.table) with
 | true =>
  have hac' : ∀ h ∈ j.model.hides, za2 j.model.hides j.model.tables.length h.to h.table = false := fun h hm => by
   have := List.all_eq_true.1 hac h hm
   simpa using this
  have hrange : ∀ m' : GMap Int Bool, (∀ t ∈ zbF m', ∃ h ∈ j.model.hides, h.table = t) → m'.es ≠ [] → ∃ e ∈ m'.es, ∀ h ∈ j.model.hides, ¬ (h.table = e.2.1 ∧ h.to ∈ zbF m') := fun m' hm' hne => by
   obtain ⟨t, ht, hs⟩ := sink_ex (hs := j.model.hides) (T := j.model.tables.length) (S := zbF m') (by simpa [zbF] using hne) (fun t ht => by
    obtain ⟨h, hh, rfl⟩ := hm' t ht
    exact hok h hh) hac'
   simp only [zbF, List.mem_map] at ht
   obtain ⟨e, he, rfl⟩ := ht
   exact ⟨e, he, hs⟩
  refine zco (body := zb.l3 n j) (len := j.model.hides.length) (st := fun m i => (m, (i : Int))) (g := fun _ _ => some true) (fun i m => WfM m ∧ m.es.length + i ≤ j.model.hides.length ∧ ∀ t ∈ zbF m, ∃ h ∈ j.model.hides, h.table = t) (fun rec i m hi hI hr => ?_) (fun rec m hI => ?_) n 0 m (Nat.zero_le _) (by omega) ⟨hw, by omega, fun t ht => (hk t).1 ht⟩
  ·obtain ⟨h1, h2, h3⟩ := hI
   simp only [zb.l3, zo hi, if_true]
   refine hidden_round (r := true) (by omega) (by omega) (fun m' seen => (WfM m' ∧ m'.clock = m.clock ∧ ∀ t ∈ zbF m', ∃ h ∈ j.model.hides, h.table = t) ∧ (m'.es.length + i + 1 ≤ j.model.hides.length ∨ (m'.es.length + i ≤ j.model.hides.length ∧ ∃ e ∈ m'.left seen, ∀ h ∈ j.model.hides, ¬ (h.table = e.2.1 ∧ h.to ∈ zbF m')))) (fun m' seen hJ => ⟨hJ.1.1, hJ.1.2.1⟩) (fun m' seen hJ hl => ?_) (fun m' seen e hJ he => ?_) ⟨⟨h1, rfl, h3⟩, ?_⟩ (by omega)
   ·rw [zd (by omega)]
    refine hr m' ⟨hJ.1.1, ?_, hJ.1.2.2⟩
    rcases hJ.2 with h | ⟨-, e, he, -⟩
    ·omega
    ·rw [hl] at he; cases he
   ·obtain ⟨⟨w1, w2, w3⟩, hd⟩ := hJ
    have hem : e ∈ m'.es := (List.mem_filter.1 he).1
    obtain ⟨d1, d2, d3, d4, -⟩ := w1.del hem
    cases hb : (j.model.hides.any fun h => h.table == e.2.1 && decide (h.to ∈ zbF m')) with
    | true =>
     rw [if_pos rfl]
     refine ⟨⟨w1, w2, w3⟩, ?_⟩
     rcases hd with hd | ⟨hd, x, hx, hs⟩
     ·exact .inl hd
     ·refine .inr ⟨hd, x, ?_, hs⟩
      simp only [GMap.left, List.mem_filter] at hx ⊢
      refine ⟨hx.1, ?_⟩
      have hne : x.1 ≠ e.1 := fun e1 => by
       have : x = e := nodup_map_inj w1.nd x hx.1 e hem e1
       subst this
       simp only [List.any_eq_true, Bool.and_eq_true, beq_iff_eq, decide_eq_true_eq] at hb
       obtain ⟨h, hh, q⟩ := hb
       exact hs h hh q
      simp only [Bool.not_eq_true', List.contains_eq_mem, decide_eq_false_iff_not, List.mem_append, List.mem_singleton, not_or] at hx ⊢
      exact ⟨hx.2, hne⟩
    | false =>
     rw [if_neg (by simp)]
     refine ⟨⟨d1, by omega, fun t ht => ?_⟩, .inl ?_⟩
     ·refine w3 t ?_
      simp only [zbF, List.mem_map] at ht ⊢
      obtain ⟨x, hx, rfl⟩ := ht
      exact ⟨x, d4.subset hx, rfl⟩
     ·rcases hd with hd | ⟨hd, -⟩ <;> omega
   ·by_cases hne : m.es = []
    ·left; rw [hne]; simp; omega
    ·right
     refine ⟨h2, ?_⟩
     obtain ⟨e, he, hs⟩ := hrange m h3 hne
     exact ⟨e, by simp [GMap.left, he], hs⟩
  ·have : m.es.length = 0 := by omega
   simp [zb.l3, this]
 | false =>
  obtain ⟨h0, hm0, hl0⟩ : ∃ h ∈ j.model.hides, za2 j.model.hides j.model.tables.length h.to h.table = true := by
   simp only [List.all_eq_false] at hac
   obtain ⟨h, hm, hx⟩ := hac
   exact ⟨h, hm, by simpa using hx⟩
  have hclosed : ∀ t, ((∃ k, za2 j.model.hides k h0.to t = true) ∧ ∃ k, za2 j.model.hides k t h0.table = true) → ∃ h ∈ j.model.hides, h.table = t ∧ ((∃ k, za2 j.model.hides k h0.to h.to = true) ∧ ∃ k, za2 j.model.hides k h.to h0.table = true) := by
   rintro t ⟨⟨a, ha⟩, b, hb⟩
   have hcase : t = h0.table ∨ ∃ h ∈ j.model.hides, h.table = t ∧ ∃ k, za2 j.model.hides k h.to h0.table = true := by
    cases b with
    | zero => left; simpa [za2] using hb
    | succ b =>
     simp only [za2, Bool.or_eq_true, beq_iff_eq, List.any_eq_true, Bool.and_eq_true] at hb
     rcases hb with hb | ⟨h, hm, e, hx⟩
     ·exact .inl hb
     ·exact .inr ⟨h, hm, e, b, hx⟩
   rcases hcase with rfl | ⟨h, hm, rfl, k, hx⟩
   ·exact ⟨h0, hm0, rfl, ⟨0, leadsP_refl⟩, _, hl0⟩
   ·exact ⟨h, hm, rfl, ⟨_, leadsP_snoc hm ha⟩, k, hx⟩
  generalize hC : (fun t => (∃ k, za2 j.model.hides k h0.to t = true) ∧ ∃ k, za2 j.model.hides k t h0.table = true) = C at *
  have hC' : ∀ t, C t → ∃ h ∈ j.model.hides, h.table = t ∧ C h.to := by
   intro t ht
   rw [← hC] at ht ⊢
   exact hclosed t ht
  have hCs : C h0.to := by rw [← hC]; exact ⟨⟨0, leadsP_refl⟩, _, hl0⟩
  refine zco (body := zb.l3 n j) (len := j.model.hides.length) (st := fun m i => (m, (i : Int))) (g := fun _ _ => some false) (fun i m => WfM m ∧ m.es.length ≤ 1000 ∧ ∀ t, C t → t ∈ zbF m) (fun rec i m hi hI hr => ?_) (fun rec m hI => ?_) n 0 m (Nat.zero_le _) (by omega) ⟨hw, by omega, fun t ht => (hk t).2 (by
   obtain ⟨h, hh, e, -⟩ := hC' t ht
   exact ⟨h, hh, e⟩)⟩
  ·obtain ⟨h1, h2, h3⟩ := hI
   simp only [zb.l3, zo hi, if_true]
   refine hidden_round (r := false) (by omega) (by omega) (fun m' seen => WfM m' ∧ m'.clock = m.clock ∧ m'.es.length ≤ 1000 ∧ ∀ t, C t → t ∈ zbF m') (fun m' seen hJ => ⟨hJ.1, hJ.2.1⟩) (fun m' seen hJ hl => ?_) (fun m' seen e hJ he => ?_) ⟨h1, rfl, h2, h3⟩ (by omega)
   ·rw [zd (by omega)]
    exact hr m' ⟨hJ.1, hJ.2.2⟩
   ·obtain ⟨w1, w2, w3, w4⟩ := hJ
    have hem : e ∈ m'.es := (List.mem_filter.1 he).1
    obtain ⟨d1, d2, d3, -, d5⟩ := w1.del hem
    cases hb : (j.model.hides.any fun h => h.table == e.2.1 && decide (h.to ∈ zbF m')) with
    | true =>
     rw [if_pos rfl]
     exact ⟨w1, w2, w3, w4⟩
    | false =>
     rw [if_neg (by simp)]
     refine ⟨d1, by omega, by omega, fun t ht => d5 t (w4 t ht) fun e1 => ?_⟩
     obtain ⟨h, hh, hht, hto⟩ := hC' t ht
     have := List.any_eq_false.1 hb h hh
     apply this
     simp only [Bool.and_eq_true, beq_iff_eq, decide_eq_true_eq]
     exact ⟨by omega, w4 _ hto⟩
  ·obtain ⟨-, -, h3⟩ := hI
   have := h3 _ hCs
   have hne : m.es.length ≠ 0 := fun e => by
    simp only [zbF, List.length_eq_zero_iff.1 e, List.map_nil, List.not_mem_nil] at this
   simp only [zb.l3, zaN, Bool.false_eq_true, if_false, Option.some.injEq, beq_eq_false_iff_ne]
   omega
theorem model_hidden_eq {n : Nat} {m : Model} {l : List Range} (hn : 1000000 ≤ n) (hS : SmallM m) : zb n ⟨m, l⟩ = some (hidesP m) := by
 have hhl := hS.hides
 have htl := hS.tables
 unfold zb hidesP
 rw [if_neg (by simp; omega), decide_eq_true hhl, Bool.true_and]
 have := zaT (body := zb.l1 n ⟨m, l⟩) (l := m.hides) (n := n) (st := fun i => (i : Int)) (hideP m) (some false) (loopF (zb.l2 n ⟨m, l⟩) n (GMap.empty, 0)) (fun rec i hi => ?_) (fun rec => ?_) (by omega)
 ·simp only [Int.natCast_zero] at this
  rw [this]
  cases hall : m.hides.all (hideP m) with
  | false => simp
  | true =>
   rw [if_pos rfl, Bool.true_and]
   have hok : ∀ h ∈ m.hides, (0 ≤ h.table ∧ h.table < (m.tables.length : Int)) := fun h hm => by
    have := List.all_eq_true.1 hall h hm
    simp only [hideP, Bool.and_eq_true, decide_eq_true_eq] at this
    exact this.1.1.1
   refine zco (body := zb.l2 n ⟨m, l⟩) (len := m.hides.length) (st := fun g i => (g, (i : Int))) (g := fun _ _ => some (m.hides.all fun h => !za2 m.hides m.tables.length h.to h.table)) (fun i g => WfM g ∧ g.es.length ≤ i ∧ ∀ t, t ∈ zbF g ↔ ∃ h ∈ m.hides.take i, h.table = t) (fun rec i g hi hI hr => ?_) (fun rec g hI => ?_) n 0 GMap.empty (Nat.zero_le _) (by omega) ⟨WfM.empty, by simp [GMap.empty], fun t => by simp [zbF, GMap.empty]⟩
   ·obtain ⟨h1, h2, h3⟩ := hI
    obtain ⟨p1, p2, p3⟩ := h1.put m.hides[i].table
    simp only [zb.l2, zo hi, if_true, za hi, Option.bind_some, zd (show i < 4611686018427387904 by omega)]
    refine hr _ ⟨p1, by omega, fun t => ?_⟩
    rw [p3, h3, List.take_succ_eq_append_getElem hi]
    simp only [List.mem_append, List.mem_singleton]
    constructor
    ·rintro (⟨h, hm, e⟩ | e)
     ·exact ⟨h, .inl hm, e⟩
     ·exact ⟨_, .inr rfl, e.symm⟩
    ·rintro ⟨h, hm | rfl, e⟩
     ·exact .inl ⟨h, hm, e⟩
     ·exact .inr e.symm
   ·obtain ⟨h1, h2, h3⟩ := hI
    simp only [zb.l2, zaN, Bool.false_eq_true, if_false]
    exact hidden_rounds (j := ⟨m, l⟩) hn (by simp only []; omega) hok h1 h2 (fun t => by rw [h3, List.take_length])
 ·simp only [zb.l1, zW, zo hi, if_true, za hi, Option.bind_some, Option.isSome_some, Bool.or_true, Option.getD_some, zd (show i < 4611686018427387904 by omega)]
  generalize m.hides[i] = h
  by_cases hb : (((0 ≤ h.table ∧ h.table < (m.tables.length : Int)) ∧ (0 ≤ h.to ∧ h.to < (m.tables.length : Int))) ∧ h.table ≠ h.to)
  ·simp only [grd, if_true]
   rw [if_neg (by simp [hb])]
   obtain ⟨t, u, ht, hu⟩ := hide_idx hb.1.1 hb.1.2
   have hhp : hideP m h = (((t.kind == 0) && (u.kind == 0)) && ((decide (0 ≤ h.column) && decide (h.column < (t.columns.length : Int))) && (((u.columns.length : Int) == 1) && ((idx u.columns 0).getD default == (idx t.columns h.column).getD default)))) := by
    unfold hideP
    rw [ht, hu]
    simp [hb]
   simp only [ht, hu, Option.bind_some]
   rw [hhp]
   by_cases hk : (((t.kind == 0) && (u.kind == 0)) && ((decide (0 ≤ h.column) && decide (h.column < (t.columns.length : Int))) && ((u.columns.length : Int) == 1))) = true
   ·have hk' := hk
    simp only [Bool.and_eq_true, decide_eq_true_eq, beq_iff_eq] at hk'
    obtain ⟨⟨k1, k2⟩, ⟨k3, k4⟩, k5⟩ := hk'
    obtain ⟨x, hx⟩ := zbr (l := u.columns) (i := 0) (by omega) (by omega)
    obtain ⟨y, hy⟩ := zbr k3 k4
    simp only [k1, k2, k3, k4, k5, hx, hy, Option.getD_some, decide_true, beq_self_eq_true, bne_self_eq_false, Option.isSome_some, Bool.or_true, Bool.or_false, Bool.true_and, Bool.and_self, Bool.not_true, if_true]
    by_cases hxy : x = y
    ·simp [hxy]
    ·simp [hxy]
   ·have hf : (((((t.kind != 0) || (u.kind != 0)) || (!(decide (0 ≤ h.column) && decide (h.column < (t.columns.length : Int))))) || ((u.columns.length : Int) != 1))) = true := by
     simp only [Bool.and_eq_true, decide_eq_true_eq, beq_iff_eq] at hk
     simp only [Bool.or_eq_true, bne_iff_ne, Bool.not_eq_true', Bool.and_eq_false_iff, decide_eq_false_iff_not]
     omega
    simp only [hf, Bool.true_or, if_true]
    rw [← Bool.and_assoc (decide (0 ≤ h.column) && decide (h.column < (t.columns.length : Int))), ← Bool.and_assoc]
    simp only [Bool.not_eq_true] at hk
    rw [hk]; rfl
  ·have hhp : hideP m h = false := by
    unfold hideP
    cases hx : (((decide (0 ≤ h.table) && decide (h.table < (m.tables.length : Int))) && (decide (0 ≤ h.to) && decide (h.to < (m.tables.length : Int)))) && (h.table != h.to)) with
    | false => rfl
    | true =>
     simp only [Bool.and_eq_true, decide_eq_true_eq, bne_iff_ne] at hx
     exact absurd hx hb
   rw [hhp]
   simp only [grd, if_true]
   rw [if_pos (by
    simp only [Bool.or_eq_true, Bool.not_eq_true', Bool.and_eq_false_iff, decide_eq_false_iff_not, beq_iff_eq]
    omega)]
   rfl
 ·simp [zb.l1]
def validP (m : Model) : Bool := (zbC m.sorts m.tables && (decide (m.families.length ≤ 24) && distP [] m.families)) && (consP m (zQ m.sorts true m.tables) && (opsP m && (actsP m (zQ m.sorts true m.tables).length && hidesP m)))
theorem model_Valid_eq {n : Nat} {m : Model} (hF : Fuel n) (hS : SmallM m) : zcy n m = some (validP m) := by
 have hn := hF.big
 have hs := hS.sorts
 have ht := hS.tables
 have hf := hS.families
 have hcs : ∀ t ∈ m.tables, t.columns.length ≤ 1000 := fun t h => by have := hS.tab t h; omega
 unfold zcy validP
 rw [cells_Valid_eq hF (by omega) (by omega) hcs, model_distinct_eq hF (by omega)]
 simp only [Option.bind_some, Option.isSome_some, Bool.or_true, grd, if_true, Option.getD_some]
 have e1 : decide (24 < (m.families.length : Int)) = !decide (m.families.length ≤ 24) := by rw [← decide_not]; exact decide_eq_decide.2 (by omega)
 rw [e1]
 cases hL : zbC m.sorts m.tables with
 | false => simp
 | true =>
  by_cases hd : (decide (m.families.length ≤ 24) && distP [] m.families) = true
  ·rw [hd]
   simp only [Bool.and_eq_true] at hd
   rw [hd.1, hd.2, if_neg (by simp), cells_Ranges_eq hF (by omega) (by omega) hcs, hL]
   simp only [if_true, Option.bind_some]
   obtain ⟨l1, l2, l3, l4⟩ := zbQ hL
   have hlen := zcV (sizes := m.sorts) (s := true) (l := m.tables) fun x hx => (l4 x hx).2.2.2.2
   rw [model_constraints_eq hS (fun t ht => (l4 t ht).2.2.2.1) (by omega) (by omega), model_operations_eq hF hS, model_hidden_eq (by omega) hS]
   simp only [Option.bind_some, Option.isSome_some, Option.getD_some, Bool.or_true, if_true]
   cases consP m (zQ m.sorts true m.tables) with
   | false => simp
   | true =>
    cases hO : opsP m with
    | false => simp
    | true =>
     rw [model_actions_eq hF hS hO]
     simp
  ·have h2 : (!true || !decide (m.families.length ≤ 24) || !distP [] m.families) = true := by
    simp only [Bool.and_eq_true, not_and, Bool.not_eq_true] at hd
    cases h1 : decide (m.families.length ≤ 24) with
    | false => rfl
    | true => rw [hd h1]; rfl
   rw [if_pos h2]
   simp only [Bool.not_eq_true] at hd
   rw [hd]; rfl
end Go.Proofs.YtcagdmegicijlaaGreatDoor
namespace Go.Proofs.YtcagdmegicijlaaGreatDoor
open Go Go.RowKit
def lensP (m : Model) : Bool := (((((((decide (8 < (m.sorts.length : Int))) || (decide (6 < (m.tables.length : Int)))) || (decide (20 < (m.families.length : Int)))) || (decide (60 < (m.constraints.length : Int)))) || (decide (8 < (m.operations.length : Int)))) || (decide (30 < (m.actions.length : Int)))) || (decide (12 < (m.hides.length : Int))))
def tabF (t : Table) : Bool := decide (t.name.length ≤ 40) && decide (t.columns.length ≤ 12)
def opF (o : Operation) : Bool := decide (o.name.length ≤ 40) && decide (o.sorts.length ≤ 6)
def actF (a : Action) : Bool := ((decide (a.arguments.length ≤ 6) && decide (a.effect.delta.length ≤ 20)) && (decide (a.effect.hold.length ≤ 10) && decide (a.effect.updates.length ≤ 40))) && a.effect.hold.all fun r => decide (r.terms.length ≤ 20)
def boundedP (m : Model) : Bool := !lensP m && (m.tables.all tabF && (m.families.all (fun s => decide (s.length ≤ 40)) && (m.constraints.all (fun c => decide (c.row.terms.length ≤ 20)) && (m.operations.all opF && m.actions.all actF))))
theorem not_lt_le {a b : Nat} : decide ((a : Int) < (b : Int)) = !decide (b ≤ a) := by rw [← decide_not]; exact decide_eq_decide.2 (by omega)
theorem ref13_Bounded_eq {n : Nat} {m : Model} (hn : 1000000 ≤ n) : zj n m = some (boundedP m) := by
 unfold zj boundedP
 have hl : (((((((decide (8 < (m.sorts.length : Int))) || (decide (6 < (m.tables.length : Int)))) || (decide (20 < (m.families.length : Int)))) || (decide (60 < (m.constraints.length : Int)))) || (decide (8 < (m.operations.length : Int)))) || (decide (30 < (m.actions.length : Int)))) || (decide (12 < (m.hides.length : Int)))) = lensP m := rfl
 rw [hl]
 cases hlen : lensP m with
 | true => simp [grd]
 | false =>
  simp only [lensP, Bool.or_eq_false_iff, decide_eq_false_iff_not] at hlen
  obtain ⟨⟨⟨⟨⟨⟨b1, b2⟩, b3⟩, b4⟩, b5⟩, b6⟩, b7⟩ := hlen
  have hfew : zb8 n m.sorts m.tables = some (m.tables.all tabF) := by
   have := zaT (body := zb8.l1 n m.sorts m.tables) (l := m.tables) (n := n) (st := fun i => (i : Int)) tabF (some false) (some true) (fun rec i hi => ?_) (fun rec => ?_) (by omega)
   ·simp only [Int.natCast_zero] at this
    unfold zb8
    rw [this]
    cases m.tables.all tabF <;> rfl
   ·simp only [zb8.l1, zo hi, if_true, za hi, Option.bind_some, Option.isSome_some, Bool.or_true, grd, Option.getD_some, zd (show i < 4611686018427387904 by omega)]
    unfold tabF
    by_cases h1 : m.tables[i].name.length ≤ 40
    ·by_cases h2 : m.tables[i].columns.length ≤ 12
     ·rw [if_neg (by simp; omega), if_pos (by simp [h1, h2])]
     ·rw [if_pos (by simp; omega), if_neg (by simp [h2])]
    ·rw [if_pos (by simp; omega), if_neg (by simp [h1])]
   ·simp [zb8.l1]; omega
  rw [hfew]
  simp only [Option.isSome_some, Bool.or_true, grd, if_true, Option.getD_some, Bool.false_or, Bool.not_false, Bool.true_and]
  cases m.tables.all tabF with
  | false => simp
  | true =>
   rw [if_neg (by simp), Bool.true_and]
   have h4 : loopF (zj.l4 n m) n 0 = some (m.actions.all actF) := by
    have := zaT (body := zj.l4 n m) (l := m.actions) (n := n) (st := fun i => (i : Int)) actF (some false) (some true) (fun rec i hi => ?_) (fun rec => ?_) (by omega)
    ·simp only [Int.natCast_zero] at this
     rw [this]
     cases m.actions.all actF <;> rfl
    ·simp only [zj.l4, zo hi, if_true, za hi, Option.bind_some]
     unfold actF
     by_cases hx : ((decide (m.actions[i].arguments.length ≤ 6) && decide (m.actions[i].effect.delta.length ≤ 20)) && (decide (m.actions[i].effect.hold.length ≤ 10) && decide (m.actions[i].effect.updates.length ≤ 40))) = true
     ·rw [hx, Bool.true_and]
      simp only [Bool.and_eq_true, decide_eq_true_eq] at hx
      rw [if_neg (by simp; omega)]
      have := zaT (body := zj.l5 n i rec m.actions[i]) (l := m.actions[i].effect.hold) (n := n) (st := fun k => (k : Int)) (fun r => decide (r.terms.length ≤ 20)) (some false) (rec ((i + 1 : Nat) : Int)) (fun rec' k hk => ?_) (fun rec' => ?_) (by omega)
      ·simpa using this
      ·simp only [zj.l5, zo hk, if_true, za hk, Option.bind_some, zd (show k < 4611686018427387904 by omega)]
       by_cases h : m.actions[i].effect.hold[k].terms.length ≤ 20
       ·rw [if_neg (by simp; omega), if_pos (by simp [h])]
       ·rw [if_pos (by simp; omega), if_neg (by simp [h])]
      ·simp only [zj.l5, zaN, Bool.false_eq_true, if_false, zd (show i < 4611686018427387904 by omega)]
     ·rw [if_pos (by
       simp only [Bool.and_eq_true, decide_eq_true_eq] at hx
       simp only [Bool.or_eq_true, decide_eq_true_eq]; omega)]
      simp only [Bool.not_eq_true] at hx
      rw [hx, Bool.false_and, if_neg (by simp)]
    ·simp [zj.l4]
   have h3 : loopF (zj.l3 n m) n 0 = some (m.operations.all opF && m.actions.all actF) := by
    have := zaT (body := zj.l3 n m) (l := m.operations) (n := n) (st := fun i => (i : Int)) opF (some false) (some (m.actions.all actF)) (fun rec i hi => ?_) (fun rec => ?_) (by omega)
    ·simp only [Int.natCast_zero] at this
     rw [this]
     cases m.operations.all opF <;> rfl
    ·simp only [zj.l3, zo hi, if_true, za hi, Option.bind_some, Option.isSome_some, Bool.or_true, grd, Option.getD_some, zd (show i < 4611686018427387904 by omega)]
     unfold opF
     by_cases h1 : m.operations[i].name.length ≤ 40
     ·by_cases h2 : m.operations[i].sorts.length ≤ 6
      ·rw [if_neg (by simp; omega), if_pos (by simp [h1, h2])]
      ·rw [if_pos (by simp; omega), if_neg (by simp [h2])]
     ·rw [if_pos (by simp; omega), if_neg (by simp [h1])]
    ·simp only [zj.l3, zaN, Bool.false_eq_true, if_false, h4]
   have h2 : loopF (zj.l2 n m) n 0 = some (m.constraints.all (fun c => decide (c.row.terms.length ≤ 20)) && (m.operations.all opF && m.actions.all actF)) := by
    have := zaT (body := zj.l2 n m) (l := m.constraints) (n := n) (st := fun i => (i : Int)) (fun c => decide (c.row.terms.length ≤ 20)) (some false) (some (m.operations.all opF && m.actions.all actF)) (fun rec i hi => ?_) (fun rec => ?_) (by omega)
    ·simp only [Int.natCast_zero] at this
     rw [this]
     cases m.constraints.all (fun c => decide (c.row.terms.length ≤ 20)) <;> rfl
    ·simp only [zj.l2, zo hi, if_true, za hi, Option.bind_some, zd (show i < 4611686018427387904 by omega)]
     by_cases h : m.constraints[i].row.terms.length ≤ 20
     ·rw [if_neg (by simp; omega), if_pos (by simp [h])]
     ·rw [if_pos (by simp; omega), if_neg (by simp [h])]
    ·simp only [zj.l2, zaN, Bool.false_eq_true, if_false, h3]
   have := zaT (body := zj.l1 n m) (l := m.families) (n := n) (st := fun i => (i : Int)) (fun s => decide (s.length ≤ 40)) (some false) (some (m.constraints.all (fun c => decide (c.row.terms.length ≤ 20)) && (m.operations.all opF && m.actions.all actF))) (fun rec i hi => ?_) (fun rec => ?_) (by omega)
   ·simp only [Int.natCast_zero] at this
    rw [this]
    cases m.families.all (fun s => decide (s.length ≤ 40)) <;> rfl
   ·simp only [zj.l1, zo hi, if_true, za hi, Option.bind_some, zd (show i < 4611686018427387904 by omega)]
    by_cases h : m.families[i].length ≤ 40
    ·rw [if_neg (by simp; omega), if_pos (by simp [h])]
    ·rw [if_pos (by simp; omega), if_neg (by simp [h])]
   ·simp only [zj.l1, zaN, Bool.false_eq_true, if_false, h2]
theorem boundedP_small {m : Model} (h : boundedP m = true) : SmallM m := by
 simp only [boundedP, lensP, tabF, opF, actF, Bool.and_eq_true, Bool.not_eq_true', Bool.or_eq_false_iff, decide_eq_false_iff_not, List.all_eq_true, decide_eq_true_eq] at h
 obtain ⟨⟨⟨⟨⟨⟨⟨b1, b2⟩, b3⟩, b4⟩, b5⟩, b6⟩, b7⟩, c1, c2, c3, c4, c5⟩ := h
 exact ⟨by omega, by omega, c1, by omega, c2, by omega, c3, by omega, c4, by omega, fun a ha => by
  obtain ⟨⟨⟨p1, p2⟩, p3, p4⟩, p5⟩ := c5 a ha
  exact ⟨p1, p2, p3, p4, p5⟩, by omega⟩
def prodP : Int → List Range → Bool
 | _, [] => true
 | p, r :: l => !decide (4096 < mul64 p (add64 (sub64 r.hi r.lo) 1)) && prodP (mul64 p (add64 (sub64 r.hi r.lo) 1)) l
def zbV (m : Model) : List Range := if zbC m.sorts m.tables = true then zQ m.sorts true m.tables else []
def fewP (m : Model) : Bool := ((boundedP m && decide (m.actions.length ≤ 12)) && decide (m.constraints.length ≤ 40)) && (m.actions.all (fun a => decide (a.effect.hold.length ≤ 4)) && (decide ((zbV m).length ≤ 12) && prodP 1 (zbV m)))
theorem ref13_strict_eq {n : Nat} {m : Model} (hn : 1000000 ≤ n) (hS : SmallM m) : ref13_strict n m = some (zbV m) := by
 have hs := hS.sorts
 have ht := hS.tables
 unfold ref13_strict
 rw [ref09_Ranges_eq hn (by omega) (by omega) (fun t h => by have := hS.tab t h; omega)]
 rfl
theorem strictR_len {m : Model} (hS : SmallM m) : (zbV m).length ≤ 2592 := by
 have ht := hS.tables
 unfold zbV
 split
 ·rename_i hL
  obtain ⟨l1, l2, l3, l4⟩ := zbQ hL
  have := zcV (sizes := m.sorts) (s := true) (l := m.tables) fun x hx => (l4 x hx).2.2.2.2
  omega
 ·simp
theorem ref13_Few_eq {n : Nat} {m : Model} (hn : 1000000 ≤ n) : zbb n m = some (fewP m) := by
 unfold zbb fewP
 rw [ref13_Bounded_eq hn, Option.bind_some]
 have e1 : decide (12 < (m.actions.length : Int)) = !decide (m.actions.length ≤ 12) := not_lt_le (a := 12)
 have e2 : decide (40 < (m.constraints.length : Int)) = !decide (m.constraints.length ≤ 40) := not_lt_le (a := 40)
 rw [e1, e2, ← Bool.not_and, ← Bool.not_and]
 cases hb : (boundedP m && decide (m.actions.length ≤ 12) && decide (m.constraints.length ≤ 40)) with
 | false => simp
 | true =>
  simp only [Bool.and_eq_true, decide_eq_true_eq] at hb
  have hS := boundedP_small hb.1.1
  have hsl := strictR_len hS
  have T : (if (decide (12 < ((zbV m).length : Int))) = true then some false else loopF (zbb.l2 n (zbV m)) n (1, 0)) = some (decide ((zbV m).length ≤ 12) && prodP 1 (zbV m)) := by
   by_cases h : (zbV m).length ≤ 12
   ·rw [if_neg (by simp; omega), decide_eq_true h, Bool.true_and]
    refine zco (body := zbb.l2 n (zbV m)) (len := (zbV m).length) (st := fun (p : Int) i => (p, (i : Int))) (g := fun i p => some (prodP p ((zbV m).drop i))) (fun _ _ => True) (fun rec i p hi _ hr => ?_) (fun rec p _ => ?_) n 0 1 (Nat.zero_le _) (by omega) trivial
    ·simp only [zbb.l2, zo hi, if_true, za hi, Option.bind_some, zd (show i < 4611686018427387904 by omega), hr _ trivial]
     rw [zr hi, prodP]
     cases decide (4096 < mul64 p (add64 (sub64 (zbV m)[i].hi (zbV m)[i].lo) 1)) <;> simp
    ·simp [zbb.l2, prodP]
   ·rw [if_pos (by simp; omega), decide_eq_false h, Bool.false_and]
  have := zaT (body := zbb.l1 n m) (l := m.actions) (n := n) (st := fun i => (i : Int)) (fun a => decide (a.effect.hold.length ≤ 4)) (some false) (some (decide ((zbV m).length ≤ 12) && prodP 1 (zbV m))) (fun rec i hi => ?_) (fun rec => ?_) (by omega)
  ·simp only [Int.natCast_zero] at this
   rw [if_neg (by simp), this]
   cases m.actions.all (fun a => decide (a.effect.hold.length ≤ 4)) <;> simp
  ·simp only [zbb.l1, zo hi, if_true, za hi, Option.bind_some, zd (show i < 4611686018427387904 by omega)]
   by_cases h : m.actions[i].effect.hold.length ≤ 4
   ·rw [if_neg (by simp; omega), if_pos (by simp [h])]
   ·rw [if_pos (by simp; omega), if_neg (by simp [h])]
  ·simp only [zbb.l1, zaN, Bool.false_eq_true, if_false, ref13_strict_eq hn hS, Option.bind_some, T]
theorem fewP_small {m : Model} (h : fewP m = true) : SmallM m := by
 simp only [fewP, Bool.and_eq_true] at h
 exact boundedP_small h.1.1.1
end Go.Proofs.YtcagdmegicijlaaGreatDoor
namespace Go.Proofs.YtcagdmegicijlaaGreatDoor
open Go Go.RowKit
structure ValidM (m : Model) : Prop where
 lay : zbC m.sorts m.tables = true
 fams : m.families.length ≤ 24 ∧ distP [] m.families = true
 cons : consP m (zQ m.sorts true m.tables) = true
 ops : opsP m = true
 acts : actsP m (zQ m.sorts true m.tables).length = true
 hid : hidesP m = true
theorem validP_iff {m : Model} : validP m = true ↔ ValidM m := by
 simp only [validP, Bool.and_eq_true, decide_eq_true_eq]
 exact ⟨fun ⟨⟨a, b, c⟩, d, e, f, g⟩ => ⟨a, ⟨b, c⟩, d, e, f, g⟩, fun ⟨a, ⟨b, c⟩, d, e, f, g⟩ => ⟨⟨a, b, c⟩, d, e, f, g⟩⟩
def stepT (s : Nat) (L : List (List Int)) : List (List Int) := L.flatMap fun l => (List.range s).map fun e : Nat => l ++ [(e : Int)]
def tuplesF (sizes : List Int) : List Int → List (List Int) → List (List Int)
 | [], L => L
 | c :: cols, L => tuplesF sizes cols (stepT (sizeAt sizes c).toNat L)
def zc0 (sizes cols : List Int) : List (List Int) := tuplesF sizes cols [[]]
theorem tuplesF_append (sizes : List Int) : ∀ (a b : List Int) (L : List (List Int)), tuplesF sizes (a ++ b) L = tuplesF sizes b (tuplesF sizes a L)
 | [], _, _ => rfl
 | _ :: a, b, L => by simp only [List.cons_append, tuplesF]; exact tuplesF_append sizes a b _
theorem stepT_append (s : Nat) (A B : List (List Int)) : stepT s (A ++ B) = stepT s A ++ stepT s B := by simp [stepT]
theorem stepT_len {s : Nat} {L : List (List Int)} : (stepT s L).length = L.length * s := by
 induction L with
 | nil => simp [stepT]
 | cons l L ih =>
  have : stepT s (l :: L) = stepT s [l] ++ stepT s L := stepT_append s [l] L
  rw [this, List.length_append, ih]
  simp [stepT, Nat.succ_mul, Nat.add_comm]
theorem stepT_mem {s : Nat} {L : List (List Int)} {k : Nat} (h : ∀ l ∈ L, l.length = k) : ∀ l ∈ stepT s L, l.length = k + 1 := fun l hl => by
 simp only [stepT, List.mem_flatMap, List.mem_map] at hl
 obtain ⟨x, hx, e, -, rfl⟩ := hl
 simp [h x hx]
theorem stepT_snoc {s : Nat} {L : List (List Int)} {i : Nat} (hi : i < L.length) : stepT s (L.take (i + 1)) = stepT s (L.take i) ++ (List.range s).map fun e : Nat => L[i] ++ [(e : Int)] := by
 rw [List.take_succ_eq_append_getElem hi, stepT_append]
 congr 1
 simp [stepT]
def placeP (i : Nat) (L : List (List Int)) : List Place := L.map fun l => ⟨(i : Int), l⟩
def zb4 (sizes : List Int) (s : Bool) : List Table → Nat → List Place
 | [], _ => []
 | t :: l, i => (if decide (t.kind ≤ 1) = s then placeP i (zc0 sizes t.columns) else []) ++ zb4 sizes s l (i + 1)
theorem placesP_append (sizes : List Int) (s : Bool) : ∀ (a b : List Table) (i : Nat), zb4 sizes s (a ++ b) i = zb4 sizes s a i ++ zb4 sizes s b (i + a.length)
 | [], b, i => by simp [zb4]
 | t :: a, b, i => by
  simp only [List.cons_append, zb4, placesP_append sizes s a b, List.length_cons, List.append_assoc]
  rw [show i + 1 + a.length = i + (a.length + 1) by omega]
theorem placesP_snoc {sizes : List Int} {s : Bool} {l : List Table} {i : Nat} (hi : i < l.length) : zb4 sizes s (l.take (i + 1)) 0 = zb4 sizes s (l.take i) 0 ++ (if decide (l[i].kind ≤ 1) = s then placeP i (zc0 sizes l[i].columns) else []) := by
 rw [List.take_succ_eq_append_getElem hi, placesP_append]
 congr 1
 simp only [zb4, List.append_nil, List.length_take, Nat.zero_add]
 rw [show min i l.length = i by omega]
theorem open_l4 {n : Nat} {x40 : Int} {rec : ((List (List Int)) × Int) → Option ((Option Layout) × Bool)} {l : List Int} {s : Nat} {b : List (List Int)} {k : Nat} (hk : add64 x40 1 = (k : Int)) (hs : s ≤ 6) (hl : l.length ≤ 100) (hb : b.length ≤ 100000) (hn : 1000000 ≤ n) :
  loopF (zg.l4 n x40 rec l (s : Int)) n (b, 0) = rec (b ++ (List.range s).map fun e : Nat => l ++ [(e : Int)], (k : Int)) := by
 have := zL (body := zg.l4 n x40 rec l (s : Int)) (len := s) (st := fun i => (b ++ (List.range i).map fun e : Nat => l ++ [(e : Int)], (i : Int))) (g := fun _ => rec (b ++ (List.range s).map fun e : Nat => l ++ [(e : Int)], (k : Int))) (fun rec' i hi hr => ?_) (fun rec' => ?_) n 0 (Nat.zero_le _) (by omega)
 ·simpa using this
 ·rw [List.range_succ, List.map_append, ← List.append_assoc] at hr
  simp only [zg.l4, lt_nat hi, if_true, zd (show i < 4611686018427387904 by omega)]
  rw [zJ (by simp; omega), Option.bind_some, zJ (by simp; omega), Option.bind_some, zJ (by simp; omega), Option.bind_some]
  exact hr
 ·simp only [zg.l4, ge_nat (Nat.le_refl s), Bool.false_eq_true, if_false, hk]
theorem open_l3 {n : Nat} {m : Model} {L : List (List Int)} {x34 x36 : Int} {rec : ((List (List Int)) × Int) → Option ((Option Layout) × Bool)} {s k : Nat} (hk : add64 x34 1 = (k : Int)) (hx : idx m.sorts x36 = some (s : Int)) (hs : s ≤ 6) (hl : ∀ l ∈ L, l.length ≤ 100) (hL : L.length ≤ 1000) (hn : 1000000 ≤ n) :
  loopF (zg.l3 n m L x34 rec x36) n ([], 0) = rec (stepT s L, (k : Int)) := by
 have := zL (body := zg.l3 n m L x34 rec x36) (len := L.length) (st := fun i => (stepT s (L.take i), (i : Int))) (g := fun _ => rec (stepT s L, (k : Int))) (fun rec' i hi hr => ?_) (fun rec' => ?_) n 0 (Nat.zero_le _) (by omega)
 ·simpa [stepT] using this
 ·rw [stepT_snoc hi] at hr
  simp only [zg.l3, zo hi, if_true, za hi, Option.bind_some, hx]
  have hlen : (stepT s (L.take i)).length ≤ 100000 := by
   rw [stepT_len, List.length_take]
   have : min i L.length * s ≤ 1000 * 6 := Nat.mul_le_mul (by omega) hs
   omega
  rw [open_l4 (k := i + 1) (zd (by omega)) hs (hl _ (List.getElem_mem hi)) hlen hn]
  exact hr
 ·simp only [zg.l3, zaN, Bool.false_eq_true, if_false, hk, List.take_length]
theorem open_l5 {n : Nat} {i : Nat} {rec : ((List Place) × (List Place) × Int) → Option ((Option Layout) × Bool)} {t : Table} {L : List (List Int)} {b1 b2 : List Place} (hi : i < 1000000) (hL : L.length ≤ 1000) (h1 : b1.length ≤ 100000) (h2 : b2.length ≤ 100000) (hn : 1000000 ≤ n) :
  loopF (zg.l5 n (i : Int) rec t L) n (b1, b2, 0) = rec (b1 ++ (if decide (t.kind ≤ 1) = true then placeP i L else []), b2 ++ (if decide (t.kind ≤ 1) = false then placeP i L else []), ((i + 1 : Nat) : Int)) := by
 cases hk : decide (t.kind ≤ 1) with
 | true =>
  simp only [if_true, Bool.true_eq_false, if_false, List.append_nil]
  have := zL (body := zg.l5 n (i : Int) rec t L) (len := L.length) (st := fun k => (b1 ++ placeP i (L.take k), b2, (k : Int))) (g := fun _ => rec (b1 ++ placeP i L, b2, ((i + 1 : Nat) : Int))) (fun rec' k hk' hr => ?_) (fun rec' => ?_) n 0 (Nat.zero_le _) (by omega)
  ·simpa [placeP] using this
  ·simp only [placeP] at hr ⊢
   rw [← map_take_snoc hk', ← List.append_assoc] at hr
   simp only [zg.l5, jn, zo hk', if_true, za hk', Option.bind_some, hk, zd (show k < 4611686018427387904 by omega)]
   rw [zJ (by simp; omega), Option.bind_some]
   exact hr
  ·simp only [zg.l5, zaN, Bool.false_eq_true, if_false, List.take_length, zd (show i < 4611686018427387904 by omega)]
 | false =>
  simp only [Bool.false_eq_true, if_true, if_false, List.append_nil]
  have := zL (body := zg.l5 n (i : Int) rec t L) (len := L.length) (st := fun k => (b1, b2 ++ placeP i (L.take k), (k : Int))) (g := fun _ => rec (b1, b2 ++ placeP i L, ((i + 1 : Nat) : Int))) (fun rec' k hk' hr => ?_) (fun rec' => ?_) n 0 (Nat.zero_le _) (by omega)
  ·simpa [placeP] using this
  ·simp only [placeP] at hr ⊢
   rw [← map_take_snoc hk', ← List.append_assoc] at hr
   simp only [zg.l5, jn, zo hk', if_true, za hk', Option.bind_some, hk, Bool.false_eq_true, if_false, zd (show k < 4611686018427387904 by omega)]
   rw [zJ (by simp; omega), Option.bind_some]
   exact hr
  ·simp only [zg.l5, zaN, Bool.false_eq_true, if_false, List.take_length, zd (show i < 4611686018427387904 by omega)]
theorem tuplesF_bound {sizes : List Int} (hs : sizes.all zb1 = true) : ∀ (cols : List Int) (L : List (List Int)) (A k : Nat), cols.all (colOK sizes) = true → L.length ≤ A → (∀ l ∈ L, l.length = k) → (tuplesF sizes cols L).length ≤ A * 6 ^ cols.length ∧ ∀ l ∈ tuplesF sizes cols L, l.length = k + cols.length
 | [], L, A, k, _, h1, h2 => by simpa [tuplesF] using ⟨h1, h2⟩
 | c :: cols, L, A, k, hc, h1, h2 => by
  simp only [List.all_cons, Bool.and_eq_true] at hc
  have hz := sizeAt_ne hs hc.1
  have hlen : (stepT (sizeAt sizes c).toNat L).length ≤ A * 6 := by
   rw [stepT_len]; exact Nat.mul_le_mul h1 (by omega)
  obtain ⟨p1, p2⟩ := tuplesF_bound hs cols (stepT (sizeAt sizes c).toNat L) (A * 6) (k + 1) hc.2 hlen (stepT_mem h2)
  simp only [tuplesF, List.length_cons]
  refine ⟨?_, fun l hl => ?_⟩
  ·rw [Nat.pow_succ, Nat.mul_comm (6 ^ cols.length) 6, ← Nat.mul_assoc]; exact p1
  ·rw [p2 l hl]; omega
theorem tuplesP_bound {sizes cols : List Int} (hs : sizes.all zb1 = true) (hc : cols.all (colOK sizes) = true) (h3 : cols.length ≤ 3) : (zc0 sizes cols).length ≤ 216 ∧ ∀ l ∈ zc0 sizes cols, l.length = cols.length := by
 obtain ⟨p1, p2⟩ := tuplesF_bound hs cols [[]] 1 0 hc (by simp) (by simp)
 refine ⟨Nat.le_trans p1 ?_, fun l hl => by simpa using p2 l hl⟩
 have : 6 ^ cols.length ≤ 6 ^ 3 := Nat.pow_le_pow_right (by decide) h3
 omega
theorem open_l2 {n : Nat} {m : Model} {b1 b2 : List Place} {i : Nat} {rec : ((List Place) × (List Place) × Int) → Option ((Option Layout) × Bool)} {t : Table} (hs : m.sorts.all zb1 = true) (hc : t.columns.all (colOK m.sorts) = true) (h3 : t.columns.length ≤ 3) (hi : i < 1000000) (h1 : b1.length ≤ 100000) (h2 : b2.length ≤ 100000) (hn : 1000000 ≤ n) :
  loopF (zg.l2 n m b1 b2 (i : Int) rec t) n ([[]], 0) = rec (b1 ++ (if decide (t.kind ≤ 1) = true then placeP i (zc0 m.sorts t.columns) else []), b2 ++ (if decide (t.kind ≤ 1) = false then placeP i (zc0 m.sorts t.columns) else []), ((i + 1 : Nat) : Int)) := by
 have hpre : ∀ k, (t.columns.take k).all (colOK m.sorts) = true := fun k => List.all_eq_true.2 fun c hm => List.all_eq_true.1 hc c (List.mem_of_mem_take hm)
 have := zL (body := zg.l2 n m b1 b2 (i : Int) rec t) (len := t.columns.length) (st := fun k => (zc0 m.sorts (t.columns.take k), (k : Int))) (g := fun _ => rec (b1 ++ (if decide (t.kind ≤ 1) = true then placeP i (zc0 m.sorts t.columns) else []), b2 ++ (if decide (t.kind ≤ 1) = false then placeP i (zc0 m.sorts t.columns) else []), ((i + 1 : Nat) : Int))) (fun rec' k hk hr => ?_) (fun rec' => ?_) n 0 (Nat.zero_le _) (by omega)
 ·simpa [zc0, tuplesF] using this
 ·have hcol := List.all_eq_true.1 hc _ (List.getElem_mem hk)
  have hz := sizeAt_ne hs hcol
  obtain ⟨p1, p2⟩ := tuplesP_bound hs (hpre k) (by simp; omega)
  have hsz : idx m.sorts t.columns[k] = some (((sizeAt m.sorts t.columns[k]).toNat : Nat) : Int) := by
   rw [idx_col hcol]
   unfold sizeAt at hz ⊢
   congr 1; omega
  simp only [zg.l2, zo hk, if_true, za hk, Option.bind_some]
  rw [open_l3 (k := k + 1) (zd (by omega)) hsz (by omega) (fun l hl => by rw [p2 l hl]; simp; omega) (by omega) hn, ← hr]
  congr 2
  unfold zc0
  rw [List.take_succ_eq_append_getElem hk, tuplesF_append]
  rfl
 ·obtain ⟨p1, -⟩ := tuplesP_bound hs hc h3
  simp only [zg.l2, zaN, Bool.false_eq_true, if_false, List.take_length]
  exact open_l5 hi (by omega) h1 h2 hn
theorem placesP_len {sizes : List Int} {s : Bool} : ∀ {l : List Table} {i : Nat}, (∀ t ∈ l, (zc0 sizes t.columns).length ≤ 216) → (zb4 sizes s l i).length ≤ l.length * 216
 | [], _, _ => by simp [zb4]
 | t :: l, i, h => by
  have ih := placesP_len (s := s) (l := l) (i := i + 1) fun x hx => h x (by simp [hx])
  have ht := h t (by simp)
  simp only [zb4, List.length_append, List.length_cons]
  split
  ·simp only [placeP, List.length_map]; omega
  ·simp only [List.length_nil]; omega
def layoutM (m : Model) : Layout := ⟨m, zb4 m.sorts true m.tables 0, zb4 m.sorts false m.tables 0⟩
theorem symmetry_open_eq {n : Nat} {m : Model} (hF : Fuel n) (hS : SmallM m) : zg n m = some (if validP m = true then (some (layoutM m), true) else (none, false)) := by
 have hn := hF.big
 have htl := hS.tables
 unfold zg
 rw [model_Valid_eq hF hS, Option.bind_some]
 cases hv : validP m with
 | false => simp
 | true =>
  have hV := validP_iff.1 hv
  obtain ⟨l1, l2, l3, l4⟩ := zbQ hV.lay
  have hb : ∀ t ∈ m.tables, (zc0 m.sorts t.columns).length ≤ 216 := fun t ht => (tuplesP_bound l3 (l4 t ht).2.2.2.1 (l4 t ht).2.2.1).1
  rw [if_neg (by simp), if_pos rfl]
  have := zL (body := zg.l1 n m) (len := m.tables.length) (st := fun i => (zb4 m.sorts true (m.tables.take i) 0, zb4 m.sorts false (m.tables.take i) 0, (i : Int))) (g := fun _ => some (some (layoutM m), true)) (fun rec i hi hr => ?_) (fun rec => ?_) n 0 (Nat.zero_le _) (by omega)
  ·simpa [zb4] using this
  ·have hmem := List.getElem_mem hi
   obtain ⟨-, -, c1, c2, -⟩ := l4 _ hmem
   have hA := placesP_len (s := true) (l := m.tables.take i) (i := 0) fun t ht => hb t (List.mem_of_mem_take ht)
   have hB := placesP_len (s := false) (l := m.tables.take i) (i := 0) fun t ht => hb t (List.mem_of_mem_take ht)
   simp only [List.length_take] at hA hB
   rw [placesP_snoc hi, placesP_snoc hi] at hr
   simp only [zg.l1, zo hi, if_true, za hi, Option.bind_some]
   rw [open_l2 l3 c2 c1 (by omega) (by omega) (by omega) (by omega)]
   exact hr
  ·simp [zg.l1, layoutM]
def questP (m : Model) (q : Question) : Bool :=
 (((decide (0 ≤ q.e) && decide (q.e < (m.actions.length : Int))) && (decide (0 ≤ q.f) && decide (q.f < (m.actions.length : Int)))) && decide (0 ≤ q.target.index)) &&
 (if q.target.hold = true then decide (q.target.index < (((idx m.actions q.e).getD default).effect.hold.length : Int)) else decide (q.e ≤ q.f) && decide (q.target.index < (m.constraints.length : Int)))
theorem quest_body {m : Model} {q : Question} : (if (((((decide (q.e < 0)) || (decide (q.f < 0))) || (decide ((m.actions.length : Int) ≤ q.e))) || (decide ((m.actions.length : Int) ≤ q.f))) || (decide (q.target.index < 0))) = true then some false
 else if q.target.hold = true then (idx m.actions q.e).bind fun x => some (decide (q.target.index < (x.effect.hold.length : Int))) else some ((decide (q.e ≤ q.f)) && (decide (q.target.index < (m.constraints.length : Int))))) = some (questP m q) := by
 unfold questP
 by_cases h : ((0 ≤ q.e ∧ q.e < (m.actions.length : Int)) ∧ (0 ≤ q.f ∧ q.f < (m.actions.length : Int))) ∧ 0 ≤ q.target.index
 ·rw [if_neg (by simp; omega)]
  obtain ⟨a, ha⟩ := zbr h.1.1.1 h.1.1.2
  rw [ha]
  simp only [h, decide_true, Bool.and_self, Bool.true_and, Option.bind_some, Option.getD_some]
  split <;> rfl
 ·rw [if_pos (by simp; omega)]
  have : (((decide (0 ≤ q.e) && decide (q.e < (m.actions.length : Int))) && (decide (0 ≤ q.f) && decide (q.f < (m.actions.length : Int)))) && decide (0 ≤ q.target.index)) = false := by
   rw [← Bool.not_eq_true]
   simp only [Bool.and_eq_true, decide_eq_true_eq]
   exact h
  rw [this, Bool.false_and]
theorem symmetry_Valid_eq {n : Nat} {m : Model} {q : Question} (hF : Fuel n) (hS : SmallM m) : zcq n m q = some (validP m && questP m q) := by
 unfold zcq
 rw [symmetry_open_eq hF hS, Option.bind_some]
 cases validP m with
 | false => simp [grd]
 | true =>
  have : za0 n (layoutM m) q = some (questP m q) := quest_body
  simp [grd, this]
end Go.Proofs.YtcagdmegicijlaaGreatDoor
namespace Go.Proofs.YtcagdmegicijlaaGreatDoor
open Go Go.RowKit
theorem awake_spec : law22_awake 18446744073709551616 = some true := by decide +kernel
end Go.Proofs.YtcagdmegicijlaaGreatDoor
namespace Go.Proofs.YtcagdmegicijlaaGreatDoor
open Go Go.RowKit
theorem keywords_spec : (za6 18446744073709551616).map (fun m => m.es.map (fun e => e.2)) = some (kwL.map fun k => (k, true)) := by decide +kernel
theorem fuel_N : Fuel 18446744073709551616 := by
 refine ⟨by decide, ?_⟩
 have h := keywords_spec
 cases hk : za6 18446744073709551616 with
 | none => rw [hk] at h; cases h
 | some m =>
  rw [hk] at h
  simp only [Option.map_some, Option.some.injEq] at h
  refine ⟨m, rfl, fun e he => ?_, fun k => ?_⟩
  ·have : e.2 ∈ m.es.map (fun e => e.2) := List.mem_map_of_mem he
   rw [h] at this
   simp only [List.mem_map] at this
   obtain ⟨x, -, hx⟩ := this
   rw [← hx]
  ·have : m.es.map (fun e => e.2.1) = kwL := by
    have e1 : m.es.map (fun e => e.2.1) = (m.es.map (fun e => e.2)).map (·.1) := by rw [List.map_map]; rfl
    rw [e1, h, List.map_map]
    exact List.map_id kwL
   rw [this]
theorem deltaP_spec {K : Nat} : ∀ (l : List Change) (last : Int), deltaP K last l = true → (∀ d ∈ l, last < d.cell ∧ d.cell < (K : Int) ∧ d.add ≠ 0 ∧ -1000000000 ≤ d.add ∧ d.add ≤ 1000000000) ∧ (l.map (·.cell)).Nodup
 | [], _, _ => by simp
 | d :: l, last, h => by
  simp only [deltaP, zaM, Bool.and_eq_true, decide_eq_true_eq, bne_iff_ne] at h
  obtain ⟨⟨⟨⟨h1, h2⟩, h3⟩, h4, h5⟩, h6⟩ := h
  obtain ⟨p1, p2⟩ := deltaP_spec l d.cell h6
  refine ⟨fun x hx => ?_, ?_⟩
  ·simp only [List.mem_cons] at hx
   rcases hx with rfl | hx
   ·exact ⟨h1, h2, h3, h4, h5⟩
   ·obtain ⟨q1, q2⟩ := p1 x hx
    exact ⟨by omega, q2⟩
  ·simp only [List.map_cons, List.nodup_cons, List.mem_map, not_exists, not_and]
   exact ⟨fun x hx e => by have := (p1 x hx).1; omega, p2⟩
theorem valid_act {m : Model} (hV : ValidM m) {a : Action} (ha : a ∈ m.actions) : effP m (zQ m.sorts true m.tables).length a.effect = true ∧ (0 ≤ a.operation ∧ a.operation < (m.operations.length : Int)) := by
 have h := hV.acts
 simp only [actsP, Bool.and_eq_true] at h
 obtain ⟨i, hi, rfl⟩ := List.mem_iff_getElem.1 ha
 have := allR_0.1 h.2 i hi
 simp only [za hi, Option.getD_some, actP, Bool.and_eq_true, decide_eq_true_eq] at this
 exact ⟨this.2, this.1.1.1.1⟩
theorem valid_con {m : Model} (hV : ValidM m) {c : Constraint} (hc : c ∈ m.constraints) : plainP (zQ m.sorts true m.tables).length c = true ∨ acyP m c = true := by
 have h := hV.cons
 simp only [consP, Bool.and_eq_true] at h
 obtain ⟨i, hi, rfl⟩ := List.mem_iff_getElem.1 hc
 have := allR_0.1 h.2 i hi
 simp only [za hi, Option.getD_some, conP, Bool.and_eq_true, Bool.or_eq_true] at this
 exact this.1.2
theorem acy_size {m : Model} (hV : ValidM m) {c : Constraint} (h : acyP m c = true) : c.kind = 1 ∧ 1 ≤ c.size ∧ c.size ≤ 6 := by
 obtain ⟨l1, l2, l3, l4⟩ := zbQ hV.lay
 simp only [acyP, graphP, Bool.and_eq_true, List.any_eq_true, beq_iff_eq] at h
 obtain ⟨h1, -, t, ht, hg⟩ := h
 simp only [graphT, Bool.and_eq_true, beq_iff_eq] at hg
 obtain ⟨⟨g1, g2⟩, ⟨g3, g4⟩, g5⟩ := hg
 obtain ⟨⟨x, hx⟩, -, z, hz⟩ := graph_cols (l4 t ht).2.2.2.1 g2
 refine ⟨h1, ?_⟩
 rw [hz] at g5
 simp only [Option.getD_some] at g5
 have := List.all_eq_true.1 l3 z (idx_mem hz)
 simp only [zb1, Bool.and_eq_true, decide_eq_true_eq] at this
 omega
theorem questP_spec {m : Model} {q : Question} (h : questP m q = true) : (0 ≤ q.e ∧ q.e < (m.actions.length : Int)) ∧ (0 ≤ q.f ∧ q.f < (m.actions.length : Int)) ∧ 0 ≤ q.target.index ∧ (q.target.hold = true → ∀ a, idx m.actions q.e = some a → q.target.index < (a.effect.hold.length : Int)) ∧ (q.target.hold = false → q.e ≤ q.f ∧ q.target.index < (m.constraints.length : Int)) := by
 simp only [questP, Bool.and_eq_true, decide_eq_true_eq] at h
 obtain ⟨⟨⟨h1, h2⟩, h3⟩, h4⟩ := h
 refine ⟨h1, h2, h3, fun hh a ha => ?_, fun hh => ?_⟩
 ·rw [if_pos hh, ha] at h4
  simpa using h4
 ·rw [if_neg (by simp [hh])] at h4
  simpa using h4
end Go.Proofs.YtcagdmegicijlaaGreatDoor
namespace Go.Proofs.YtcagdmegicijlaaGreatDoor
open Go Go.RowKit
def nextL : List Range → List Int → Option (List Int)
 | r :: rs, x :: xs => match nextL rs xs with
  | some ys => some (x :: ys)
  | none => if x < r.hi then some ((x + 1) :: rs.map (·.lo)) else none
 | _, _ => none
def inBox : List Range → List Int → Bool
 | r :: rs, x :: xs => (decide (r.lo ≤ x) && decide (x ≤ r.hi)) && inBox rs xs
 | [], [] => true
 | _, _ => false
def zcz : List Range → Nat
 | [] => 1
 | r :: rs => (r.hi - r.lo + 1).toNat * zcz rs
def valB : List Range → List Int → Nat
 | r :: rs, x :: xs => (x - r.lo).toNat * zcz rs + valB rs xs
 | _, _ => 0
def leastB (box : List Range) : List Int := box.map (·.lo)
def goodB (box : List Range) : Bool := box.all fun r => decide (r.lo ≤ r.hi) && (decide (-9999 ≤ r.lo) && decide (r.hi ≤ 9999))
theorem inBox_len : ∀ {box : List Range} {s : List Int}, inBox box s = true → s.length = box.length
 | [], [], _ => rfl
 | [], _ :: _, h => by simp [inBox] at h
 | _ :: _, [], h => by simp [inBox] at h
 | _ :: rs, _ :: xs, h => by
  simp only [inBox, Bool.and_eq_true] at h
  simp [inBox_len h.2]
theorem inBox_get : ∀ {box : List Range} {s : List Int} (h : inBox box s = true) (i : Nat) (hi : i < box.length) (hs : i < s.length), box[i].lo ≤ s[i] ∧ s[i] ≤ box[i].hi
 | [], _, _, i, hi, _ => by simp at hi
 | _ :: _, [], h, _, _, _ => by simp [inBox] at h
 | r :: rs, x :: xs, h, 0, _, _ => by
  simp only [inBox, Bool.and_eq_true, decide_eq_true_eq] at h
  exact h.1
 | r :: rs, x :: xs, h, i + 1, hi, hs => by
  simp only [inBox, Bool.and_eq_true] at h
  simpa using inBox_get h.2 i (by simpa using hi) (by simpa using hs)
theorem least_in : ∀ {box : List Range}, goodB box = true → inBox box (leastB box) = true
 | [], _ => rfl
 | r :: rs, h => by
  simp only [goodB, List.all_cons, Bool.and_eq_true, decide_eq_true_eq] at h
  simp only [leastB, List.map_cons, inBox, Bool.and_eq_true, decide_eq_true_eq]
  exact ⟨⟨Int.le_refl _, h.1.1⟩, least_in (by simpa only [goodB] using h.2)⟩
theorem val_lt : ∀ {box : List Range} {s : List Int}, inBox box s = true → goodB box = true → valB box s < zcz box
 | [], [], _, _ => by simp [valB, zcz]
 | [], _ :: _, h, _ => by simp [inBox] at h
 | _ :: _, [], h, _ => by simp [inBox] at h
 | r :: rs, x :: xs, h, hg => by
  simp only [inBox, Bool.and_eq_true, decide_eq_true_eq] at h
  simp only [goodB, List.all_cons, Bool.and_eq_true, decide_eq_true_eq] at hg
  have ih := val_lt h.2 (by simpa only [goodB] using hg.2)
  simp only [valB, zcz]
  have h1 : (x - r.lo).toNat + 1 ≤ (r.hi - r.lo + 1).toNat := by omega
  have h2 := Nat.mul_le_mul_right (zcz rs) h1
  rw [Nat.succ_mul] at h2
  omega
theorem val_least : ∀ (box : List Range), valB box (leastB box) = 0
 | [] => rfl
 | r :: rs => by simp [leastB, valB]; exact val_least rs
theorem next_none_val : ∀ {box : List Range} {s : List Int}, inBox box s = true → goodB box = true → nextL box s = none → valB box s + 1 = zcz box
 | [], [], _, _, _ => rfl
 | [], _ :: _, h, _, _ => by simp [inBox] at h
 | _ :: _, [], h, _, _ => by simp [inBox] at h
 | r :: rs, x :: xs, h, hg, hn => by
  simp only [inBox, Bool.and_eq_true, decide_eq_true_eq] at h
  simp only [goodB, List.all_cons, Bool.and_eq_true, decide_eq_true_eq] at hg
  rw [nextL] at hn
  split at hn
  ·cases hn
  ·rename_i hr
   split at hn
   ·cases hn
   ·have ih := next_none_val h.2 (by simpa only [goodB] using hg.2) hr
    simp only [valB, zcz]
    have h1 : (r.hi - r.lo + 1).toNat = (x - r.lo).toNat + 1 := by omega
    rw [h1, Nat.succ_mul]
    omega
theorem next_some : ∀ {box : List Range} {s t : List Int}, inBox box s = true → goodB box = true → nextL box s = some t → inBox box t = true ∧ valB box t = valB box s + 1
 | [], [], _, _, _, hn => by simp [nextL] at hn
 | [], _ :: _, _, h, _, _ => by simp [inBox] at h
 | _ :: _, [], _, h, _, _ => by simp [inBox] at h
 | r :: rs, x :: xs, t, h, hg, hn => by
  simp only [inBox, Bool.and_eq_true, decide_eq_true_eq] at h
  have hg' := hg
  simp only [goodB, List.all_cons, Bool.and_eq_true, decide_eq_true_eq] at hg
  have hgr : goodB rs = true := by simpa only [goodB] using hg.2
  rw [nextL] at hn
  split at hn
  ·rename_i ys hr
   cases hn
   obtain ⟨p1, p2⟩ := next_some h.2 hgr hr
   simp only [inBox, valB, Bool.and_eq_true, decide_eq_true_eq]
   exact ⟨⟨h.1, p1⟩, by omega⟩
  ·rename_i hr
   split at hn
   ·rename_i hx
    cases hn
    have ih := next_none_val h.2 hgr hr
    have hl := least_in hgr
    have hv := val_least rs
    unfold leastB at hl hv
    simp only [inBox, valB, Bool.and_eq_true, decide_eq_true_eq, hv]
    refine ⟨⟨⟨by omega, by omega⟩, hl⟩, ?_⟩
    have h1 : (x + 1 - r.lo).toNat = (x - r.lo).toNat + 1 := by omega
    rw [h1, Nat.succ_mul]
    omega
   ·cases hn
theorem ref17_Valid_good {n : Nat} {box : List Range} (hg : goodB box = true) (hl : box.length ≤ 100) (hn : 1000000 ≤ n) : zG n box [] = some true := by
 unfold zG
 rw [if_neg (by simp; omega)]
 have := zL (body := zG.l1 n box []) (len := box.length) (st := fun i => (i : Int)) (g := fun _ => some true) (fun rec i hi hr => ?_) (fun rec => ?_) n 0 (Nat.zero_le _) (by omega)
 ·simpa using this
 ·have := List.all_eq_true.1 hg _ (List.getElem_mem hi)
  simp only [Bool.and_eq_true, decide_eq_true_eq] at this
  have h1 : (decide (-1000000 ≤ box[i].lo) && decide (box[i].lo ≤ 1000000)) = true := by simp; omega
  have h2 : (decide (-1000000 ≤ box[i].hi) && decide (box[i].hi ≤ 1000000)) = true := by simp; omega
  simp only [zG.l1, zo hi, if_true, za hi, Option.bind_some, zan, h1, h2, Option.isSome_some, Bool.or_true, grd, Option.getD_some, Bool.not_true, Bool.or_self, Bool.false_eq_true, if_false, zd (show i < 4611686018427387904 by omega), hr]
 ·simp only [zG.l1, zaN, Bool.false_eq_true, if_false]
  rw [loopF_1 (by omega)]
  simp [zG.l2]
theorem ref17_Contains_in {n : Nat} {box : List Range} {s : List Int} (hi : inBox box s = true) (hl : box.length ≤ 100) (hn : 1000000 ≤ n) : zY n box s = some true := by
 have hlen := inBox_len hi
 unfold zY
 rw [if_neg (by simp [hlen])]
 have := zL (body := zY.l1 n box s) (len := box.length) (st := fun i => (i : Int)) (g := fun _ => some true) (fun rec i hlt hr => ?_) (fun rec => ?_) n 0 (Nat.zero_le _) (by omega)
 ·simpa using this
 ·have hs : i < s.length := by omega
  have := inBox_get hi i hlt hs
  have h1 : (decide (box[i].lo ≤ s[i]) && decide (s[i] ≤ box[i].hi)) = true := by simp; omega
  simp only [zY.l1, zo hlt, if_true, za hlt, za hs, Option.bind_some, zan, h1, Bool.not_true, Bool.false_eq_true, if_false, zd (show i < 4611686018427387904 by omega), hr]
 ·simp [zY.l1]
theorem nextL_drop : ∀ (i : Nat) {box : List Range} {s ys : List Int}, s.length = box.length → i ≤ box.length → nextL (box.drop i) (s.drop i) = some ys → nextL box s = some (s.take i ++ ys)
 | 0, _, _, _, _, _, h => by simpa using h
 | i + 1, box, s, ys, hl, hi, h => by
  have hb : i < box.length := by omega
  have hs : i < s.length := by omega
  have : nextL (box.drop i) (s.drop i) = some (s[i] :: ys) := by
   rw [zr hb, zr hs, nextL, h]
  rw [nextL_drop i hl (by omega) this, List.take_succ_eq_append_getElem hs, List.append_assoc]
  rfl
theorem ref17_Next_eq {n : Nat} {box : List Range} {s : List Int} (hg : goodB box = true) (hi : inBox box s = true) (hl : box.length ≤ 100) (hn : 1000000 ≤ n) :
  za8 n box s = some (match nextL box s with | some ys => (ys, true) | none => ([], false)) := by
 have hlen := inBox_len hi
 unfold za8
 rw [ref17_Valid_good hg hl hn, ref17_Contains_in hi hl hn]
 simp only [Option.bind_some, Option.isSome_some, Bool.or_true, grd, if_true, Option.getD_some, Bool.not_true, Bool.or_self, Bool.false_eq_true, if_false]
 have main : ∀ (m k : Nat), k < m → k ≤ box.length → nextL (box.drop k) (s.drop k) = none → loopF (za8.l1 n box s) m ((k : Int) - 1) = some (match nextL box s with | some ys => (ys, true) | none => ([], false)) := fun m => by
  induction m with
  | zero => intro k h; omega
  | succ m ih =>
   intro k hk hkl hnone
   simp only [loopF, za8.l1]
   cases k with
   | zero =>
    simp only [List.drop_zero] at hnone
    rw [hnone]; simp
   | succ k =>
    have hkb : k < box.length := by omega
    have hks : k < s.length := by omega
    have e : ((k + 1 : Nat) : Int) - 1 = (k : Int) := by omega
    have hd : decide (0 ≤ (k : Int)) = true := by simp
    simp only [e, hd, if_true, za hkb, za hks, Option.bind_some]
    by_cases hx : s[k] < box[k].hi
    ·rw [if_pos (by simpa using hx)]
     have hsome : nextL (box.drop k) (s.drop k) = some ((s[k] + 1) :: (box.drop (k + 1)).map (·.lo)) := by
      rw [zr hkb, zr hks, nextL, hnone]
      simp [hx]
     rw [nextL_drop k hlen (by omega) hsome]
     generalize hR : s.take k ++ (s[k] + 1) :: (box.drop (k + 1)).map (·.lo) = R
     have hRl : R.length = box.length := by rw [← hR]; simp; omega
     have := zL (body := za8.l2 n box s (k : Int)) (len := box.length) (st := fun j => (R.take j, (j : Int))) (g := fun _ => some (R, true)) (fun rec j hj hr => ?_) (fun rec => ?_) n 0 (Nat.zero_le _) (by omega)
     ·simpa using this
     ·have hjR : j < R.length := by omega
      have hjs : j < s.length := by omega
      rw [List.take_succ_eq_append_getElem hjR] at hr
      simp only [za8.l2, jn, zo hj, if_true, zd (show j < 4611686018427387904 by omega)]
      by_cases h1 : j < k
      ·have hel : R[j] = s[j] := by
        simp only [← hR]
        rw [List.getElem_append_left (by simp; omega)]; simp
       rw [if_pos (by simpa using h1), za hjs, Option.bind_some, zJ (by simp; omega), Option.bind_some]
       rw [hel] at hr
       exact hr
      ·rw [if_neg (by simpa using h1)]
       by_cases h2 : j = k
       ·subst h2
        have hel : R[j] = s[j] + 1 := by
         simp only [← hR]
         rw [List.getElem_append_right (by simp; omega)]
         simp [show min j s.length = j by omega]
        have hb := inBox_get hi j hkb hjs
        have hbd := List.all_eq_true.1 hg _ (List.getElem_mem hkb)
        simp only [Bool.and_eq_true, decide_eq_true_eq] at hbd
        have hadd : add64 s[j] 1 = s[j] + 1 := by unfold add64; rw [zbX (by omega) (by omega)]
        rw [if_pos (by simp), za hjs, Option.bind_some, hadd, zJ (by simp; omega), Option.bind_some]
        rw [hel] at hr
        exact hr
       ·have hel : R[j] = box[j].lo := by
         simp only [← hR]
         rw [List.getElem_append_right (by simp; omega)]
         have e2 : j - (s.take k).length = (j - k - 1) + 1 := by simp; omega
         simp only [e2, List.getElem_cons_succ, List.getElem_map, List.getElem_drop]
         congr 2; omega
        rw [if_neg (by simp; omega), za hj, Option.bind_some, zJ (by simp; omega), Option.bind_some]
        rw [hel] at hr
        exact hr
     ·simp only [za8.l2, zaN, Bool.false_eq_true, if_false]
      rw [List.take_of_length_le (by omega)]
    ·rw [if_neg (by simpa using hx)]
     have hsub : sub64 (k : Int) 1 = (k : Int) - 1 := by unfold sub64; rw [zbX (by omega) (by omega)]
     rw [hsub]
     refine ih k (by omega) (by omega) ?_
     rw [zr hkb, zr hks, nextL, hnone]
     simp [hx]
 rw [sub64_len (by omega)]
 refine main n box.length (by omega) (Nat.le_refl _) ?_
 rw [List.drop_length, List.drop_eq_nil_of_le (by omega)]
 rfl
theorem ref17_Least_eq {n : Nat} {box : List Range} (hl : box.length ≤ 100) (hn : 1000000 ≤ n) : zbL n box = some (leastB box) := by
 unfold zbL
 have := zL (body := zbL.l1 n box) (len := box.length) (st := fun i => ((box.take i).map (·.lo), (i : Int))) (g := fun _ => some (leastB box)) (fun rec i hi hr => ?_) (fun rec => ?_) n 0 (Nat.zero_le _) (by omega)
 ·simpa using this
 ·rw [← map_take_snoc hi] at hr
  simp only [zbL.l1, zo hi, if_true, za hi, Option.bind_some, zd (show i < 4611686018427387904 by omega)]
  rw [zJ (by simp; omega), Option.bind_some]
  exact hr
 ·simp [zbL.l1, leastB]
theorem states_all {n : Nat} {box : List Range} {f : List Int → Option Bool} (hg : goodB box = true) (hl : box.length ≤ 100) (hn : 1000000 ≤ n) (hc : zcz box < n) (hf : ∀ s, inBox box s = true → f s = some true) :
  loopF (zbp.l1 n f box) n (leastB box, true) = some true := by
 refine loopF_M (body := zbp.l1 n f box) (fun s => if s.2 = true then zcz box - valB box s.1 else 0) (fun s => s.2 = true → inBox box s.1 = true) (fun _ o => o = some true) (fun rec s hI hr => ?_) n _ (fun _ => least_in hg) ?_
 ·obtain ⟨s, b⟩ := s
  simp only [zbp.l1]
  cases b with
  | false => simp
  | true =>
   have hin : inBox box s = true := hI rfl
   have hv := val_lt hin hg
   simp only [if_true, hf s hin, Option.bind_some, Bool.not_true, Bool.false_eq_true, if_false, ref17_Next_eq hg hin hl hn]
   cases hnx : nextL box s with
   | none => exact hr ([], false) (fun h => by cases h) (by
    show 0 < zcz box - valB box s
    omega)
   | some t =>
    obtain ⟨p1, p2⟩ := next_some hin hg hnx
    exact hr (t, true) (fun _ => p1) (by
     have : valB box s < zcz box := hv
     show zcz box - valB box t < zcz box - valB box s
     omega)
 ·simp only [if_true]
  omega
end Go.Proofs.YtcagdmegicijlaaGreatDoor
namespace Go.Proofs.YtcagdmegicijlaaGreatDoor
open Go Go.RowKit
def termOK (k : Nat) (t : Term) : Prop := 0 ≤ t.cell ∧ t.cell < (k : Int) ∧ -1000 ≤ t.factor ∧ t.factor ≤ 1000
theorem mul_bd {f x B : Int} (h1 : -1000 ≤ f) (h2 : f ≤ 1000) (h3 : -B ≤ x) (h4 : x ≤ B) : -(1000 * B) ≤ f * x ∧ f * x ≤ 1000 * B := by
 have hB : 0 ≤ B := by omega
 have a1 : f.natAbs ≤ 1000 := by omega
 have a2 : x.natAbs ≤ B.toNat := by omega
 have a3 : (f * x).natAbs ≤ 1000 * B.toNat := by rw [Int.natAbs_mul]; exact Nat.mul_le_mul a1 a2
 omega
end Go.Proofs.YtcagdmegicijlaaGreatDoor
namespace Go.Proofs.YtcagdmegicijlaaGreatDoor
open Go Go.RowKit
structure GraphIn (c : Constraint) (s : List Int) (size : Nat) : Prop where
 sz : c.size = (size : Int)
 pos : 1 ≤ size
 six : size ≤ 6
 first : 0 ≤ c.first
 fits : c.first + (size * size : Nat) ≤ (s.length : Int)
 len : s.length ≤ 1000
end Go.Proofs.YtcagdmegicijlaaGreatDoor
namespace Go.Proofs.YtcagdmegicijlaaGreatDoor
open Go Go.RowKit
inductive ConIn (c : Constraint) (k : Nat) : Prop
 | row : c.kind = 0 → (∀ t ∈ c.row.terms, termOK k t) → c.row.terms.length ≤ 1000 → (-4000000000 ≤ c.row.bound ∧ c.row.bound ≤ 4000000000) → ConIn c k
 | graph (size : Nat) : c.kind = 1 → c.size = (size : Int) → 1 ≤ size → size ≤ 6 → 0 ≤ c.first → c.first + (size * size : Nat) ≤ (k : Int) → ConIn c k
end Go.Proofs.YtcagdmegicijlaaGreatDoor
namespace Go.Proofs.YtcagdmegicijlaaGreatDoor
open Go Go.RowKit
theorem range_snoc {β : Type} (g : Nat → List β) (k : Nat) : (List.range (k + 1)).flatMap g = (List.range k).flatMap g ++ g k := by
 rw [List.range_succ, List.flatMap_append]; simp
end Go.Proofs.YtcagdmegicijlaaGreatDoor
namespace Go.Proofs.YtcagdmegicijlaaGreatDoor
open Go Go.RowKit
def boxM (m : Model) : List Range := zQ m.sorts true m.tables
theorem rangesP_mem {sizes : List Int} {s : Bool} : ∀ {l : List Table} {r : Range}, r ∈ zQ sizes s l → ∃ t ∈ l, r = t.range
 | [], r, h => by simp [zQ] at h
 | t :: l, r, h => by
  rw [zQ] at h
  split at h
  ·rcases List.mem_append.1 h with h | h
   ·exact ⟨t, by simp, (List.mem_replicate.1 h).2⟩
   ·obtain ⟨u, hu, e⟩ := rangesP_mem h
    exact ⟨u, by simp [hu], e⟩
  ·obtain ⟨u, hu, e⟩ := rangesP_mem h
   exact ⟨u, by simp [hu], e⟩
theorem box_good {m : Model} (hL : zbC m.sorts m.tables = true) : goodB (boxM m) = true := by
 unfold goodB
 rw [List.all_eq_true]
 intro r hr
 obtain ⟨t, ht, rfl⟩ := rangesP_mem hr
 have hL' := hL
 simp only [zbC, Bool.and_eq_true] at hL'
 have := layP_tab hL'.2 t ht
 simp only [tabP, Bool.and_eq_true] at this
 have hrg := this.2
 unfold rangedP at hrg
 split at hrg
 ·simp only [Bool.and_eq_true, decide_eq_true_eq] at hrg ⊢
  omega
 ·simp only [decide_eq_true_eq] at hrg
  rw [hrg]; decide
theorem lay_fit {sizes : List Int} (hs : sizes.all zb1 = true) : ∀ {l : List Table} {seen : List (List UInt8)} {a b : Int}, layP sizes seen a b l = true → 0 ≤ a → a + 216 * (l.length : Int) ≤ 1000000 → ∀ t ∈ l, zbA t.kind = true → a ≤ t.first ∧ t.first + z0 sizes t.columns 1 ≤ a + ((zQ sizes true l).length : Int)
 | [], _, _, _, _, _, _, t, ht, _ => by simp at ht
 | x :: l, seen, a, b, h, ha, hb, t, ht, hst => by
  have htab := layP_tab h x (by simp)
  simp only [tabP, Bool.and_eq_true, decide_eq_true_eq] at htab
  have hw := widthP_bound hs htab.1.2.2 htab.1.2.1
  simp only [layP, Bool.and_eq_true] at h
  have h2 := h.2
  simp only [List.length_cons] at hb
  have hcast : ((l.length + 1 : Nat) : Int) = (l.length : Int) + 1 := by omega
  rw [hcast] at hb
  by_cases hx : zbA x.kind = true
  ·rw [if_pos hx] at h2
   simp only [Bool.and_eq_true, beq_iff_eq] at h2
   have hadd : add64 a (z0 sizes x.columns 1) = a + z0 sizes x.columns 1 := by unfold add64; exact zbX (by omega) (by omega)
   rw [hadd] at h2
   have hlen : ((zQ sizes true (x :: l)).length : Int) = z0 sizes x.columns 1 + ((zQ sizes true l).length : Int) := by
    rw [zQ, hx, if_pos (by rfl), List.length_append, List.length_replicate]; omega
   rw [hlen]
   rcases List.mem_cons.1 ht with rfl | ht
   ·omega
   ·have := lay_fit hs h2.2 (by omega) (by omega) t ht hst
    omega
  ·rw [if_neg hx] at h2
   simp only [Bool.and_eq_true, beq_iff_eq] at h2
   have hx' : zbA x.kind = false := by simpa using hx
   have hlen : (zQ sizes true (x :: l)) = zQ sizes true l := by
    rw [zQ, hx', if_neg (by decide)]
   rw [hlen]
   rcases List.mem_cons.1 ht with rfl | ht
   ·rw [hst] at hx'; cases hx'
   ·exact lay_fit hs h2.2 ha (by omega) t ht hst
theorem rowP_terms {K : Nat} : ∀ {l : List Term} {last : Int}, rowP K last l = true → -1 ≤ last → ∀ t ∈ l, termOK K t
 | [], _, _, _, t, ht => by simp at ht
 | x :: l, last, h, hl, t, ht => by
  simp only [rowP, zaM, Bool.and_eq_true, decide_eq_true_eq] at h
  rcases List.mem_cons.1 ht with rfl | ht
  ·exact ⟨by omega, h.1.1.1.2, by omega, by omega⟩
  ·exact rowP_terms h.2 (by omega) t ht
theorem con_in {m : Model} (hS : SmallM m) (hV : ValidM m) {c : Constraint} (hc : c ∈ m.constraints) : ConIn c (boxM m).length := by
 have hl := hS.con c hc
 rcases valid_con hV hc with h | h
 ·simp only [plainP, Bool.and_eq_true, beq_iff_eq] at h
  have h2 := h.2
  simp only [rowOK, zaM, Bool.and_eq_true, decide_eq_true_eq] at h2
  exact .row h.1.1.1 (rowP_terms h2.1 (by decide)) (by omega) (by omega)
 ·obtain ⟨l1, l2, l3, l4⟩ := zbQ hV.lay
  obtain ⟨hk, s1, s2⟩ := acy_size hV h
  have hL := hV.lay
  simp only [zbC, Bool.and_eq_true] at hL
  simp only [acyP, graphP, Bool.and_eq_true, List.any_eq_true, beq_iff_eq] at h
  obtain ⟨-, -, t, ht, hg⟩ := h
  simp only [graphT, Bool.and_eq_true, beq_iff_eq] at hg
  obtain ⟨⟨g1, g2⟩, ⟨g3, g4⟩, g5⟩ := hg
  have hfit := lay_fit l3 hL.2 (Int.le_refl _) (by omega) t ht (by simp [zbA, g1])
  have hcols := (l4 t ht).2.2.2.1
  obtain ⟨⟨x, hx⟩, ⟨y, hy⟩, -⟩ := graph_cols hcols g2
  obtain ⟨p, q, hpq⟩ : ∃ p q, t.columns = [p, q] := by
   match hcs : t.columns with
   | [] => rw [hcs] at g2; simp at g2
   | [_] => rw [hcs] at g2; simp at g2
   | [p, q] => exact ⟨p, q, rfl⟩
   | _ :: _ :: _ :: _ => rw [hcs] at g2; simp at g2; omega
  have hp0 : idx t.columns 0 = some p := by rw [hpq]; rfl
  have hq0 : idx t.columns 1 = some q := by rw [hpq]; rfl
  rw [hp0, hq0] at g3
  rw [hp0] at g5
  simp only [Option.getD_some] at g3 g5
  subst g3
  have hcp := List.all_eq_true.1 hcols p (by rw [hpq]; simp)
  rw [idx_col hcp] at g5
  simp only [Option.getD_some] at g5
  have hw : z0 m.sorts t.columns 1 = c.size * c.size := by
   rw [hpq]
   simp only [z0, g5]
   have : c.size * c.size ≤ 6 * 6 := Int.mul_le_mul s2 s2 (by omega) (by omega)
   have h0 : 0 ≤ c.size * c.size := Int.mul_nonneg (by omega) (by omega)
   unfold mul64
   rw [Int.one_mul, zbX (x := c.size) (by omega) (by omega), zbX (by omega) (by omega)]
  rw [hw] at hfit
  have hsz : c.size = ((c.size.toNat : Nat) : Int) := by omega
  refine .graph c.size.toNat hk hsz (by omega) (by omega) (by omega) ?_
  have e : ((c.size.toNat * c.size.toNat : Nat) : Int) = c.size * c.size := by rw [Int.natCast_mul, ← hsz]
  rw [e]
  unfold boxM
  omega
def smallD (d : List Change) : Prop := ∀ x ∈ d, -1000000000 ≤ x.add ∧ x.add ≤ 1000000000
theorem added_small {d : List Change} (h : smallD d) (c : Int) : -1000000000 ≤ zct d c ∧ zct d c ≤ 1000000000 := by
 induction d with
 | nil => simp [zct]
 | cons x l ih =>
  simp only [zct]
  split
  ·exact h x (by simp)
  ·exact ih fun y hy => h y (by simp [hy])
def chgP (d : List Change) : List Term → Int
 | [] => 0
 | t :: l => t.factor * zct d t.cell + chgP d l
set_option maxRecDepth 20000 in
theorem change_exact {d : List Change} (hd : smallD d) : ∀ {l : List Term} {s : Int}, (∀ t ∈ l, -1000 ≤ t.factor ∧ t.factor ≤ 1000) → (l.length : Int) ≤ 1000 → -(1000000000000 * (1000 - (l.length : Int))) ≤ s ∧ s ≤ 1000000000000 * (1000 - (l.length : Int)) → zcY (zct d) l s = s + chgP d l
 | [], s, _, _, _ => by simp [zcY, chgP]
 | t :: l, s, ht, hl, hs => by
  have hf := ht t (by simp)
  have ha := added_small hd t.cell
  have hm := mul_bd hf.1 hf.2 ha.1 ha.2
  simp only [List.length_cons] at hl hs
  have hc : ((l.length + 1 : Nat) : Int) = (l.length : Int) + 1 := by omega
  rw [hc] at hl hs
  have e1 : mul64 t.factor (zct d t.cell) = t.factor * zct d t.cell := by unfold mul64; exact zbX (by omega) (by omega)
  have e2 : add64 s (t.factor * zct d t.cell) = s + t.factor * zct d t.cell := by unfold add64; exact zbX (by omega) (by omega)
  rw [zcY, e1, e2, change_exact hd (fun x hx => ht x (by simp [hx])) (by omega) (by omega), chgP]
  omega
theorem change_zero {d : List Change} (hd : smallD d) {l : List Term} (ht : ∀ t ∈ l, -1000 ≤ t.factor ∧ t.factor ≤ 1000) (hl : l.length ≤ 1000) : zcY (zct d) l 0 = chgP d l := by
 rw [change_exact hd ht (by omega) (by omega)]; omega
end Go.Proofs.YtcagdmegicijlaaGreatDoor
namespace Go.Proofs.YtcagdmegicijlaaGreatDoor
open Go Go.RowKit
theorem ref16_Cells_eq {n : Nat} {m : Model} {t : Table} (hc : t.columns.all (colOK m.sorts) = true) (hl : t.columns.length ≤ 1000) (hn : 1000000 ≤ n) : zbO n m t = some (z0 m.sorts t.columns 1) := by
 have := zL (body := zbO.l1 n m t) (len := t.columns.length) (st := fun i => (z0 m.sorts (t.columns.take i) 1, (i : Int))) (g := fun _ => some (z0 m.sorts t.columns 1)) (fun rec i hi hr => ?_) (fun rec => ?_) n 0 (Nat.zero_le _) (by omega)
 ·simpa [zbO, z0] using this
 ·rw [List.take_succ_eq_append_getElem hi, zcM] at hr
  simp only [z0] at hr
  simp only [zbO.l1, zo hi, if_true, za hi, Option.bind_some, idx_col (List.all_eq_true.1 hc _ (List.getElem_mem hi)), zd (show i < 4611686018427387904 by omega), hr]
 ·simp [zbO.l1]
theorem ref22_Box_eq {n : Nat} {m : Model} (hS : SmallM m) (hL : zbC m.sorts m.tables = true) (hn : 1000000 ≤ n) : zbo n m = some (boxM m) := by
 obtain ⟨l1, l2, l3, l4⟩ := zbQ hL
 unfold zbo
 have := zL (body := zbo.l1 n m) (len := m.tables.length) (st := fun i => (zQ m.sorts true (m.tables.take i), (i : Int))) (g := fun _ => some (boxM m)) (fun rec i hi hr => ?_) (fun rec => ?_) n 0 (Nat.zero_le _) (by omega)
 ·simpa [zQ] using this
 ·obtain ⟨-, -, c1, c2, c3, c4⟩ := l4 _ (List.getElem_mem hi)
  have hlen := zcV (sizes := m.sorts) (s := true) (l := m.tables.take i) fun x hx => (l4 x (List.mem_of_mem_take hx)).2.2.2.2
  simp only [List.length_take] at hlen
  rw [rangesP_snoc hi] at hr
  obtain ⟨W, hW⟩ := Int.eq_ofNat_of_zero_le (show 0 ≤ z0 m.sorts m.tables[i].columns 1 by omega)
  have hcell := ref16_Cells_eq (n := n) (m := m) (t := m.tables[i]) c2 (by omega) hn
  rw [hW] at hcell hr
  simp only [zbo.l1, jn, zo hi, if_true, za hi, Option.bind_some, ref16_Strict, zd (show i < 4611686018427387904 by omega)]
  by_cases hst : (m.tables[i].kind == 0 || m.tables[i].kind == 1) = true
  ·have hst' : (zbA m.tables[i].kind == true) = true := by simpa [zbA] using hst
   rw [if_pos hst'] at hr
   rw [if_pos hst]
   have inner := zL (body := zbo.l2 n m (i : Int) (fun v => rec (v, ((i + 1 : Nat) : Int)))) (len := W) (st := fun k => (zQ m.sorts true (m.tables.take i) ++ List.replicate k m.tables[i].range, (k : Int))) (g := fun _ => some (boxM m)) (fun rec' k hk hr' => ?_) (fun rec' => ?_) n 0 (Nat.zero_le _) (by omega)
   ·simpa using inner
   ·simp only [zbo.l2, za hi, Option.bind_some, hcell, lt_nat hk, if_true, zd (show k < 4611686018427387904 by omega)]
    rw [zJ (by simp only [List.length_append, List.length_replicate, List.length_singleton]; omega), Option.bind_some, List.append_assoc, ← List.replicate_succ', hr']
   ·simp only [zbo.l2, za hi, Option.bind_some, hcell, ge_nat (Nat.le_refl W), Bool.false_eq_true, if_false]
    simpa using hr
  ·have hst' : ¬ (zbA m.tables[i].kind == true) = true := by simpa [zbA] using hst
   rw [if_neg hst'] at hr
   rw [if_neg hst]
   exact hr
 ·simp [zbo.l1, boxM]
structure StateOK (m : Model) (s : List Int) : Prop where
 len : s.length = (boxM m).length
 small : ∀ x ∈ s, -9999 ≤ x ∧ x ≤ 9999
theorem act_delta {m : Model} (hV : ValidM m) {a : Action} (ha : a ∈ m.actions) : smallD a.effect.delta ∧ ∀ r ∈ a.effect.hold, rowOK (boxM m).length r = true := by
 have h := (valid_act hV ha).1
 simp only [effP, Bool.and_eq_true, List.all_eq_true] at h
 obtain ⟨p1, -⟩ := deltaP_spec _ _ h.1
 exact ⟨fun x hx => by have := p1 x hx; omega, h.2.2.2⟩
end Go.Proofs.YtcagdmegicijlaaGreatDoor
namespace Go.Proofs.YtcagdmegicijlaaGreatDoor
open Go Go.RowKit
theorem countB_few : ∀ {l : List Range} {p : Int}, goodB l = true → 1 ≤ p → p ≤ 4096 → prodP p l = true → p * (zcz l : Nat) ≤ 4096
 | [], p, _, _, h, _ => by simp [zcz]; exact h
 | r :: l, p, hg, h1, h2, hp => by
  simp only [goodB, List.all_cons, Bool.and_eq_true, decide_eq_true_eq] at hg
  obtain ⟨⟨g1, g2, g3⟩, g4⟩ := hg
  simp only [prodP, Bool.and_eq_true, Bool.not_eq_true', decide_eq_false_iff_not] at hp
  have e1 : sub64 r.hi r.lo = r.hi - r.lo := by unfold sub64; exact zbX (by omega) (by omega)
  have e2 : add64 (r.hi - r.lo) 1 = r.hi - r.lo + 1 := by unfold add64; exact zbX (by omega) (by omega)
  rw [e1, e2] at hp
  have hw1 : 1 ≤ r.hi - r.lo + 1 := by omega
  have hw2 : r.hi - r.lo + 1 ≤ 19999 := by omega
  have hlo : 1 * 1 ≤ p * (r.hi - r.lo + 1) := Int.mul_le_mul h1 hw1 (by omega) (by omega)
  have hhi : p * (r.hi - r.lo + 1) ≤ 4096 * 19999 := Int.mul_le_mul h2 hw2 (by omega) (by omega)
  have e3 : mul64 p (r.hi - r.lo + 1) = p * (r.hi - r.lo + 1) := by unfold mul64; exact zbX (by omega) (by omega)
  rw [e3] at hp
  have ih := countB_few (l := l) (p := p * (r.hi - r.lo + 1)) (by simpa only [goodB] using g4) (by omega) (by omega) hp.2
  simp only [zcz]
  rw [Int.natCast_mul, Int.toNat_of_nonneg (by omega), ← Int.mul_assoc]
  exact ih
end Go.Proofs.YtcagdmegicijlaaGreatDoor
namespace Go.Proofs.YtcagdmegicijlaaGreatDoor
open Go Go.RowKit
theorem loopF_app {γ S R : Type} {body : (S → Option R) → S → Option R} {k n : Nat} {st : List γ → Nat → S} (g : Nat → List γ) (fin : List γ → Option R) (B : Nat) (b0 : List γ) (hB : ∀ i, i < k → (g i).length ≤ B)
  (step : ∀ rec (b : List γ) i, i < k → b.length ≤ b0.length + i * B → body rec (st b i) = rec (st (b ++ g i) (i + 1))) (done : ∀ rec (b : List γ), b.length ≤ b0.length + k * B → body rec (st b k) = fin b) (hn : k < n) :
  loopF body n (st b0 0) = fin (b0 ++ (List.range k).flatMap g) := by
 have := zco (σ := List γ) (body := body) (len := k) (st := st) (g := fun i b => fin (b ++ (List.range' i (k - i)).flatMap g)) (fun i b => b.length ≤ b0.length + i * B) (fun rec i b hi hI hr => ?_) (fun rec b hI => ?_) n 0 b0 (Nat.zero_le _) (by omega) (by simp)
 ·simpa [List.range_eq_range'] using this
 ·rw [step rec b i hi hI, hr _ (by rw [List.length_append]; have := hB i hi; rw [Nat.succ_mul]; omega)]
  have : List.range' i (k - i) = i :: List.range' (i + 1) (k - (i + 1)) := by rw [show k - i = (k - (i + 1)) + 1 by omega, List.range'_succ]
  rw [this, List.flatMap_cons, List.append_assoc]
 ·rw [done rec b hI]; simp
theorem loopF_map {α γ S R : Type} {body : (S → Option R) → S → Option R} {l : List α} {n : Nat} {st : List γ → Nat → S} (h : α → γ) (fin : List γ → Option R) (b0 : List γ)
  (step : ∀ rec (b : List γ) i (hi : i < l.length), b.length = b0.length + i → body rec (st b i) = rec (st (b ++ [h l[i]]) (i + 1))) (done : ∀ rec (b : List γ), b.length = b0.length + l.length → body rec (st b l.length) = fin b) (hn : l.length < n) :
  loopF body n (st b0 0) = fin (b0 ++ l.map h) := by
 have := zL (body := body) (len := l.length) (st := fun i => st (b0 ++ (l.take i).map h) i) (g := fun _ => fin (b0 ++ l.map h)) (fun rec i hi hr => ?_) (fun rec => ?_) n 0 (Nat.zero_le _) (by omega)
 ·simpa using this
 ·have e : b0 ++ (l.take (i + 1)).map h = b0 ++ (l.take i).map h ++ [h l[i]] := by rw [List.take_succ_eq_append_getElem hi, List.map_append, List.append_assoc]; rfl
  rw [step rec _ i hi (by simp; omega), ← e]; exact hr
 ·rw [done rec _ (by simp)]; simp
theorem za9 {σ S R : Type} {body : (S → Option R) → S → Option R} {k n : Nat} {st : σ → Nat → S} (I : Nat → σ → Prop) (Q : R → Prop) (hb : ∀ rec i s, i < k → I i s → (∀ s', I (i + 1) s' → ∃ r, rec (st s' (i + 1)) = some r ∧ Q r) → ∃ r, body rec (st s i) = some r ∧ Q r)
  (he : ∀ rec s, I k s → ∃ r, body rec (st s k) = some r ∧ Q r) (hn : k < n) (s0 : σ) (h0 : I 0 s0) : ∃ r, loopF body n (st s0 0) = some r ∧ Q r := by
 have key : ∀ m i s, i ≤ k → k - i < m → I i s → ∃ r, loopF body m (st s i) = some r ∧ Q r := by
  intro m
  induction m with
  | zero => intro i s _ h; omega
  | succ m ih =>
   intro i s hi hm hI
   simp only [loopF]
   by_cases e : i = k
   ·subst e; exact he _ _ hI
   ·exact hb _ i s (by omega) hI fun s' hI' => ih (i + 1) s' (by omega) (by omega) hI'
 exact key n 0 s0 (Nat.zero_le _) (by omega) h0
theorem Index_Lint_eq {n : Nat} {l : List Int} {x : Int} (hl : l.length < 1000000) (hn : 1000000 ≤ n) : ∃ k, zT n l x = some k ∧ (decide (0 ≤ k) = decide (x ∈ l)) := by
 unfold zT
 have := zL (body := zT.l1 n l x) (len := l.length) (st := fun i => (i : Int)) (g := fun i => some (ixP (fun y => decide (x = y)) (l.drop i) i)) (fun rec i hi hr => ?_) (fun rec => ?_) n 0 (Nat.zero_le _) (by omega)
 ·refine ⟨_, this, ?_⟩
  rw [List.drop_zero, ixP_any]
  rw [Bool.eq_iff_iff]; simp [List.any_eq_true]
 ·simp only [zT.l1, zo hi, if_true, za hi, Option.bind_some]
  rw [zd (show i < 4611686018427387904 by omega), hr, zr hi]
  by_cases e : x = l[i]
  ·simp [e, ixP]
  ·simp [e, ixP]
 ·simp only [zT.l1, zaN, Bool.false_eq_true, if_false]
  simp [ixP]
theorem Contains_Lint_eq {n : Nat} {l : List Int} {x : Int} (hl : l.length < 1000000) (hn : 1000000 ≤ n) : zam n l x = some (decide (x ∈ l)) := by
 obtain ⟨k, h1, h2⟩ := Index_Lint_eq (x := x) hl hn
 unfold zam
 rw [h1, Option.bind_some, h2]
structure GraphOK (g : DGraph) (K : Nat) : Prop where
 size : g.size = (K : Int)
 le : K ≤ 6
 len : g.edges.length = K * K
def hasP (g : DGraph) (a b : Nat) : Bool := g.edges.getD (a * g.size.toNat + b) false
theorem pair_lt {K a b : Nat} (ha : a < K) (hb : b < K) : a * K + b < K * K := by
 have : (a + 1) * K ≤ K * K := Nat.mul_le_mul_right _ ha
 rw [Nat.succ_mul] at this; omega
theorem has_eq {n : Nat} {g : DGraph} {K a b : Nat} (hg : GraphOK g K) (ha : a < K) (hb : b < K) : zaP n g (a : Int) (b : Int) = some (hasP g a b) := by
 have h1 := hg.le
 have h2 := pair_lt ha hb
 have h4 : K * K ≤ 36 := Nat.mul_le_mul hg.le hg.le
 have h3 : add64 (mul64 (a : Int) g.size) (b : Int) = ((a * K + b : Nat) : Int) := by
  rw [hg.size]
  have e1 : mul64 (a : Int) (K : Int) = ((a * K : Nat) : Int) := by
   unfold mul64
   rw [zbX (by rw [← Int.natCast_mul]; omega) (by rw [← Int.natCast_mul]; omega)]
   simp
  rw [e1, add64_nat (by omega)]
 unfold zaP
 rw [h3, za (by rw [hg.len]; exact h2), Option.bind_some]
 simp only [hasP, hg.size, Int.toNat_natCast, List.getD_eq_getElem?_getD]
 rw [List.getElem?_eq_getElem (by rw [hg.len]; exact h2)]
 rfl
def VertL (K : Nat) (l : List Int) : Prop := 1 ≤ l.length ∧ l.length ≤ K ∧ ∀ x ∈ l, 0 ≤ x ∧ x < (K : Int)
theorem VertL.get {K : Nat} {l : List Int} (h : VertL K l) {i : Nat} (hi : i < l.length) : ∃ a : Nat, l[i] = (a : Int) ∧ a < K := by
 obtain ⟨h1, h2⟩ := h.2.2 _ (List.getElem_mem hi)
 exact ⟨l[i].toNat, by omega, by omega⟩
theorem nodup_le : ∀ {K : Nat} {l : List Int}, l.Nodup → (∀ x ∈ l, 0 ≤ x ∧ x < (K : Int)) → l.length ≤ K
 | 0, l, _, h => by
  cases l with
  | nil => simp
  | cons x l => have := h x (by simp); omega
 | K + 1, l, hn, h => by
  by_cases hm : (K : Int) ∈ l
  ·have h1 := nodup_le (K := K) (hn.erase (K : Int)) fun x hx => by
    have := (hn.mem_erase_iff).1 hx
    have := h x this.2
    omega
   rw [List.length_erase_of_mem hm] at h1; omega
  ·have := nodup_le (K := K) hn fun x hx => by
    have h2 := h x hx
    have : x ≠ (K : Int) := fun e => hm (e ▸ hx)
    omega
   omega
theorem visit_tot {n : Nat} {g : DGraph} {K : Nat} (hg : GraphOK g K) (hn : 1000000 ≤ n) : ∀ (d k : Nat) (l : List Int) (out : List (List Int)), l.Nodup → VertL K l → K - l.length = d → d < k → out.length ≤ 1000000 - 7 ^ (d + 1) → d ≤ 5 → (∀ c ∈ out, VertL K c) →
  ∃ r, zN n g k l out = some r ∧ r.length ≤ out.length + 7 ^ (d + 1) ∧ ∀ c ∈ r, VertL K c := by
 intro d
 induction d using Nat.strongRecOn with
 | ind d ih =>
  intro k l out hnd hv hd hk ho hd5 hc
  obtain ⟨k, rfl⟩ : ∃ k', k = k' + 1 := ⟨k - 1, by omega⟩
  have hK := hg.le
  have hl1 := hv.1
  have hl2 := hv.2.1
  have hp : 7 ≤ 7 ^ (d + 1) := by have := Nat.one_le_two_pow (n := 0); exact Nat.le_self_pow (by omega) 7
  have hp2 : 7 ^ (d + 1) ≤ 117649 := by
   have : 7 ^ (d + 1) ≤ 7 ^ 6 := Nat.pow_le_pow_right (by omega) (by omega)
   simpa using this
  obtain ⟨last, hlast, hlK⟩ := hv.get (i := l.length - 1) (by omega)
  obtain ⟨first, hfirst, hfK⟩ := hv.get (i := 0) (by omega)
  have e1 : idx l (sub64 (l.length : Int) 1) = some (last : Int) := by
   rw [sub64_1 (by omega) (by omega), za (by omega), hlast]
  have e2 : idx l 0 = some (first : Int) := by
   have := za (l := l) (i := 0) (by omega)
   rw [← hfirst]; exact this
  simp only [zN, e1, e2, Option.bind_some, has_eq hg hlK hfK]
  -- the loop over the further vertices
  have loop : ∀ out1 : List (List Int), out1.length ≤ out.length + 1 → (∀ c ∈ out1, VertL K c) → ∃ r, loopF (zN.l1 n g (zN n g k) l (last : Int)) n (add64 (first : Int) 1, out1) = some r ∧ r.length ≤ out.length + 7 ^ (d + 1) ∧ ∀ c ∈ r, VertL K c := by
   intro out1 ho1 hc1
   rw [zd (by omega)]
   have := za9 (body := zN.l1 n g (zN n g k) l (last : Int)) (k := K - (first + 1)) (n := n) (st := fun (o : List (List Int)) i => (((first + 1 + i : Nat) : Int), o)) (fun i o => o.length ≤ out.length + 1 + i * 7 ^ d ∧ ∀ c ∈ o, VertL K c) (fun r => r.length ≤ out.length + 7 ^ (d + 1) ∧ ∀ c ∈ r, VertL K c)
    (fun rec i o hi hI hr => ?_) (fun rec o hI => ?_) (by omega) out1 ⟨by simpa using ho1, hc1⟩
   ·simpa using this
   ·have hb : first + 1 + i < K := by omega
    have hlt : decide (((first + 1 + i : Nat) : Int) < g.size) = true := by rw [hg.size]; simp; omega
    have hnx : add64 ((first + 1 + i : Nat) : Int) 1 = ((first + 1 + (i + 1) : Nat) : Int) := by rw [zd (by omega)]; rfl
    simp only [zN.l1, hlt, if_true, has_eq hg hlK hb, Option.bind_some, hnx]
    have keep : ∃ r, rec (((first + 1 + (i + 1) : Nat) : Int), o) = some r ∧ r.length ≤ out.length + 7 ^ (d + 1) ∧ ∀ c ∈ r, VertL K c := hr o ⟨by have := hI.1; rw [Nat.succ_mul]; omega, hI.2⟩
    by_cases hh : hasP g last (first + 1 + i) = true
    ·rw [if_pos hh, Contains_Lint_eq (by omega) hn, Option.bind_some]
     by_cases hm : ((first + 1 + i : Nat) : Int) ∈ l
     ·rw [if_pos (by simpa using hm)]; exact keep
     ·rw [if_neg (by simpa using hm), zJ (by simp; omega), Option.bind_some, List.nil_append, zJ (by simp; omega), Option.bind_some]
      have hnd2 : (l ++ [((first + 1 + i : Nat) : Int)]).Nodup := by
       rw [List.nodup_append]
       exact ⟨hnd, by simp, fun a ha b hb e => by simp at hb; subst hb; subst e; exact hm ha⟩
      have hall : ∀ x ∈ l ++ [((first + 1 + i : Nat) : Int)], 0 ≤ x ∧ x < (K : Int) := fun x hx => by
       rcases List.mem_append.1 hx with hx | hx
       ·exact hv.2.2 x hx
       ·simp at hx; subst hx; omega
      have hlen := nodup_le hnd2 hall
      simp only [List.length_append, List.length_cons, List.length_nil] at hlen
      have hd1 : 1 ≤ d := by omega
      have hpow : 7 ^ d ≤ 7 ^ (d + 1) := Nat.pow_le_pow_right (by omega) (by omega)
      have h6 : i * 7 ^ d ≤ 5 * 7 ^ d := Nat.mul_le_mul_right _ (by omega)
      have h7 : 7 ^ (d + 1) = 7 * 7 ^ d := by rw [Nat.pow_succ]; omega
      have hone : 1 ≤ 7 ^ d := Nat.one_le_pow _ _ (by omega)
      obtain ⟨r, hr1, hr2, hr3⟩ := ih (d - 1) (by omega) k (l ++ [((first + 1 + i : Nat) : Int)]) o hnd2 ⟨by simp, by simpa using hlen, hall⟩ (by simp; omega) (by omega) (by rw [show d - 1 + 1 = d by omega]; have := hI.1; omega) (by omega) hI.2
      rw [show d - 1 + 1 = d by omega] at hr2
      rw [hr1, Option.bind_some]
      exact hr r ⟨by have := hI.1; rw [Nat.succ_mul]; omega, hr3⟩
    ·rw [if_neg hh]; exact keep
   ·have hge : decide (((first + 1 + (K - (first + 1)) : Nat) : Int) < g.size) = false := by rw [hg.size]; simp; omega
    simp only [zN.l1, hge, Bool.false_eq_true, if_false]
    have hone : 1 ≤ 7 ^ d := Nat.one_le_pow _ _ (by omega)
    have h7 : 7 ^ (d + 1) = 7 * 7 ^ d := by rw [Nat.pow_succ]; omega
    have h5 : (K - (first + 1)) * 7 ^ d ≤ 5 * 7 ^ d := Nat.mul_le_mul_right _ (by omega)
    exact ⟨o, rfl, by have := hI.1; omega, hI.2⟩
  by_cases hh : hasP g last first = true
  ·rw [if_pos hh, zJ (by simp; omega), Option.bind_some, List.nil_append, zJ (by simp; omega), Option.bind_some]
   exact loop _ (by simp) fun c hc' => by
    rcases List.mem_append.1 hc' with h | h
    ·exact hc c h
    ·simp at h; subst h; exact hv
  ·rw [if_neg hh]
   exact loop _ (by omega) hc
theorem cycles_tot {n : Nat} {g : DGraph} {K : Nat} (hg : GraphOK g K) (hn : 1000000 ≤ n) : ∃ r, loopF (digraph_cycles.l1 n g) n (0, []) = some r ∧ r.length ≤ 900000 ∧ ∀ c ∈ r, VertL K c := by
 have hK := hg.le
 have := za9 (body := digraph_cycles.l1 n g) (k := K) (n := n) (st := fun (o : List (List Int)) i => ((i : Int), o)) (fun i o => o.length ≤ i * 117649 ∧ ∀ c ∈ o, VertL K c) (fun r => r.length ≤ 900000 ∧ ∀ c ∈ r, VertL K c)
  (fun rec i o hi hI hr => ?_) (fun rec o hI => ?_) (by omega) [] ⟨by simp, by simp⟩
 ·simpa using this
 ·have hlt : decide ((i : Int) < g.size) = true := by rw [hg.size]; simp; omega
  have hd : 7 ^ (K - 1 + 1) ≤ 117649 := by
   have : 7 ^ (K - 1 + 1) ≤ 7 ^ 6 := Nat.pow_le_pow_right (by omega) (by omega)
   simpa using this
  have h5 : i * 117649 ≤ 5 * 117649 := Nat.mul_le_mul_right _ (by omega)
  obtain ⟨r, hr1, hr2, hr3⟩ := visit_tot hg hn (K - 1) n [(i : Int)] o (by simp) ⟨by simp, by simp; omega, by simp; omega⟩ (by simp) (by omega) (by have := hI.1; omega) (by omega) hI.2
  simp only [digraph_cycles.l1, hlt, if_true, hr1, Option.bind_some]
  rw [zd (by omega)]
  exact hr r ⟨by have := hI.1; rw [Nat.succ_mul]; omega, hr3⟩
 ·have hge : decide ((K : Int) < g.size) = false := by rw [hg.size]; simp
  simp only [digraph_cycles.l1, hge, Bool.false_eq_true, if_false]
  exact ⟨o, rfl, by have := hI.1; omega, hI.2⟩
end Go.Proofs.YtcagdmegicijlaaGreatDoor
namespace Go.Proofs.YtcagdmegicijlaaGreatDoor
open Go Go.RowKit
def lexP : List Int → List Int → Int
 | [], [] => 0
 | [], _ :: _ => -1
 | _ :: _, [] => 1
 | a :: l, b :: m => if a < b then -1 else if b < a then 1 else lexP l m
theorem lex_neg : ∀ (a b : List Int), lexP b a = -lexP a b
 | [], [] => rfl
 | [], _ :: _ => rfl
 | _ :: _, [] => rfl
 | a :: l, b :: m => by
  have := lex_neg l m
  simp only [lexP]
  split <;> split <;> omega
theorem lex_zero : ∀ {a b : List Int}, lexP a b = 0 → a = b
 | [], [], _ => rfl
 | [], _ :: _, h => by simp [lexP] at h
 | _ :: _, [], h => by simp [lexP] at h
 | a :: l, b :: m, h => by
  simp only [lexP] at h
  split at h
  ·omega
  ·split at h
   ·omega
   ·rw [lex_zero h, show a = b by omega]
theorem lex_trans : ∀ {a b c : List Int}, lexP a b < 0 → lexP b c < 0 → lexP a c < 0
 | [], [], c, h, _ => by simp [lexP] at h
 | [], _ :: _, [], _, h => by simp [lexP] at h
 | [], _ :: _, _ :: _, _, _ => by simp [lexP]
 | _ :: _, [], _, h, _ => by simp [lexP] at h
 | _ :: _, _ :: _, [], _, h => by simp [lexP] at h
 | a :: l, b :: m, c :: k, h1, h2 => by
  simp only [lexP] at *
  have ih := @lex_trans l m k
  by_cases e1 : a < b
  ·by_cases e2 : b < c
   ·rw [if_pos (by omega)]; omega
   ·by_cases e3 : c < b
    ·rw [if_neg e2, if_pos e3] at h2; omega
    ·rw [if_pos (by omega)]; omega
  ·by_cases e1' : b < a
   ·rw [if_neg e1, if_pos e1'] at h1; omega
   ·rw [if_neg e1, if_neg e1'] at h1
    by_cases e2 : b < c
    ·rw [if_pos (by omega)]; omega
    ·by_cases e3 : c < b
     ·rw [if_neg e2, if_pos e3] at h2; omega
     ·rw [if_neg e2, if_neg e3] at h2
      rw [if_neg (by omega), if_neg (by omega)]
      exact ih h1 h2
def cmpI (a b : Int) : Int := if a < b then -1 else if b < a then 1 else 0
def cmpC (a b : List Int) : Int := if cmpI a.length b.length ≠ 0 then cmpI a.length b.length else lexP a b
theorem cmpC_neg (a b : List Int) : cmpC b a = -cmpC a b := by
 have := lex_neg a b
 unfold cmpC cmpI
 split <;> split <;> (try split) <;> (try split) <;> simp_all <;> omega
theorem cmpC_zero {a b : List Int} (h : cmpC a b = 0) : a = b := by
 unfold cmpC at h
 split at h
 ·rename_i hne; exact absurd h hne
 ·exact lex_zero h
theorem cmpC_trans {a b c : List Int} (h1 : cmpC a b < 0) (h2 : cmpC b c < 0) : cmpC a c < 0 := by
 have k : ∀ (x y : List Int), cmpC x y < 0 ↔ (x.length < y.length ∨ (x.length = y.length ∧ lexP x y < 0)) := by
  intro x y
  unfold cmpC cmpI
  by_cases e : (x.length : Int) < y.length
  ·simp [e]; omega
  ·by_cases e2 : (y.length : Int) < x.length
   ·simp [e, e2]; omega
   ·simp [e, e2]; omega
 rw [k] at *
 rcases h1 with h1 | ⟨h1, h1'⟩ <;> rcases h2 with h2 | ⟨h2, h2'⟩
 ·left; omega
 ·left; omega
 ·left; omega
 ·exact .inr ⟨by omega, lex_trans h1' h2'⟩
theorem cmpC_ntrans {a b c : List Int} (h1 : ¬ cmpC a b < 0) (h2 : ¬ cmpC b c < 0) : ¬ cmpC a c < 0 := by
 intro h
 have n1 := cmpC_neg a b
 have n2 := cmpC_neg b c
 by_cases e1 : cmpC a b = 0
 ·rw [cmpC_zero e1] at h; exact h2 h
 ·by_cases e2 : cmpC b c = 0
  ·rw [← cmpC_zero e2] at h; exact h1 h
  ·have := cmpC_trans (a := c) (b := b) (c := a) (by omega) (by omega)
   have n3 := cmpC_neg a c
   omega
theorem Compare_int_eq {n : Nat} (a b : Int) : zbH n a b = some (cmpI a b) := by
 unfold zbH zcP cmpI
 simp
 split <;> (try split) <;> rfl
theorem Compare_L_eq {n : Nat} {a b : List Int} (ha : a.length < 1000000) (hn : 1000000 ≤ n) : zf n a b = some (lexP a b) := by
 unfold zf
 have := zco (σ := Unit) (body := zf.l1 n a b) (len := a.length) (st := fun _ i => (i : Int)) (g := fun i _ => some (lexP (a.drop i) (b.drop i))) (fun i _ => i ≤ b.length) (fun rec i s hi hI hr => ?_) (fun rec s hI => ?_) n 0 () (Nat.zero_le _) (by omega) (Nat.zero_le _)
 ·simpa using this
 ·simp only [zf.l1, zo hi, if_true, za hi, Option.bind_some]
  by_cases hb : b.length ≤ i
  ·have e : b.drop i = [] := List.drop_eq_nil_of_le hb
   rw [if_pos (by simp; omega), e, zr hi]; rfl
  ·rw [if_neg (by simp; omega), za (show i < b.length by omega), Option.bind_some, Compare_int_eq, Option.bind_some, zd (by omega), hr () (by omega), zr hi, zr (show i < b.length by omega)]
   simp only [lexP, cmpI]
   split
   ·simp
   ·split
    ·simp
    ·simp
 ·simp only [zf.l1, zaN, Bool.false_eq_true, if_false]
  rw [List.drop_length]
  by_cases hb : a.length < b.length
  ·rw [if_pos (by simp; omega), zr hb]; rfl
  ·rw [if_neg (by simp; omega), List.drop_eq_nil_of_le (by omega)]; rfl
theorem Or_eq {n : Nat} (x y : Int) (hn : 1000000 ≤ n) : zcd n [x, y] = some (if x ≠ 0 then x else y) := by
 unfold zcd
 rw [loopF_1 (by omega)]
 have e0 : idx [x, y] 0 = some x := rfl
 have e1 : idx [x, y] 1 = some y := rfl
 simp only [zcd.l1, e0, Option.bind_some, List.length_cons, List.length_nil]
 rw [if_pos (by simp)]
 by_cases hx : x = 0
 ·rw [if_neg (by simp [hx]), show add64 0 1 = 1 from rfl, loopF_1 (by omega)]
  simp only [zcd.l1, e1, Option.bind_some, List.length_cons, List.length_nil]
  rw [if_pos (by simp)]
  by_cases hy : y = 0
  ·rw [if_neg (by simp [hy]), show add64 1 1 = 2 from rfl, loopF_1 (by omega)]
   simp [zcd.l1, hx, hy]
  ·rw [if_pos (by simp [hy])]; simp [hx]
 ·rw [if_pos (by simp [hx])]; simp [hx]
theorem compare_eq {n : Nat} {a b : List Int} (ha : a.length < 1000000) (hn : 1000000 ≤ n) : zb3 n a b = some (cmpC a b) := by
 unfold zb3
 rw [Compare_int_eq, Option.bind_some, Compare_L_eq ha hn, Option.bind_some, Or_eq _ _ hn]
 rfl
theorem sortO_of {α : Type} {f : α → α → Option Int} {c : α → α → Int} {l : List α} (h1 : ∀ x ∈ l, ∀ y ∈ l, f x y = some (c x y)) (irr : ∀ x, ¬ c x x < 0) (tr : ∀ x y z, c x y < 0 → c y z < 0 → c x z < 0) (nt : ∀ x y z, ¬ c x y < 0 → ¬ c y z < 0 → ¬ c x z < 0) (hl : l.length < 4611686018427387904) :
  sortO f l = some (sortF (fun x y => (f x y).getD 0) l) ∧ swoB (fun x y => (f x y).getD 0) l = true := by
 have hs : swoB (fun x y => (f x y).getD 0) l = true := by
  unfold swoB
  rw [List.all_eq_true]
  intro x hx
  rw [Bool.and_eq_true, List.all_eq_true]
  refine ⟨by simpa [h1 x hx x hx] using irr x, fun y hy => ?_⟩
  rw [List.all_eq_true]
  intro z hz
  simp only [h1 x hx y hy, h1 y hy z hz, h1 x hx z hz, Option.getD_some, Bool.and_eq_true, Bool.or_eq_true, Bool.not_eq_true', Bool.and_eq_false_iff, decide_eq_true_eq, decide_eq_false_iff_not]
  have a1 := tr x y z
  have a2 := nt x y z
  constructor
  ·by_cases p : c x y < 0
   ·by_cases q : c y z < 0
    ·exact .inr (a1 p q)
    ·exact .inl (.inr q)
   ·exact .inl (.inl p)
  ·by_cases p : c x y < 0
   ·exact .inl (.inl p)
   ·by_cases q : c y z < 0
    ·exact .inl (.inr q)
    ·exact .inr (a2 p q)
 refine ⟨?_, hs⟩
 unfold sortO
 rw [if_pos]
 simp only [Bool.and_eq_true, List.all_eq_true, decide_eq_true_eq]
 exact ⟨⟨fun x hx y hy => by rw [h1 x hx y hy]; rfl, hs⟩, hl⟩
theorem Cycles_tot {n : Nat} {size : Int} {edges : List Bool} {K : Nat} (hs : size = (K : Int)) (h1 : 1 ≤ K) (h6 : K ≤ 6) (hl : edges.length = K * K) (hn : 1000000 ≤ n) : ∃ r, zcs n size edges = some r ∧ r.length ≤ 900000 ∧ ∀ c ∈ r, VertL K c := by
 have hg : GraphOK ⟨size, edges⟩ K := ⟨hs, h6, hl⟩
 obtain ⟨out, ho, hol, hov⟩ := cycles_tot hg hn
 have h4 : K * K ≤ 36 := Nat.mul_le_mul h6 h6
 have e : mul64 size size = ((K * K : Nat) : Int) := by
  rw [hs]; unfold mul64
  rw [zbX (by rw [← Int.natCast_mul]; omega) (by rw [← Int.natCast_mul]; omega)]; simp
 have hopen : digraph_open n size edges = some (⟨size, edges⟩, true) := by
  unfold digraph_open
  rw [e, hl]
  simp [hs]; omega
 unfold zcs
 rw [hopen, Option.bind_some, if_neg (by simp), ho, Option.bind_some]
 obtain ⟨s1, s2⟩ := sortO_of (f := zb3 n) (c := cmpC) (l := out) (fun x hx y _ => compare_eq (by have := (hov x hx).2.1; omega) hn) (fun x => by have := cmpC_neg x x; omega) (fun _ _ _ => cmpC_trans) (fun _ _ _ => cmpC_ntrans) (by omega)
 have hp := sortF_perm s2
 exact ⟨_, s1, by rw [hp.length_eq]; exact hol, fun c hc => hov c (hp.mem_iff.1 hc)⟩
end Go.Proofs.YtcagdmegicijlaaGreatDoor
namespace Go.Proofs.YtcagdmegicijlaaGreatDoor
open Go Go.RowKit
theorem add64_sm {x y : Int} (h1 : -9223372036854775808 ≤ x + y) (h2 : x + y ≤ 9223372036854775807) : add64 x y = x + y := zbX h1 h2
theorem mul64_sm {x y : Int} (h1 : -9223372036854775808 ≤ x * y) (h2 : x * y ≤ 9223372036854775807) : mul64 x y = x * y := zbX h1 h2
theorem sub64_sm {x y : Int} (h1 : -9223372036854775808 ≤ x - y) (h2 : x - y ≤ 9223372036854775807) : sub64 x y = x - y := zbX h1 h2
def CasesOK (r : List (List Row)) : Prop := r.length ≤ 900000 ∧ ∀ rows ∈ r, rows.length ≤ 6 ∧ ∀ row ∈ rows, row.terms.length ≤ 1
theorem cases_1_tot {n : Nat} {c : Constraint} {e f : Action} (k : Int) (he : e.effect.delta.length ≤ 20) (hf : f.effect.delta.length ≤ 20) (hn : 1000000 ≤ n) : ∃ r, zbG n k e c f = some r := by
 unfold zbG
 rw [zZ _ (by omega) (by omega), Option.bind_some, zZ _ (by omega) (by omega), Option.bind_some]
 exact ⟨_, rfl⟩
theorem cases3_tot {n : Nat} {c : Constraint} {e f : Action} {K : Nat} {cyc : List Int} {b1 : List (List Row)} {k : List (List Row) → Option (List (List Row))} {Q : List (List Row) → Prop} (hv : VertL K cyc) (h6 : K ≤ 6) (he : e.effect.delta.length ≤ 20) (hf : f.effect.delta.length ≤ 20) (hn : 1000000 ≤ n) (hb : b1.length ≤ 900000)
  (hk : ∀ b : List (List Row), b.length ≤ b1.length + 1 → (∀ rows ∈ b, rows ∈ b1 ∨ (rows.length ≤ 6 ∧ ∀ row ∈ rows, row.terms.length ≤ 1)) → ∃ r, k b = some r ∧ Q r) : ∃ r, loopF (zw.l3 n c e f b1 k cyc) n (([] : List Row), false, false, 0) = some r ∧ Q r := by
 have hl := hv.2.1
 have hl1 := hv.1
 have := za9 (body := zw.l3 n c e f b1 k cyc) (k := cyc.length) (n := n) (st := fun (s : List Row × Bool × Bool) i => (s.1, s.2.1, s.2.2, (i : Int))) (fun i s => s.1.length ≤ i ∧ ∀ row ∈ s.1, row.terms.length ≤ 1) Q
  (fun rec i s hi hI hr => ?_) (fun rec s hI => ?_) (by omega) ([], false, false) ⟨by simp, by simp⟩
 ·simpa using this
 ·obtain ⟨b2, x, y⟩ := s
  simp only at hI
  have hmod : ∃ r : Nat, rem64 (add64 (i : Int) 1) (cyc.length : Int) = some (r : Int) ∧ r < cyc.length := by
   rw [zd (by omega)]
   refine ⟨(i + 1) % cyc.length, ?_, Nat.mod_lt _ (by omega)⟩
   unfold rem64
   rw [if_neg (by omega)]
   congr 1
  obtain ⟨r, hr1, hr2⟩ := hmod
  simp only [zw.l3, zo hi, if_true, za hi, Option.bind_some, hr1, za hr2]
  rw [zZ _ (by omega) (by omega), zZ _ (by omega) (by omega)]
  simp only [Option.isSome_some, Bool.or_true, grd, if_true]
  obtain ⟨z, hz⟩ := cases_1_tot (n := n) (c := c) (e := e) (f := f) (add64 (mul64 cyc[i] c.size) cyc[r]) he hf hn
  rw [hz, Option.bind_some, zJ (by have := hI.1; simp; omega), Option.bind_some, zd (by omega)]
  exact hr (_, _, _) ⟨by have := hI.1; simp; omega, fun row hrow => by
   rcases List.mem_append.1 hrow with h | h
   ·exact hI.2 row h
   ·simp at h; subst h; simp⟩
 ·obtain ⟨b2, x, y⟩ := s
  simp only at hI
  simp only [zw.l3, zaN, Bool.false_eq_true, if_false]
  split
  ·rw [zJ (by simp; omega), Option.bind_some]
   exact hk _ (by simp) fun rows hrows => by
    rcases List.mem_append.1 hrows with h | h
    ·exact .inl h
    ·simp at h; subst h; exact .inr ⟨by have := hI.1; omega, hI.2⟩
  ·exact hk _ (by omega) fun rows h => .inl h
theorem sto_tot {α : Type} {l : List α} {i : Nat} {x : α} (h : i < l.length) : ∃ r, sto l (i : Int) x = some r ∧ r.length = l.length := by
 unfold sto
 simp [h]
theorem cases_tot {n : Nat} {box : List Range} {c : Constraint} {e f : Action} {K : Nat} (hs : c.size = (K : Int)) (h1 : 1 ≤ K) (h6 : K ≤ 6) (h0 : 0 ≤ c.first) (hbx : c.first + ((K * K : Nat) : Int) ≤ (box.length : Int)) (hbl : box.length ≤ 1000) (he : e.effect.delta.length ≤ 20) (hf : f.effect.delta.length ≤ 20) (hn : 1000000 ≤ n) :
  ∃ r, zw n box c e f = some r ∧ CasesOK r := by
 have h4 : K * K ≤ 36 := Nat.mul_le_mul h6 h6
 have em : mul64 c.size c.size = ((K * K : Nat) : Int) := by
  rw [hs, mul64_sm (by rw [← Int.natCast_mul]; omega) (by rw [← Int.natCast_mul]; omega)]; simp
 have hmk : mkl 1 (mul64 c.size c.size) false = some (List.replicate (K * K) false) := by
  rw [em]; unfold mkl; rw [if_pos (by omega), Int.toNat_natCast]
 unfold zw
 rw [hmk, Option.bind_some]
 have := za9 (body := zw.l1 n box c e f (List.replicate (K * K) false)) (k := K * K) (n := n) (st := fun (s : List Bool) i => (s, (i : Int))) (fun i s => s.length = K * K) CasesOK
  (fun rec i s hi hI hr => ?_) (fun rec s hI => ?_) (by omega) (List.replicate (K * K) false) (by simp)
 ·simpa using this
 ·have hlt : decide ((i : Int) < ((List.replicate (K * K) false).length : Int)) = true := by simp; omega
  obtain ⟨z, hz⟩ := cases_1_tot (n := n) (c := c) (e := e) (f := f) (i : Int) he hf hn
  obtain ⟨w, hw⟩ := zbr (l := box) (i := add64 c.first (i : Int)) (by rw [add64_sm (by omega) (by omega)]; omega) (by rw [add64_sm (by omega) (by omega)]; omega)
  obtain ⟨s', hs1, hs2⟩ := sto_tot (l := s) (i := i) (x := decide (1 ≤ add64 w.hi z)) (by omega)
  simp only [zw.l1, hlt, if_true, hw, Option.bind_some, hz, za (show i < s.length by omega), hs1]
  rw [zd (by omega)]
  exact hr s' (by omega)
 ·have hge : decide (((K * K : Nat) : Int) < ((List.replicate (K * K) false).length : Int)) = false := by simp
  simp only [zw.l1, hge, Bool.false_eq_true, if_false]
  obtain ⟨cyc, hc1, hc2, hc3⟩ := Cycles_tot (n := n) (size := c.size) (edges := s) hs h1 h6 hI hn
  rw [hc1, Option.bind_some]
  have := za9 (body := zw.l2 n c e f cyc) (k := cyc.length) (n := n) (st := fun (s : List (List Row)) i => (s, (i : Int))) (fun i s => s.length ≤ i ∧ ∀ rows ∈ s, rows.length ≤ 6 ∧ ∀ row ∈ rows, row.terms.length ≤ 1) CasesOK
   (fun rec i s hi hI hr => ?_) (fun rec s hI => ?_) (by omega) [] ⟨by simp, by simp⟩
  ·simpa using this
  ·simp only [zw.l2, zo hi, if_true, jn, za hi, Option.bind_some]
   refine cases3_tot (K := K) (hc3 _ (List.getElem_mem hi)) h6 he hf hn (by have := hI.1; omega) fun b hb hbr => ?_
   rw [zd (by omega)]
   exact hr b ⟨by have := hI.1; omega, fun rows hrows => (hbr rows hrows).elim (hI.2 rows) id⟩
  ·simp only [zw.l2, zaN, Bool.false_eq_true, if_false]
   exact ⟨s, rfl, by have := hI.1; omega, hI.2⟩
end Go.Proofs.YtcagdmegicijlaaGreatDoor
