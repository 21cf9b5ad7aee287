/- Part of the proof of one law of the seat. -/
import Derived.Test.YtcagdmegicijlaaGreatDoorCh03
set_option linter.unusedVariables false
set_option linter.unusedSectionVars false
set_option linter.unusedSimpArgs false
namespace Go.Proofs.YtcagdmegicijlaaGreatDoor
open Go Go.RowKit
theorem lexer_Name_ok (n : Nat) (t0 : List UInt8) (r : Bool) (h : lexer_Name n t0 = some r) : Pure Tryz.prog 143 [.str t0] (.bool r) := by
  refine Pure.ot Tryz.func143 I Tryz.ntmps143 I fun A w => .seq <| .region <| .op I I (.assign I I) <| .nil <| .seq <| .plain 8 I <| .op I I I I (.move I I) <| .op I I I I (.len_str I U9 I) <| .op I I I I (.leq I I I) <| .op I I I I (.move I I) <| gK h fun hc_2 h => .jAnd 3 (b2 := ((lexer_Kind n t0).getD default) == 1) I I I I (.inl I) (fun _ _ _ h1 => by cases h1) I I (fun hb_1 => ?_) ?_
  · refine .gop I I I I I I (.move I I) <| .gop I I I I I I (.call I K193 I (lexer_Kind_ok _ _ _ (someD (impT hc_2 hb_1)))) <| .gop I I I I I I (.eql I I I) ?_
    exact .nil I
  refine .nil <| .op I I (.assign I I) <| .nil <| .ret ?_
  cases h
  exact retOne I (.d _)
theorem cells_columned_1_ok (n : Nat) (t0 : Int) (t1 : List Int) (r : Bool) (h : cells_columned_1 n t0 t1 = some r) : Pure Tryz.prog 194 [.int t0, .ref (.sl 1 (List.map D.int t1))] (.bool r) := by
  refine Pure.ot Tryz.func194 I Tryz.ntmps194 I fun A w => .seq <| .region <| .op I I (.assign I I) <| .nil <| .seq <| .plain 8 I <| .op I I I I (.move I I) <| .op I I I I (.lss I I I) <| .op I I I I (.move I I) <| .jOr 4 (b2 := decide ((t1.length : Int) ≤ t0)) I I I I (.inl I) (fun _ _ _ h1 => by cases h1) I I (fun hb_1 => ?_) ?_
  · refine .gop I I I I I I (.move I I) <| .gop I I I I I I (.load I I Y22 I) <| .gop I I I I I I (.len I U22 I) <| .gop I I I I I I (.geq I I I) ?_
    exact .nil I
  refine .nil <| .op I I (.assign I I) <| .nil <| .ret ?_
  cases h
  exact retOne I (.d _)
theorem cells_columned_ok (n : Nat) (t0 : List Int) (t1 : List Int) (r : Bool) (h : cells_columned n t0 t1 = some r) : Pure Tryz.prog 145 [.sl 1 (List.map D.int t0), .sl 1 (List.map D.int t1)] (.bool r) := by
  refine Pure.ot Tryz.func145 I Tryz.ntmps145 I fun A w => .seq <| .region <| .op I I (.box I I) <| .op I I (.assign I I) <| .nil <| .seq <| .plain 9 I <| .op I I I I (.move I I) <| .op I I I I (.len I U22 I) <| .op I I I I (.leq I I I) <| .op I I I I (.move I I) <| gK h fun hc_2 h => .jAnd 4 (b2 := !((slices_ContainsFunc_Lint_int n t1 (fun q0 => cells_columned_1 n q0 t0)).getD default)) I I I I (.inl I) (fun _ _ _ h1 => by cases h1) I I (fun hb_1 => ?_) ?_
  · refine .gop I I I I I I (.move I I) <| .gop I I I I I I (.makeFunc I I) <| .gop I I I I I I (.call I K154 I (slices_ContainsFunc_Lint_int_ok _ _ _ _ (fun q0 y hq => ⟨_, _, I, K194, cells_columned_1_ok _ q0 _ _ hq⟩) _ (someD (impT hc_2 hb_1)))) <| .gop I I I I I I (.not I I) ?_
    exact .nil I
  refine .nil <| .op I I (.assign I I) <| .nil <| .ret ?_
  cases h
  exact retOne I (.d _)
set_option maxHeartbeats 2000000 in
theorem cells_ranged_ok (n : Nat) (t0 : Table) (r : Bool) (h : cells_ranged n t0 = some r) : Pure Tryz.prog 146 [Table.enc t0] (.bool r) := by
  refine Pure.ot Tryz.func146 I Tryz.ntmps146 I fun A w => .seq <| .region <| .op I I (.box I I) <| .op I I (.assign I I) <| .nil <| .seq <| .seq <| .region <| .op I I (.fieldAddr I I (G127_1 _)) <| .op I I (.load I I Y3 I) <| .nil <| .block <| .join [1] (fun (v : Bool) => [(5, .d (.bool v))]) (fun (v : Bool) => []) (.c I .nil) h (fun k_2 h => ?_) (fun x5_1 h => ?_)
  · refine .seq <| .region <| .op I I (.eql I I I) <| .op I I (.assign I I) <| .nil <| .condS I h (fun h => ?_) fun h => ?_
    · refine .skip ?_
      exact ⟨_, h, ⟨_, I, I, I, I, I, trivial⟩⟩
    · refine .seq <| .region <| .op I I (.eql I I I) <| .op I I (.assign I I) <| .nil <| .condS I h (fun h => ?_) fun h => ?_
      · refine .skip ?_
        exact ⟨_, h, ⟨_, I, I, I, I, I, trivial⟩⟩
      · refine .region <| .op I I (.eql I I I) <| .op I I (.assign I I) <| .nil ?_
        exact ⟨_, h, ⟨_, I, I, I, I, I, trivial⟩⟩
  · refine .condS I h (fun h => ?_) fun h => ?_
    · refine .seq <| .plain 19 I <| .op I I I I (.fieldAddr I I (G127_3 _)) <| .op I I I I (.fieldAddr I I (G87_0 _)) <| .op I I I I (.load I I Y3 I) <| .op I I I I (.fieldAddr I I (G127_3 _)) <| .op I I I I (.fieldAddr I I (G87_1 _)) <| .op I I I I (.load I I Y3 I) <| .op I I I I (.leq I I I) <| .op I I I I (.move I I) <| .jAnd 4 (b2 := decide ((-9999) ≤ t0.range.lo)) I I I I (.inl I) (fun _ _ _ h1 => by cases h1) I I (fun hb_3 => ?_) ?_
      · refine .gop I I I I I I (.fieldAddr I I (G127_3 _)) <| .gop I I I I I I (.fieldAddr I I (G87_0 _)) <| .gop I I I I I I (.load I I Y3 I) <| .gop I I I I I I (.geq I I I) ?_
        exact .nil I
      refine .op I I I I (.move I I) <| .jAnd 4 (b2 := decide (t0.range.hi ≤ 9999)) I I I I (.inl I) (fun _ _ _ h1 => by cases h1) I I (fun hb_4 => ?_) ?_
      · refine .gop I I I I I I (.fieldAddr I I (G127_3 _)) <| .gop I I I I I I (.fieldAddr I I (G87_1 _)) <| .gop I I I I I I (.load I I Y3 I) <| .gop I I I I I I (.leq I I I) ?_
        exact .nil I
      refine .nil <| .op I I (.assign I I) <| .nil <| .keep [] [2] (.c I .nil) I <| .ret ?_
      cases h
      exact retOne I (.d _)
    · refine .skip <| .keep [] [1] (.c I .nil) I <| .seq <| .region <| .op I I (.fieldAddr I I (G127_3 _)) <| .op I I (.load I I Y87 I) <| .op I I (.castD (Range.enc (⟨0, 1⟩ : Range)) I (.build I Pl87 (.agg Zc87 (ds' := [_, _]) (.cons (.refl _) (.cons (.refl _) (.nil)))) I I)) <| .op I I (.seql I SE87 I I (xs := Range.vals _) (ys := Range.vals _) I I I I (SQ87 _ _)) <| .op I I (.assign I I) <| .nil <| .ret ?_
      cases h
      exact retOne I (.d _)
theorem cells_isStrict_ok (n : Nat) (t0 : Table) (r : Bool) (h : cells_isStrict n t0 = some r) : Pure Tryz.prog 147 [Table.enc t0] (.bool r) := by
  refine Pure.ot Tryz.func147 I Tryz.ntmps147 I fun A w => .seq <| .region <| .op I I (.box I I) <| .op I I (.assign I I) <| .nil <| .seq <| .plain 8 I <| .op I I I I (.fieldAddr I I (G127_1 _)) <| .op I I I I (.load I I Y3 I) <| .op I I I I (.eql I I I) <| .op I I I I (.move I I) <| .jOr 3 (b2 := t0.kind == 1) I I I I (.inl I) (fun _ _ _ h1 => by cases h1) I I (fun hb_1 => ?_) ?_
  · refine .gop I I I I I I (.fieldAddr I I (G127_1 _)) <| .gop I I I I I I (.load I I Y3 I) <| .gop I I I I I I (.eql I I I) ?_
    exact .nil I
  refine .nil <| .op I I (.assign I I) <| .nil <| .ret ?_
  cases h
  exact retOne I (.d _)
theorem cells_width_ok (n : Nat) (t0 : List Int) (t1 : List Int) (r : Int) (h : cells_width n t0 t1 = some r) : Pure Tryz.prog 148 [.sl 1 (List.map D.int t0), .sl 1 (List.map D.int t1)] (.int r) := by
  refine Pure.ot Tryz.func148 I Tryz.ntmps148 I fun A w => .seq <| .region <| .op I I (.assign I I) <| .nil <| .seq <| .region <| .op I I (.assign I I) <| .nil <| .seq <| .seq <| .region <| .op I I (.move I I) <| .op I I (.len I U22 I) <| .op I I (.move I I) <| .nil <| .block <| .loopS [0, 8, 9] (fun (v : Int × Int) => [(5, .d (.int v.1)), (10, .d (.int v.2))]) (fun (v : Int × Int) => []) (.c I <| .c I <| .c I .nil) h ⟨_, I, I, I, I, I, I, I, I, trivial⟩ (fun rec_11 v h => ?_)
  obtain ⟨x5_9, x10_10⟩ := v
  refine .seq <| .region <| .op I I (.lss I I I) <| .nil <| .keep [] [0, 5, 8, 9, 10, 11] (.c I <| .c I <| .c I <| .c I <| .c I <| .c I .nil) I <| .seq <| .condS I h (fun h => ?_) fun h => ?_
  · refine .skip <| .seq <| .block <| .seq <| .region <| bK h fun x12_12 hx12_12 h => .op I I (.idx I I I U22 S3 hx12_12) <| .op I I (.load I I Y3 I) <| .op I I (.assign I I) <| .nil <| .region <| .op I I (.move I I) <| .op I I (.move I I) <| .op I I (.move I I) <| bK h fun x17_13 hx17_13 h => .op I I (.idx I I I U22 S3 hx17_13) <| .op I I (.load I I Y3 I) <| .op I I (.mul6 I I I) <| .op I I (.assign I I) <| .nil <| .region <| .op I I (.add6 I I I) <| .op I I (.move I I) <| .nil ?_
    exact ⟨_, h, ⟨_, I, I, I, I, I, I, I, I, trivial⟩⟩
  · refine .exit <| .seq <| .region <| .op I I (.move I I) <| .op I I (.assign I I) <| .nil <| .ret ?_
    cases h
    exact retOne I (.d _)
set_option maxHeartbeats 2000000 in
theorem cells_Valid_ok (n : Nat) (t0 : List Int) (t1 : List Table) (r : Bool) (h : cells_Valid n t0 t1 = some r) : Pure Tryz.prog 94 [.sl 1 (List.map D.int t0), .sl 6 (List.map Table.enc t1)] (.bool r) := by
  refine Pure.ot Tryz.func94 I Tryz.ntmps94 I fun A w => .seq <| .region <| .op I I (.assign I I) <| .nil <| .seq <| .seq <| .region <| .op I I (.move I I) <| .op I I (.len I U22 I) <| .op I I (.leq I I I) <| .op I I (.move I I) <| .op I I (.len I U23 I) <| .op I I (.leq I I I) <| .op I I (.move I I) <| bK h fun x18_1 hx18_1 h => .op I I (.call I K142 I (cells_sized_ok _ _ _ hx18_1)) <| .op I I (.buildSl [_, _, _] I I E144 I (fun _ => I) I (enc := D.bool)) <| bK h fun x20_2 hx20_2 h => .op I I (.call I K141 I (cells_all_ok _ _ _ hx20_2)) <| .op I I (.not I I) <| .nil <| .condS I h (fun h => ?_) fun h => ?_
  · refine .seq <| .region <| .op I I (.assign I I) <| .nil <| .ret ?_
    cases h
    exact retOne I (.d _)
  · refine .skip <| .seq <| .region <| .makeMap (fun l : List UInt8 => Value.string ⟨l.toArray⟩) D.bool I I I I <| .op I I (.assign I I) <| .nil <| .seq <| .region <| .allocZ I I I I (.val Zv3) I <| .allocZ I I I I (.val Zv3) I <| .store I I I I I I (.ofD I) C3 I (Nat.le_of_ble_eq_true I) <| .store I I I I I I (.ofD I) C3 I (Nat.le_of_ble_eq_true I) <| .nil <| .keep [GMap.blk (fun l : List UInt8 => Value.string ⟨l.toArray⟩) D.bool (GMap.empty : GMap (List UInt8) Bool), .box 3 [.d (.int 0)], .box 3 [.d (.int 0)]] [0, 1, 5, 6, 7] (.c I <| .c I <| .c I <| .c I <| .c I .nil) I <| .seq <| .seq <| .region <| .op I I (.move I I) <| .op I I (.len I U23 I) <| .op I I (.move I I) <| .nil <| .block <| .loopS [0, 5, 6, 7, 23, 24] (fun (v : (GMap (List UInt8) Bool) × Int × Int × Int) => [(25, .d (.int v.2.2.2))]) (fun (v : (GMap (List UInt8) Bool) × Int × Int × Int) => [(0, GMap.blk (fun l : List UInt8 => Value.string ⟨l.toArray⟩) D.bool v.1), (1, .box 3 [.d (.int v.2.1)]), (2, .box 3 [.d (.int v.2.2.1)])]) (.c I <| .c I <| .c I <| .c I <| .c I <| .c I .nil) h ⟨_, I, I, I, I, I, I, I, I, I, I, trivial⟩ (fun rec_41 v h => ?_)
    obtain ⟨m0_37, c1_0_38, c2_0_39, x25_40⟩ := v
    refine .seq <| .region <| .op I I (.lss I I I) <| .nil <| .keep [GMap.blk (fun l : List UInt8 => Value.string ⟨l.toArray⟩) D.bool m0_37, .box 3 [.d (.int c1_0_38)], .box 3 [.d (.int c2_0_39)]] [0, 5, 6, 7, 23, 24, 25, 26] (.c I <| .c I <| .c I <| .c I <| .c I <| .c I <| .c I <| .c I .nil) I <| .seq <| .condS I h (fun h => ?_) fun h => ?_
    · refine .skip <| .join [0, 5, 6, 7, 23, 24, 25] (fun (v : (GMap (List UInt8) Bool) × Int × Int) => []) (fun (v : (GMap (List UInt8) Bool) × Int × Int) => [(0, GMap.blk (fun l : List UInt8 => Value.string ⟨l.toArray⟩) D.bool v.1), (1, .box 3 [.d (.int v.2.1)]), (2, .box 3 [.d (.int v.2.2)])]) (.c I <| .c I <| .c I <| .c I <| .c I <| .c I <| .c I .nil) h (fun k_45 h => ?_) (fun v h => ?_)
      · refine .block <| .seq <| .region <| bK h fun x27_46 hx27_46 h => .op I I (.idx I I I U23 S127 hx27_46) <| .op I I (.load I I Y127 I) <| .allocStore I I I I I I I I (by simp) I I Z127 <| .nil <| .seq <| .seq <| .draw 20 Hm (by kernel_rfl) (by kernel_rfl) <| .op I I I I (.fieldAddr I I (G127_0 _)) <| .op I I I I (.load I I Y9 I) <| bK h fun x31_47 hx31_47 h => .op I I I I (.call I K143 I (lexer_Name_ok _ _ _ hx31_47)) <| .op I I I I (.move I I) <| .op I I I I (.fieldAddr I I (G127_0 _)) <| .op I I I I (.load I I Y9 I) <| .op I I I I (.mapGet I U167 KT9 I I I (z := (false : Bool)) (.val Zv4)) <| .op I I I I (.not I I) <| .op I I I I (.fieldAddr I I (G127_1 _)) <| .op I I I I (.load I I Y3 I) <| bK h fun x39_48 hx39_48 h => .op I I I I (.call I K144 I (cells_within_ok _ _ _ _ _ hx39_48)) <| .op I I I I (.move I I) <| .op I I I I (.fieldAddr I I (G127_2 _)) <| .op I I I I (.load I I Y22 I) <| bK h fun x43_49 hx43_49 h => .op I I I I (.call I K145 I (cells_columned_ok _ _ _ _ hx43_49)) <| .op I I I I (.load I I Y127 I) <| bK h fun x45_50 hx45_50 h => .op I I I I (.call I K146 I (cells_ranged_ok _ _ _ hx45_50)) <| .op I I I I (.buildSl [_, _, _, _, _] I I E144 I (fun _ => I) I (enc := D.bool)) <| bK h fun x47_51 hx47_51 h => .op I I I I (.call I K141 I (cells_all_ok _ _ _ hx47_51)) <| .op I I I I (.not I I) <| .nil <| .nil <| .keep [GMap.blk (fun l : List UInt8 => Value.string ⟨l.toArray⟩) D.bool m0_37, .box 3 [.d (.int c1_0_38)], .box 3 [.d (.int c2_0_39)]] [0, 5, 6, 7, 9, 23, 24, 25, 48] (.c I <| .c I <| .c I <| .c I <| .c I <| .c I <| .c I <| .c I <| .c I .nil) I <| .condS I h (fun h => ?_) fun h => ?_
        · refine .seq <| .region <| .op I I (.assign I I) <| .nil <| .ret ?_
          cases h
          exact retOne I (.d _)
        · refine .skip <| .seq <| .region <| .op I I (.move I I) <| .op I I (.fieldAddr I I (G127_0 _)) <| .op I I (.load I I Y9 I) <| .mapPut (k := x27_46.name) (v := true) I I I U167 KT9 I I I I <| .nil <| .seq <| .region <| .op I I (.assign I I) <| .nil <| .seq <| .seq <| .region <| .op I I (.load I I Y127 I) <| bK h fun x53_52 hx53_52 h => .op I I (.call I K147 I (cells_isStrict_ok _ _ _ hx53_52)) <| .nil <| .condS I h (fun h => ?_) fun h => ?_
          · refine .region <| .op I I (.assign I I) <| .nil <| .seq <| .seq <| .draw 6 Hm (by kernel_rfl) (by kernel_rfl) <| .op I I I I (.fieldAddr I I (G127_4 _)) <| .op I I I I (.load I I Y3 I) <| .op I I I I (.move I I) <| .op I I I I (.nilCheck_loc I I I) <| .op I I I I (.loadLoc1 I I I Y3 I) <| .op I I I I (.neq I I I) <| .nil <| .nil <| .condS I h (fun h => ?_) fun h => ?_
            · refine .seq <| .region <| .op I I (.assign I I) <| .nil <| .ret ?_
              cases h
              exact retOne I (.d _)
            · refine .skip <| .draw 9 Hm (by kernel_rfl) (by kernel_rfl) <| .op I I I I (.move I I) <| .op I I I I (.nilCheck_loc I I I) <| .op I I I I (.loadLoc1 I I I Y3 I) <| .op I I I I (.move I I) <| .op I I I I (.fieldAddr I I (G127_2 _)) <| .op I I I I (.load I I Y22 I) <| bK h fun x66_53 hx66_53 h => .op I I I I (.call I K148 I (cells_width_ok _ _ _ _ hx66_53)) <| .op I I I I (.add6 I I I) <| .op I I I I (.nilCheck_loc I I I) <| .nil <| .store I I I I I I (.ofD I) C3 I (Nat.le_of_ble_eq_true I) <| .nil ?_
              exact ⟨_, h, ⟨_, I, I, I, I, I, I, I, I, I, I, trivial⟩⟩
          · refine .skip <| .seq <| .seq <| .draw 6 Hm (by kernel_rfl) (by kernel_rfl) <| .op I I I I (.fieldAddr I I (G127_4 _)) <| .op I I I I (.load I I Y3 I) <| .op I I I I (.move I I) <| .op I I I I (.nilCheck_loc I I I) <| .op I I I I (.loadLoc1 I I I Y3 I) <| .op I I I I (.neq I I I) <| .nil <| .nil <| .condS I h (fun h => ?_) fun h => ?_
            · refine .seq <| .region <| .op I I (.assign I I) <| .nil <| .ret ?_
              cases h
              exact retOne I (.d _)
            · refine .skip <| .draw 9 Hm (by kernel_rfl) (by kernel_rfl) <| .op I I I I (.move I I) <| .op I I I I (.nilCheck_loc I I I) <| .op I I I I (.loadLoc1 I I I Y3 I) <| .op I I I I (.move I I) <| .op I I I I (.fieldAddr I I (G127_2 _)) <| .op I I I I (.load I I Y22 I) <| bK h fun x66_54 hx66_54 h => .op I I I I (.call I K148 I (cells_width_ok _ _ _ _ hx66_54)) <| .op I I I I (.add6 I I I) <| .op I I I I (.nilCheck_loc I I I) <| .nil <| .store I I I I I I (.ofD I) C3 I (Nat.le_of_ble_eq_true I) <| .nil ?_
              exact ⟨_, h, ⟨_, I, I, I, I, I, I, I, I, I, I, trivial⟩⟩
      · obtain ⟨m0_42, c1_0_43, c2_0_44⟩ := v
        refine .region <| .op I I (.add6 I I I) <| .op I I (.move I I) <| .nil ?_
        exact ⟨_, h, ⟨_, I, I, I, I, I, I, I, I, I, I, trivial⟩⟩
    · refine .exit <| .seq <| .plain 6 I <| .op I I I I (.loadLoc1 I I I Y3 I) <| .op I I I I (.leq I I I) <| .op I I I I (.move I I) <| .jAnd 2 (b2 := decide (c2_0_39 ≤ 64)) I I I I (.inl I) (fun _ _ _ h1 => by cases h1) I I (fun hb_55 => ?_) ?_
      · refine .gop I I I I I I (.loadLoc1 I I I Y3 I) <| .gop I I I I I I (.leq I I I) ?_
        exact .nil I
      refine .nil <| .op I I (.assign I I) <| .nil <| .ret ?_
      cases h
      exact retOne I (.d _)
set_option maxHeartbeats 2000000 in
theorem model_distinct_ok (n : Nat) (t0 : List (List UInt8)) (r : Bool) (h : model_distinct n t0 = some r) : Pure Tryz.prog 95 [.sl 1 (List.map D.str t0)] (.bool r) := by
  refine Pure.ot Tryz.func95 I Tryz.ntmps95 I fun A w => .seq <| .region <| .op I I (.assign I I) <| .nil <| .seq <| .region <| .makeMap (fun l : List UInt8 => Value.string ⟨l.toArray⟩) D.bool I I I I <| .op I I (.assign I I) <| .nil <| .seq <| .seq <| .region <| .op I I (.move I I) <| .op I I (.len I U24 I) <| .op I I (.move I I) <| .nil <| .block <| .loopS [3, 7, 8] (fun (v : (GMap (List UInt8) Bool) × Int) => [(9, .d (.int v.2))]) (fun (v : (GMap (List UInt8) Bool) × Int) => [(0, GMap.blk (fun l : List UInt8 => Value.string ⟨l.toArray⟩) D.bool v.1)]) (.c I <| .c I <| .c I .nil) h ⟨_, I, I, I, I, I, I, I, trivial⟩ (fun rec_13 v h => ?_)
  obtain ⟨m0_11, x9_12⟩ := v
  refine .seq <| .region <| .op I I (.lss I I I) <| .nil <| .keep [GMap.blk (fun l : List UInt8 => Value.string ⟨l.toArray⟩) D.bool m0_11] [3, 7, 8, 9, 10] (.c I <| .c I <| .c I <| .c I <| .c I .nil) I <| .seq <| .condS I h (fun h => ?_) fun h => ?_
  · refine .skip <| .seq <| .block <| .seq <| .region <| bK h fun x11_14 hx11_14 h => .op I I (.idx I I I U24 S9 hx11_14) <| .op I I (.load I I Y9 I) <| .op I I (.assign I I) <| .nil <| .seq <| .seq <| .plain 8 I <| .op I I I I (.move I I) <| bK h fun x14_15 hx14_15 h => .op I I I I (.call I K143 I (lexer_Name_ok _ _ _ hx14_15)) <| .op I I I I (.not I I) <| .op I I I I (.move I I) <| .jOr 3 (b2 := (m0_11.get? x11_14).getD false) I I I I (.inl I) (fun _ _ _ h1 => by cases h1) I I (fun hb_16 => ?_) ?_
    · refine .gop I I I I I I (.move I I) <| .gop I I I I I I (.move I I) <| .gop I I I I I I (.mapGet I U167 KT9 I I I (z := (false : Bool)) (.val Zv4)) ?_
      exact .nil I
    refine .nil <| .nil <| .condS I h (fun h => ?_) fun h => ?_
    · refine .seq <| .region <| .op I I (.assign I I) <| .nil <| .ret ?_
      cases h
      exact retOne I (.d _)
    · refine .skip <| .region <| .op I I (.move I I) <| .op I I (.move I I) <| .mapPut (k := x11_14) (v := true) I I I U167 KT9 I I I I <| .nil <| .region <| .op I I (.add6 I I I) <| .op I I (.move I I) <| .nil ?_
      exact ⟨_, h, ⟨_, I, I, I, I, I, I, I, trivial⟩⟩
  · refine .exit <| .seq <| .region <| .op I I (.assign I I) <| .nil <| .ret ?_
    cases h
    exact retOne I (.d _)
set_option maxHeartbeats 2000000 in
theorem math_bits_Mul64_ok (n : Nat) (t0 : Int) (t1 : Int) (r : Int × Int) (h : math_bits_Mul64 n t0 t1 = some r) : Pure Tryz.prog 220 [.val (.int .u64 t0), .val (.int .u64 t1)] (.tup [.val (.int .u64 r.1), .val (.int .u64 r.2)]) := by
  refine Pure.ot Tryz.func220 I Tryz.ntmps220 I fun A w => .seq <| .region <| .op I I (.assign I I) <| .op I I (.assign I I) <| .nil <| .seq <| .region <| .op I I (.move I I) <| .op I I (.band I I I) <| .op I I (.assign I I) <| .nil <| .seq <| .region <| .op I I (.move I I) <| bK h fun x17_1 hx17_1 h => .op I I (.shr I I I hx17_1) <| .op I I (.assign I I) <| .nil <| .seq <| .region <| .op I I (.move I I) <| .op I I (.band I I I) <| .op I I (.assign I I) <| .nil <| .seq <| .region <| .op I I (.move I I) <| bK h fun x21_2 hx21_2 h => .op I I (.shr I I I hx21_2) <| .op I I (.assign I I) <| .nil <| .seq <| .region <| .op I I (.move I I) <| .op I I (.move I I) <| .op I I (.mul I I I) <| .op I I (.assign I I) <| .nil <| .keep [] [0, 1, 6, 7, 8, 9, 10] (.c I <| .c I <| .c I <| .c I <| .c I <| .c I <| .c I .nil) I ?_
  refine .seq <| .region <| .op I I (.move I I) <| .op I I (.move I I) <| .op I I (.mul I I I) <| .op I I (.move I I) <| bK h fun x29_3 hx29_3 h => .op I I (.shr I I I hx29_3) <| .op I I (.add I I I) <| .op I I (.assign I I) <| .nil <| .seq <| .region <| .op I I (.move I I) <| .op I I (.band I I I) <| .op I I (.assign I I) <| .nil <| .seq <| .region <| .op I I (.move I I) <| bK h fun x34_4 hx34_4 h => .op I I (.shr I I I hx34_4) <| .op I I (.assign I I) <| .nil <| .seq <| .region <| .op I I (.move I I) <| .op I I (.move I I) <| .op I I (.move I I) <| .op I I (.mul I I I) <| .op I I (.add I I I) <| .op I I (.assign I I) <| .nil <| .keep [] [0, 1, 7, 9, 12, 13] (.c I <| .c I <| .c I <| .c I <| .c I <| .c I .nil) I <| .seq <| .region <| .op I I (.move I I) <| .op I I (.move I I) <| .op I I (.mul I I I) <| .op I I (.move I I) ?_
  refine .op I I (.add I I I) <| .op I I (.move I I) <| bK h fun x46_5 hx46_5 h => .op I I (.shr I I I hx46_5) <| .op I I (.add I I I) <| .op I I (.assign I I) <| .nil <| .seq <| .region <| .op I I (.move I I) <| .op I I (.move I I) <| .op I I (.mul I I I) <| .op I I (.assign I I) <| .nil <| .ret ?_
  cases h
  exact retTwo I I (.d _) (.d _)
theorem math_bits_Mul_ok (n : Nat) (t0 : Int) (t1 : Int) (r : Int × Int) (h : math_bits_Mul n t0 t1 = some r) : Pure Tryz.prog 195 [.val (.int .u64 t0), .val (.int .u64 t1)] (.tup [.val (.int .u64 r.1), .val (.int .u64 r.2)]) := by
  refine Pure.ot Tryz.func195 I Tryz.ntmps195 I fun A w => .seq <| .region <| .op I I (.assign I I) <| .op I I (.assign I I) <| .nil <| .seq <| .condF I <| .skip <| .seq <| .region <| .op I I (.move I I) <| .op I I (.move I I) <| bK h fun x25_1 hx25_1 h => .op I I (.call I K220 I (math_bits_Mul64_ok _ _ _ _ hx25_1)) <| .op I I (.move I I) <| .op I I (.extract I I I) <| .op I I (.extract I I I) <| .op I I (.assign I I) <| .op I I (.assign I I) <| .nil <| .seq <| .region <| .op I I (.move I I) <| .op I I (.move I I) <| .op I I (.assign I I) <| .op I I (.assign I I) <| .nil <| .ret ?_
  cases h
  exact retTwo I I (.d _) (.d _)
set_option maxHeartbeats 2000000 in
theorem slices_Repeat_LRange_api_Range_ok (n : Nat) (t0 : List Range) (t1 : Int) (r : List Range) (h : slices_Repeat_LRange_api_Range n t0 t1 = some r) : Pure Tryz.prog 149 [.sl 2 (List.map Range.enc t0), .int t1] (.sl 2 (List.map Range.enc r)) := by
  refine Pure.ot Tryz.func149 I Tryz.ntmps149 I fun A w => .seq <| .region <| .op I I (.nilS 2 (α := Range) Range.enc I) <| .nil <| .seq <| .seq <| .region <| .op I I (.move I I) <| .op I I (.lss I I I) <| .nil <| .condS I h (fun h => ?_) fun h => ?_
  · refine .region ?_
    cases h
  · refine .skip <| .seq <| .region <| .op I I (.move I I) <| .op I I (.len I U48 I) <| .op I I (.conv I U3 U210 I) <| .op I I (.move I I) <| .op I I (.conv I U3 U210 I) <| bK h fun x18_1 hx18_1 h => .op I I (.call I K195 I (math_bits_Mul_ok _ _ _ _ hx18_1)) <| .op I I (.move I I) <| .op I I (.extract I I I) <| .op I I (.extract I I I) <| .op I I (.assign I I) <| .op I I (.assign I I) <| .nil <| .seq <| .seq <| .plain 6 I <| .op I I I I (.move I I) <| .op I I I I (.gtr I I I) <| .op I I I I (.move I I) <| .jOr 2 (b2 := decide (9223372036854775807 < x18_1.2)) I I I I (.inl I) (fun _ _ _ h1 => by cases h1) I I (fun hb_2 => ?_) ?_
    · refine .gop I I I I I I (.move I I) <| .gop I I I I I I (.gtr I I I) ?_
      exact .nil I
    refine .nil <| .nil <| .keep [] [0, 6, 26] (.c I <| .c I <| .c I .nil) I <| .condS I h (fun h => ?_) fun h => ?_
    · refine .region ?_
      cases h
    · refine .skip <| .seq <| .region <| .op I I (.move I I) <| .op I I (.conv I U210 U3 I) <| bK h fun x30_3 hx30_3 h => .makeVec (enc := Range.enc) (z := (⟨0, 0⟩ : Range)) I I I I E48 I I I (.agg Zc87 (ds' := [.int 0, .int 0]) (.cons (.refl _) (.cons (.refl _) (.nil)))) hx30_3 <| .op I I (.assign I I) <| .nil <| .seq <| .region <| .op I I (.move I I) <| .op I I (.move I I) <| .asSub 31 I <| .copySub (enc := Range.enc) (l := x30_3) (ys := t0) I I I I E48 I I I (.d I) (fun _ => I) <| .relen 7 I (copyTo_lenW _ t0).symm <| .relen 30 I (copyTo_lenW _ t0).symm <| .op I I (.assign I I) <| .nil <| .seq <| .block <| .loopS [] (fun (v : (List Range) × Int) => [(7, .vec 0 (List.length v.1)), (8, .d (.int v.2))]) (fun (v : (List Range) × Int) => [(0, .vec 87 2 (List.map Range.enc v.1))]) (.nil) h ⟨_, I, I, I, I, I, trivial⟩ (fun rec_14 v h => ?_)
      obtain ⟨b0_12, x8_13⟩ := v
      refine .seq <| .seq <| .region <| .op I I (.move I I) <| .op I I (.move I I) <| .op I I (.lenV I U48 I I I) <| .op I I (.lss I I I) <| .nil <| .keep [.vec 87 2 (List.map Range.enc b0_12)] [7, 8, 37] (.c I <| .c I <| .c I .nil) I <| .condS I h (fun h => ?_) fun h => ?_
      · refine .skip <| .block <| .drawF 7 [0] Hm (by kernel_rfl) (by kernel_rfl) <| .op I I I I (.move I I) <| .op I I I I (.move I I) <| .op I I I I (.move I I) <| bK h fun x41_15 hx41_15 h => .op I I I I (.subL I I I I I U48 S87 hx41_15) <| .op I I I I (.move I I) <| .op I I I I (.move I I) <| bK h fun x44_16 hx44_16 h => .op I I I I (.subH I I I I I U48 S87 hx44_16) <| .nil ⟨.move I I (.nil), ?_⟩
        refine .copySub (enc := Range.enc) (l := b0_12) (ys := ((b0_12.drop 0).take (x8_13.toNat - 0))) I I I I E48 I I I (.sub I I I) (fun _ => I) <| .relen 7 I (copyTo_lenL hx41_15 ((b0_12.drop 0).take (x8_13.toNat - 0))).symm <| .relen 39 I (copyTo_lenL hx41_15 ((b0_12.drop 0).take (x8_13.toNat - 0))).symm <| .relen 42 I (copyTo_lenL hx41_15 ((b0_12.drop 0).take (x8_13.toNat - 0))).symm <| .op I I (.add6 I I I) <| .op I I (.assign I I) <| .nil ?_
        exact ⟨_, h, ⟨_, I, I, I, I, I, trivial⟩⟩
      · refine .exit <| .seq <| .region <| .op I I (.move I I) <| .op I I (.assign I I) <| .nil <| .ret ?_
        cases h
        exact retOne I (.vec I (by simp))
set_option maxHeartbeats 2000000 in
theorem cells_Ranges_ok (n : Nat) (t0 : List Int) (t1 : List Table) (t2 : Bool) (r : List Range) (h : cells_Ranges n t0 t1 t2 = some r) : Pure Tryz.prog 96 [.sl 1 (List.map D.int t0), .sl 6 (List.map Table.enc t1), .bool t2] (.sl 2 (List.map Range.enc r)) := by
  refine Pure.ot Tryz.func96 I Tryz.ntmps96 I fun A w => .seq <| .region <| .op I I (.nilS 2 (α := Range) Range.enc I) <| .nil <| .seq <| .seq <| .region <| .op I I (.move I I) <| .op I I (.move I I) <| bK h fun x12_1 hx12_1 h => .op I I (.call I K94 I (cells_Valid_ok _ _ _ _ hx12_1)) <| .op I I (.not I I) <| .nil <| .condS I h (fun h => ?_) fun h => ?_
  · refine .seq <| .region <| .op I I (.nilS 2 (α := Range) Range.enc I) <| .nil <| .ret ?_
    cases h
    exact retOne I (.d _)
  · refine .skip <| .seq <| .region <| .op I I (.assign I I) <| .nilVec 7 2 87 I <| .nil <| .seq <| .seq <| .region <| .op I I (.move I I) <| .op I I (.len I U23 I) <| .op I I (.move I I) <| .nil <| .block <| .loopS [0, 2, 14, 15] (fun (v : (List Range) × Int) => [(7, .vec 0 (List.length v.1)), (16, .d (.int v.2))]) (fun (v : (List Range) × Int) => [(0, .vec 87 2 (List.map Range.enc v.1))]) (.c I <| .c I <| .c I <| .c I .nil) h ⟨_, I, I, I, I, I, I, I, I, I, trivial⟩ (fun rec_22 v h => ?_)
    obtain ⟨b0_20, x16_21⟩ := v
    refine .seq <| .region <| .op I I (.lss I I I) <| .nil <| .keep [.vec 87 2 (List.map Range.enc b0_20)] [0, 2, 7, 14, 15, 16, 17] (.c I <| .c I <| .c I <| .c I <| .c I <| .c I <| .c I .nil) I <| .seq <| .condS I h (fun h => ?_) fun h => ?_
    · refine .skip <| .join [0, 2, 14, 15, 16] (fun (v : (List Range)) => [(7, .vec 0 (List.length v))]) (fun (v : (List Range)) => [(0, .vec 87 2 (List.map Range.enc v))]) (.c I <| .c I <| .c I <| .c I <| .c I .nil) h (fun k_24 h => ?_) (fun b0_23 h => ?_)
      · refine .block <| .seq <| .region <| bK h fun x18_25 hx18_25 h => .op I I (.idx I I I U23 S127 hx18_25) <| .op I I (.load I I Y127 I) <| .allocStore I I I I I I I I (by simp) I I Z127 <| .nil <| .seq <| .region <| .op I I (.load I I Y127 I) <| bK h fun x21_26 hx21_26 h => .op I I (.call I K147 I (cells_isStrict_ok _ _ _ hx21_26)) <| .op I I (.move I I) <| .op I I (.beq I U4 I I) <| .nil <| .condS I h (fun h => ?_) fun h => ?_
        · refine .draw 9 Hm (by kernel_rfl) (by kernel_rfl) <| .op I I I I (.move I I) <| .op I I I I (.fieldAddr I I (G127_3 _)) <| .op I I I I (.load I I Y87 I) <| .op I I I I (.buildSl [_] I I E48 I (fun _ => I) I (enc := Range.enc)) <| .op I I I I (.move I I) <| .op I I I I (.fieldAddr I I (G127_2 _)) <| .op I I I I (.load I I Y22 I) <| bK h fun x31_27 hx31_27 h => .op I I I I (.call I K148 I (cells_width_ok _ _ _ _ hx31_27)) <| bK h fun x32_28 hx32_28 h => .op I I I I (.call I K149 I (slices_Repeat_LRange_api_Range_ok _ _ _ _ hx32_28)) <| .nil <| bK h fun x33_29 hx33_29 h => .app I I I I I I I I E48 I (fun _ => I) hx33_29 <| .op I I (.assign I I) <| .nil ?_
          exact ⟨_, h, ⟨_, I, I, I, I, I, I, I, I, I, trivial⟩⟩
        · refine .skip ?_
          exact ⟨_, h, ⟨_, I, I, I, I, I, I, I, I, I, trivial⟩⟩
      · refine .region <| .op I I (.add6 I I I) <| .op I I (.move I I) <| .nil ?_
        exact ⟨_, h, ⟨_, I, I, I, I, I, I, I, I, I, trivial⟩⟩
    · refine .exit <| .seq <| .region <| .op I I (.move I I) <| .op I I (.assign I I) <| .nil <| .ret ?_
      cases h
      exact retOne I (.vec I (by simp))
theorem model_index_ok (n : Nat) (t0 : Int) (t1 : Int) (r : Bool) (h : model_index n t0 t1 = some r) : Pure Tryz.prog 150 [.int t0, .int t1] (.bool r) := by
  refine Pure.ot Tryz.func150 I Tryz.ntmps150 I fun A w => .seq <| .region <| .op I I (.assign I I) <| .nil <| .seq <| .plain 7 I <| .op I I I I (.move I I) <| .op I I I I (.geq I I I) <| .op I I I I (.move I I) <| .jAnd 3 (b2 := decide (t0 < t1)) I I I I (.inl I) (fun _ _ _ h1 => by cases h1) I I (fun hb_1 => ?_) ?_
  · refine .gop I I I I I I (.move I I) <| .gop I I I I I I (.move I I) <| .gop I I I I I I (.lss I I I) ?_
    exact .nil I
  refine .nil <| .op I I (.assign I I) <| .nil <| .ret ?_
  cases h
  exact retOne I (.d _)
theorem model_around_ok (n : Nat) (t0 : Int) (t1 : Int) (r : Bool) (h : model_around n t0 t1 = some r) : Pure Tryz.prog 156 [.int t0, .int t1] (.bool r) := by
  refine Pure.ot Tryz.func156 I Tryz.ntmps156 I fun A w => .seq <| .region <| .op I I (.assign I I) <| .nil <| .seq <| .plain 9 I <| .op I I I I (.move I I) <| .op I I I I (.move I I) <| .op I I I I (.neg6 I I) <| .op I I I I (.geq I I I) <| .op I I I I (.move I I) <| .jAnd 3 (b2 := decide (t0 ≤ t1)) I I I I (.inl I) (fun _ _ _ h1 => by cases h1) I I (fun hb_1 => ?_) ?_
  · refine .gop I I I I I I (.move I I) <| .gop I I I I I I (.move I I) <| .gop I I I I I I (.leq I I I) ?_
    exact .nil I
  refine .nil <| .op I I (.assign I I) <| .nil <| .ret ?_
  cases h
  exact retOne I (.d _)
set_option maxHeartbeats 2000000 in
theorem model_judge_row_ok (n : Nat) (t0 : Judge) (t1 : Row) (r : Bool) (h : model_judge_row n t0 t1 = some r) : Pure Tryz.prog 151 [Judge.enc t0, Row.enc t1] (.bool r) := by
  refine Pure.ot Tryz.func151 I Tryz.ntmps151 I fun A w => .seq <| .region <| .op I I (.box I I) <| .op I I (.box I I) <| .op I I (.assign I I) <| .nil <| .seq <| .region <| .op I I (.assign I I) <| .nil <| .seq <| .seq <| .region <| .op I I (.fieldAddr I I (G33_0 _)) <| .op I I (.load I I Y31 I) <| .op I I (.len I U31 I) <| .op I I (.move I I) <| .nil <| .block <| .loopS [2, 3, 9, 10] (fun (v : Int × Int) => [(5, .d (.int v.1)), (11, .d (.int v.2))]) (fun (v : Int × Int) => []) (.c I <| .c I <| .c I <| .c I .nil) h ⟨_, I, I, I, I, I, I, I, I, I, trivial⟩ (fun rec_17 v h => ?_)
  obtain ⟨x5_15, x11_16⟩ := v
  refine .seq <| .region <| .op I I (.lss I I I) <| .nil <| .keep [] [2, 3, 5, 9, 10, 11, 12] (.c I <| .c I <| .c I <| .c I <| .c I <| .c I <| .c I .nil) I <| .seq <| .condS I h (fun h => ?_) fun h => ?_
  · refine .skip <| .seq <| .block <| .seq <| .region <| bK h fun x13_18 hx13_18 h => .op I I (.idx I I I U31 S41 hx13_18) <| .op I I (.load I I Y41 I) <| .allocStore I I I I I I I I (by simp) I I Z41 <| .nil <| .seq <| .seq <| .plain 23 I <| .op I I I I (.fieldAddr I I (G41_0 _)) <| .op I I I I (.load I I Y3 I) <| .op I I I I (.move I I) <| .op I I I I (.leq I I I) <| .op I I I I (.move I I) <| .jOr 6 (b2 := decide ((t0.strict.length : Int) ≤ x13_18.cell)) I I I I (.inl I) (fun _ _ _ h1 => by cases h1) I I (fun hb_19 => ?_) ?_
    · refine .gop I I I I I I (.fieldAddr I I (G41_0 _)) <| .gop I I I I I I (.load I I Y3 I) <| .gop I I I I I I (.fieldAddr I I (G136_1 _)) <| .gop I I I I I I (.load I I Y48 I) <| .gop I I I I I I (.len I U48 I) <| .gop I I I I I I (.geq I I I) ?_
      exact .nil I
    refine .op I I I I (.move I I) <| .jOr 3 (b2 := x13_18.factor == 0) I I I I (.inl I) (fun _ _ _ h1 => by cases h1) I I (fun hb_20 => ?_) ?_
    · refine .gop I I I I I I (.fieldAddr I I (G41_1 _)) <| .gop I I I I I I (.load I I Y3 I) <| .gop I I I I I I (.eql I I I) ?_
      exact .nil I
    refine .op I I I I (.move I I) <| gK h fun hc_22 h => .jOr 4 (b2 := !((model_around n x13_18.factor 1000).getD default)) I I I I (.inl I) (fun _ _ _ h1 => by cases h1) I I (fun hb_21 => ?_) ?_
    · refine .gop I I I I I I (.fieldAddr I I (G41_1 _)) <| .gop I I I I I I (.load I I Y3 I) <| .gop I I I I I I (.call I K156 I (model_around_ok _ _ _ _ (someD (impF hc_22 hb_21)))) <| .gop I I I I I I (.not I I) ?_
      exact .nil I
    refine .nil <| .nil <| .keep [] [2, 3, 7, 9, 10, 11, 37] (.c I <| .c I <| .c I <| .c I <| .c I <| .c I <| .c I .nil) I <| .condS I h (fun h => ?_) fun h => ?_
    · refine .seq <| .region <| .op I I (.assign I I) <| .nil <| .ret ?_
      cases h
      exact retOne I (.d _)
    · refine .skip <| .region <| .op I I (.fieldAddr I I (G41_0 _)) <| .op I I (.load I I Y3 I) <| .op I I (.assign I I) <| .nil <| .region <| .op I I (.add6 I I I) <| .op I I (.move I I) <| .nil ?_
      exact ⟨_, h, ⟨_, I, I, I, I, I, I, I, I, I, trivial⟩⟩
  · refine .exit <| .seq <| .region <| .op I I (.fieldAddr I I (G33_1 _)) <| .op I I (.load I I Y3 I) <| bK h fun x43_23 hx43_23 h => .op I I (.call I K156 I (model_around_ok _ _ _ _ hx43_23)) <| .op I I (.assign I I) <| .nil <| .ret ?_
    cases h
    exact retOne I (.d _)
set_option maxHeartbeats 2000000 in
theorem model_judge_graph_1_ok (n : Nat) (t0 : Table) (t1 : Constraint) (t2 : Judge) (r : Bool) (h : model_judge_graph_1 n t0 t1 t2 = some r) : Pure Tryz.prog 197 [Table.enc t0, .ref (Constraint.enc t1), .ref (Judge.enc t2)] (.bool r) := by
  refine Pure.ot Tryz.func197 I Tryz.ntmps197 I fun A w => .seq <| .region <| .op I I (.box I I) <| .op I I (.assign I I) <| .nil <| .seq <| .draw 42 Hm (by kernel_rfl) (by kernel_rfl) <| .op I I I I (.fieldAddr I I (G127_1 _)) <| .op I I I I (.load I I Y3 I) <| .op I I I I (.eql I I I) <| .op I I I I (.move I I) <| .jAnd 4 (b2 := (t0.columns.length : Int) == 2) I I I I (.inl I) (fun _ _ _ h1 => by cases h1) I I (fun hb_1 => ?_) ?_
  · refine .gop I I I I I I (.fieldAddr I I (G127_2 _)) <| .gop I I I I I I (.load I I Y22 I) <| .gop I I I I I I (.len I U22 I) <| .gop I I I I I I (.eql I I I) ?_
    exact .nil I
  refine .op I I I I (.move I I) <| gK h fun hc_3 h => gK h fun hc_4 h => .jAnd 9 (b2 := ((idx t0.columns 0).getD default) == ((idx t0.columns 1).getD default)) I I I I (.inl I) (fun _ _ _ h1 => by cases h1) I I (fun hb_2 => ?_) ?_
  · refine .gop I I I I I I (.fieldAddr I I (G127_2 _)) <| .gop I I I I I I (.load I I Y22 I) <| .gop I I I I I I (.idx I I I U22 S3 (someD (impT hc_3 hb_2))) <| .gop I I I I I I (.load I I Y3 I) <| .gop I I I I I I (.fieldAddr I I (G127_2 _)) <| .gop I I I I I I (.load I I Y22 I) <| .gop I I I I I I (.idx I I I U22 S3 (someD (impT hc_4 hb_2))) <| .gop I I I I I I (.load I I Y3 I) <| .gop I I I I I I (.eql I I I) ?_
    exact .nil I
  refine .op I I I I (.move I I) <| .jAnd 5 (b2 := t0.first == t1.first) I I I I (.inl I) (fun _ _ _ h1 => by cases h1) I I (fun hb_5 => ?_) ?_
  · refine .gop I I I I I I (.fieldAddr I I (G127_4 _)) <| .gop I I I I I I (.load I I Y3 I) <| .gop I I I I I I (.fieldAddr I I (G78_3 _)) <| .gop I I I I I I (.load I I Y3 I) <| .gop I I I I I I (.eql I I I) ?_
    exact .nil I
  refine .op I I I I (.move I I) <| gK h fun hc_7 h => gK h fun hc_8 h => .jAnd 12 (b2 := ((idx t2.model.sorts ((idx t0.columns 0).getD default)).getD default) == t1.size) I I I I (.inl I) (fun _ _ _ h1 => by cases h1) I I (fun hb_6 => ?_) ?_
  · refine .gop I I I I I I (.fieldAddr I I (G136_0 _)) <| .gop I I I I I I (.fieldAddr I I (G30_0 _)) <| .gop I I I I I I (.load I I Y22 I) <| .gop I I I I I I (.fieldAddr I I (G127_2 _)) <| .gop I I I I I I (.load I I Y22 I) <| .gop I I I I I I (.idx I I I U22 S3 (someD (impT hc_7 hb_6))) <| .gop I I I I I I (.load I I Y3 I) <| .gop I I I I I I (.idx I I I U22 S3 (someD (impT hc_8 hb_6))) <| .gop I I I I I I (.load I I Y3 I) <| .gop I I I I I I (.fieldAddr I I (G78_4 _)) <| .gop I I I I I I (.load I I Y3 I) <| .gop I I I I I I (.eql I I I) ?_
    exact .nil I
  refine .op I I I I (.assign I I) <| .nil <| .nil <| .keep [] [4] (.c I .nil) I <| .ret ?_
  cases h
  exact retOne I (.d _)
theorem slices_IndexFunc_LTable_api_Table_ok (n : Nat) (t0 : List Table) (t1 : Table → Option Bool) (F1 : D) (hF1 : ∀ (q0 : Table) (y : Bool), t1 q0 = some y → Dyn Tryz.prog F1 [Table.enc q0] (.bool y)) (r : Int) (h : slices_IndexFunc_LTable_api_Table n t0 t1 = some r) : Pure Tryz.prog 221 [.sl 6 (List.map Table.enc t0), F1] (.int r) := by
  refine Pure.ot Tryz.func221 I Tryz.ntmps221 I fun A w => .seq <| .region <| .op I I (.assign I I) <| .nil <| .seq <| .seq <| .region <| .op I I (.move I I) <| .op I I (.len I U23 I) <| .op I I (.move I I) <| .nil <| .block <| .loopS [0, 1, 7] (fun (v : Int) => [(8, .d (.int v))]) (fun (v : Int) => []) (.c I <| .c I <| .c I .nil) h ⟨_, I, I, I, I, I, I, I, trivial⟩ (fun rec_8 x8_7 h => ?_)
  refine .seq <| .region <| .op I I (.lss I I I) <| .nil <| .keep [] [0, 1, 7, 8, 9] (.c I <| .c I <| .c I <| .c I <| .c I .nil) I <| .seq <| .condS I h (fun h => ?_) fun h => ?_
  · refine .skip <| .seq <| .block <| .seq <| .region <| .op I I (.move I I) <| .op I I (.assign I I) <| .nil <| .seq <| .region <| .op I I (.move I I) <| .op I I (.move I I) <| .op I I (.move I I) <| bK h fun x14_9 hx14_9 h => .op I I (.idx I I I U23 S127 hx14_9) <| .op I I (.load I I Y127 I) <| bK h fun x16_10 hx16_10 h => .op I I (.dyn I I I (hF1 _ _ hx16_10)) <| .nil <| .condS I h (fun h => ?_) fun h => ?_
    · refine .seq <| .region <| .op I I (.move I I) <| .op I I (.assign I I) <| .nil <| .ret ?_
      cases h
      exact retOne I (.d _)
    · refine .skip <| .region <| .op I I (.add6 I I I) <| .op I I (.move I I) <| .nil ?_
      exact ⟨_, h, ⟨_, I, I, I, I, I, I, I, trivial⟩⟩
  · refine .exit <| .seq <| .region <| .op I I (.assign I I) <| .nil <| .ret ?_
    cases h
    exact retOne I (.d _)
theorem slices_ContainsFunc_LTable_api_Table_ok (n : Nat) (t0 : List Table) (t1 : Table → Option Bool) (F1 : D) (hF1 : ∀ (q0 : Table) (y : Bool), t1 q0 = some y → Dyn Tryz.prog F1 [Table.enc q0] (.bool y)) (r : Bool) (h : slices_ContainsFunc_LTable_api_Table n t0 t1 = some r) : Pure Tryz.prog 196 [.sl 6 (List.map Table.enc t0), F1] (.bool r) := by
  refine Pure.ot Tryz.func196 I Tryz.ntmps196 I fun A w => .seq <| .region <| .op I I (.assign I I) <| .nil <| .seq <| .region <| .op I I (.move I I) <| .op I I (.move I I) <| bK h fun x7_1 hx7_1 h => .op I I (.call I K221 I (slices_IndexFunc_LTable_api_Table_ok _ _ _ _ hF1 _ hx7_1)) <| .op I I (.geq I I I) <| .op I I (.assign I I) <| .nil <| .ret ?_
  cases h
  exact retOne I (.d _)
theorem model_judge_graph_ok (n : Nat) (t0 : Judge) (t1 : Constraint) (r : Bool) (h : model_judge_graph n t0 t1 = some r) : Pure Tryz.prog 152 [Judge.enc t0, Constraint.enc t1] (.bool r) := by
  refine Pure.ot Tryz.func152 I Tryz.ntmps152 I fun A w => .seq <| .region <| .op I I (.box I I) <| .op I I (.box I I) <| .op I I (.assign I I) <| .nil <| .seq <| .plain 18 I <| .op I I I I (.fieldAddr I I (G78_2 _)) <| .op I I I I (.fieldAddr I I (G33_0 _)) <| .op I I I I (.load I I Y31 I) <| .op I I I I (.len I U31 I) <| .op I I I I (.eql I I I) <| .op I I I I (.move I I) <| .jAnd 4 (b2 := t1.row.bound == 0) I I I I (.inl I) (fun _ _ _ h1 => by cases h1) I I (fun hb_1 => ?_) ?_
  · refine .gop I I I I I I (.fieldAddr I I (G78_2 _)) <| .gop I I I I I I (.fieldAddr I I (G33_1 _)) <| .gop I I I I I I (.load I I Y3 I) <| .gop I I I I I I (.eql I I I) ?_
    exact .nil I
  refine .op I I I I (.move I I) <| gK h fun hc_3 h => .jAnd 5 (b2 := ((slices_ContainsFunc_LTable_api_Table n t0.model.tables (fun q0 => model_judge_graph_1 n q0 t1 t0)).getD default)) I I I I (.inl I) (fun _ _ _ h1 => by cases h1) I I (fun hb_2 => ?_) ?_
  · refine .gop I I I I I I (.fieldAddr I I (G136_0 _)) <| .gop I I I I I I (.fieldAddr I I (G30_1 _)) <| .gop I I I I I I (.load I I Y23 I) <| .gop I I I I I I (.makeFunc I I) <| .gop I I I I I I (.call I K196 I (slices_ContainsFunc_LTable_api_Table_ok _ _ _ _ (fun q0 y hq => ⟨_, _, I, K197, model_judge_graph_1_ok _ q0 _ _ _ hq⟩) _ (someD (impT hc_3 hb_2)))) ?_
    exact .nil I
  refine .nil <| .op I I (.assign I I) <| .nil <| .keep [] [4] (.c I .nil) I <| .ret ?_
  cases h
  exact retOne I (.d _)
set_option maxHeartbeats 2000000 in
theorem slices_Equal_LTerm_api_Term_ok (n : Nat) (t0 : List Term) (t1 : List Term) (r : Bool) (h : slices_Equal_LTerm_api_Term n t0 t1 = some r) : Pure Tryz.prog 198 [.sl 2 (List.map Term.enc t0), .sl 2 (List.map Term.enc t1)] (.bool r) := by
  refine Pure.ot Tryz.func198 I Tryz.ntmps198 I fun A w => .seq <| .region <| .op I I (.assign I I) <| .nil <| .seq <| .seq <| .region <| .op I I (.move I I) <| .op I I (.len I U31 I) <| .op I I (.move I I) <| .op I I (.len I U31 I) <| .op I I (.neq I I I) <| .nil <| .condS I h (fun h => ?_) fun h => ?_
  · refine .seq <| .region <| .op I I (.assign I I) <| .nil <| .ret ?_
    cases h
    exact retOne I (.d _)
  · refine .skip <| .seq <| .seq <| .region <| .op I I (.move I I) <| .op I I (.len I U31 I) <| .op I I (.move I I) <| .nil <| .block <| .loopS [0, 1, 12] (fun (v : Int) => [(13, .d (.int v))]) (fun (v : Int) => []) (.c I <| .c I <| .c I .nil) h ⟨_, I, I, I, I, I, I, I, trivial⟩ (fun rec_8 x13_7 h => ?_)
    refine .seq <| .region <| .op I I (.lss I I I) <| .nil <| .keep [] [0, 1, 12, 13, 14] (.c I <| .c I <| .c I <| .c I <| .c I .nil) I <| .seq <| .condS I h (fun h => ?_) fun h => ?_
    · refine .skip <| .seq <| .block <| .seq <| .region <| .op I I (.move I I) <| .op I I (.assign I I) <| .nil <| .seq <| .draw 9 Hm (by kernel_rfl) (by kernel_rfl) <| .op I I I I (.move I I) <| .op I I I I (.move I I) <| bK h fun x18_9 hx18_9 h => .op I I I I (.idx I I I U31 S41 hx18_9) <| .op I I I I (.load I I Y41 I) <| .op I I I I (.move I I) <| .op I I I I (.move I I) <| bK h fun x22_10 hx22_10 h => .op I I I I (.idx I I I U31 S41 hx22_10) <| .op I I I I (.load I I Y41 I) <| .op I I I I (.sneq I SE41 I I (xs := Term.vals _) (ys := Term.vals _) I I I I (SQ41 _ _)) <| .nil <| .nil <| .condS I h (fun h => ?_) fun h => ?_
      · refine .seq <| .region <| .op I I (.assign I I) <| .nil <| .ret ?_
        cases h
        exact retOne I (.d _)
      · refine .skip <| .region <| .op I I (.add6 I I I) <| .op I I (.move I I) <| .nil ?_
        exact ⟨_, h, ⟨_, I, I, I, I, I, I, I, trivial⟩⟩
    · refine .exit <| .seq <| .region <| .op I I (.assign I I) <| .nil <| .ret ?_
      cases h
      exact retOne I (.d _)
theorem model_single_ok (n : Nat) (t0 : Row) (t1 : Int) (t2 : Int) (t3 : Int) (r : Bool) (h : model_single n t0 t1 t2 t3 = some r) : Pure Tryz.prog 153 [Row.enc t0, .int t1, .int t2, .int t3] (.bool r) := by
  refine Pure.ot Tryz.func153 I Tryz.ntmps153 I fun A w => .seq <| .region <| .op I I (.box I I) <| .op I I (.assign I I) <| .nil <| .seq <| .plain 13 I <| .op I I I I (.fieldAddr I I (G33_0 _)) <| .op I I I I (.load I I Y31 I) <| .op I I I I (.move I I) <| .op I I I I (.move I I) <| .op I I I I (.castD (Term.enc (⟨t1, t2⟩ : Term)) I (.build I Pl41 (.agg Zc41 (ds' := [_, _]) (.cons (.refl _) (.cons (.refl _) (.nil)))) I I)) <| .op I I I I (.buildSl [_] I I E31 I (fun _ => I) I (enc := Term.enc)) <| bK h fun x15_1 hx15_1 h => .op I I I I (.call I K198 I (slices_Equal_LTerm_api_Term_ok _ _ _ _ hx15_1)) <| .op I I I I (.move I I) <| .jAnd 4 (b2 := t0.bound == t3) I I I I (.inl I) (fun _ _ _ h1 => by cases h1) I I (fun hb_2 => ?_) ?_
  · refine .gop I I I I I I (.fieldAddr I I (G33_1 _)) <| .gop I I I I I I (.load I I Y3 I) <| .gop I I I I I I (.move I I) <| .gop I I I I I I (.eql I I I) ?_
    exact .nil I
  refine .nil <| .op I I (.assign I I) <| .nil <| .keep [] [8] (.c I .nil) I <| .ret ?_
  cases h
  exact retOne I (.d _)
set_option maxHeartbeats 2000000 in
theorem model_judge_constraints_ok (n : Nat) (t0 : Judge) (r : Bool) (h : model_judge_constraints n t0 = some r) : Pure Tryz.prog 97 [Judge.enc t0] (.bool r) := by
  refine Pure.ot Tryz.func97 I Tryz.ntmps97 I fun A w => .seq <| .region <| .op I I (.box I I) <| .op I I (.assign I I) <| .nil <| .seq <| .seq <| .plain 16 I <| .op I I I I (.fieldAddr I I (G136_0 _)) <| .op I I I I (.fieldAddr I I (G30_3 _)) <| .op I I I I (.load I I Y25 I) <| .op I I I I (.len I U25 I) <| .op I I I I (.gtr I I I) <| .op I I I I (.move I I) <| .jOr 9 (b2 := decide ((t0.model.constraints.length : Int) < mul64 2 (t0.strict.length : Int))) I I I I (.inl I) (fun _ _ _ h1 => by cases h1) I I (fun hb_1 => ?_) ?_
  · refine .gop I I I I I I (.fieldAddr I I (G136_0 _)) <| .gop I I I I I I (.fieldAddr I I (G30_3 _)) <| .gop I I I I I I (.load I I Y25 I) <| .gop I I I I I I (.len I U25 I) <| .gop I I I I I I (.fieldAddr I I (G136_1 _)) <| .gop I I I I I I (.load I I Y48 I) <| .gop I I I I I I (.len I U48 I) <| .gop I I I I I I (.mul6 I I I) <| .gop I I I I I I (.lss I I I) ?_
    exact .nil I
  refine .nil <| .nil <| .keep [] [1, 23] (.c I <| .c I .nil) I <| .condS I h (fun h => ?_) fun h => ?_
  · refine .seq <| .region <| .op I I (.assign I I) <| .nil <| .ret ?_
    cases h
    exact retOne I (.d _)
  · refine .skip <| .seq <| .seq <| .region <| .op I I (.fieldAddr I I (G136_0 _)) <| .op I I (.fieldAddr I I (G30_3 _)) <| .op I I (.load I I Y25 I) <| .op I I (.len I U25 I) <| .op I I (.move I I) <| .nil <| .block <| .loopS [1, 26, 27] (fun (v : Int) => [(28, .d (.int v))]) (fun (v : Int) => []) (.c I <| .c I <| .c I .nil) h ⟨_, I, I, I, I, I, I, I, trivial⟩ (fun rec_43 x28_42 h => ?_)
    refine .seq <| .region <| .op I I (.lss I I I) <| .nil <| .keep [] [1, 26, 27, 28, 29] (.c I <| .c I <| .c I <| .c I <| .c I .nil) I <| .seq <| .condS I h (fun h => ?_) fun h => ?_
    · refine .skip <| .join [1, 26, 27, 28] (fun (v : Unit) => []) (fun (v : Unit) => []) (.c I <| .c I <| .c I <| .c I .nil) h (fun k_44 h => ?_) (fun v h => ?_)
      · refine .block <| .seq <| .region <| .op I I (.move I I) <| bK h fun x31_45 hx31_45 h => .op I I (.idx I I I U25 S78 hx31_45) <| .op I I (.load I I Y78 I) <| .allocZ I I I I (.agg Zc78 (ds' := [.int 0, .int 0, .sl 2 (List.map Term.enc []), .int 0, .int 0, .int 0]) (.cons (.refl _) (.cons (.refl _) (.cons (.nil _) (.cons (.refl _) (.cons (.refl _) (.cons (.refl _) (.nil)))))))) I <| .op I I (.assign I I) <| .store I I I I I I (.ofD I) C78 I (Nat.le_of_ble_eq_true I) <| .nil <| .join [1, 3, 4, 26, 27, 28] (fun (v : Unit) => []) (fun (v : Unit) => []) (.c I <| .c I <| .c I <| .c I <| .c I <| .c I .nil) h (fun k_46 h => ?_) (fun v h => ?_)
        · refine .block <| .seq <| .region <| .op I I (.fieldAddrLoc I I I F78_1) <| .op I I (.loadLoc1 I I I Y3 I) <| .op I I (.fieldAddr I I (G136_0 _)) <| .op I I (.fieldAddr I I (G30_2 _)) <| .op I I (.load I I Y24 I) <| .op I I (.len I U24 I) <| bK h fun x40_47 hx40_47 h => .op I I (.call I K150 I (model_index_ok _ _ _ _ hx40_47)) <| .op I I (.not I I) <| .op I I (.assign I I) <| .nil <| .condS I h (fun h => ?_) fun h => ?_
          · refine .seq <| .region <| .op I I (.assign I I) <| .nil <| .keep [.box 78 [.d (.int x31_45.kind), .d (.int x31_45.family), .d (.sl 2 (List.map Term.enc x31_45.row.terms)), .d (.int x31_45.row.bound), .d (.int x31_45.first), .d (.int x31_45.size)]] [2] (.c I .nil) I <| .ret ?_
            cases h
            exact retOne I (.d _)
          · refine .seq <| .region <| .op I I (.fieldAddrLoc I I I F78_0) <| .op I I (.loadLoc1 I I I Y3 I) <| .op I I (.eql I I I) <| .op I I (.assign I I) <| .nil <| .keep [.box 78 [.d (.int x31_45.kind), .d (.int x31_45.family), .d (.sl 2 (List.map Term.enc x31_45.row.terms)), .d (.int x31_45.row.bound), .d (.int x31_45.first), .d (.int x31_45.size)]] [1, 3, 4, 26, 27, 28, 42] (.c I <| .c I <| .c I <| .c I <| .c I <| .c I <| .c I .nil) I <| .condS I h (fun h => ?_) fun h => ?_
            · refine .seq <| .plain 15 I <| .op I I I I (.fieldAddrLoc I I I F78_3) <| .op I I I I (.loadLoc1 I I I Y3 I) <| .op I I I I (.neq I I I) <| .op I I I I (.move I I) <| .jOr 3 (b2 := x31_45.size != 0) I I I I (.inl I) (fun _ _ _ h1 => by cases h1) I I (fun hb_48 => ?_) ?_
              · refine .gop I I I I I I (.fieldAddrLoc I I I F78_4) <| .gop I I I I I I (.loadLoc1 I I I Y3 I) <| .gop I I I I I I (.neq I I I) ?_
                exact .nil I
              refine .op I I I I (.move I I) <| gK h fun hc_50 h => .jOr 5 (b2 := !((model_judge_row n t0 x31_45.row).getD default)) I I I I (.inl I) (fun _ _ _ h1 => by cases h1) I I (fun hb_49 => ?_) ?_
              · refine .gop I I I I I I (.load I I Y136 I) <| .gop I I I I I I (.fieldAddrLoc I I I F78_2) <| .gop I I I I I I (.loadLoc I I I Y33 (Nat.le_of_ble_eq_true I) (v := .d (Row.enc x31_45.row)) I) <| .gop I I I I I I (.call I K151 I (model_judge_row_ok _ _ _ _ (someD (impF hc_50 hb_49)))) <| .gop I I I I I I (.not I I) ?_
                exact .nil I
              refine .nil <| .nil <| .condS I h (fun h => ?_) fun h => ?_
              · refine .seq <| .region <| .op I I (.assign I I) <| .nil <| .keep [.box 78 [.d (.int x31_45.kind), .d (.int x31_45.family), .d (.sl 2 (List.map Term.enc x31_45.row.terms)), .d (.int x31_45.row.bound), .d (.int x31_45.first), .d (.int x31_45.size)]] [2] (.c I .nil) I <| .ret ?_
                cases h
                exact retOne I (.d _)
              · refine .skip ?_
                exact ⟨_, h, ⟨_, I, I, I, I, I, I, I, I, I, trivial⟩⟩
            · refine .seq <| .plain 9 I <| .op I I I I (.fieldAddrLoc I I I F78_0) <| .op I I I I (.loadLoc1 I I I Y3 I) <| .op I I I I (.neq I I I) <| .op I I I I (.move I I) <| gK h fun hc_52 h => .jOr 4 (b2 := !((model_judge_graph n t0 x31_45).getD default)) I I I I (.inl I) (fun _ _ _ h1 => by cases h1) I I (fun hb_51 => ?_) ?_
              · refine .gop I I I I I I (.load I I Y136 I) <| .gop I I I I I I (.loadLoc I I I Y78 (Nat.le_of_ble_eq_true I) (v := .d (Constraint.enc x31_45)) I) <| .gop I I I I I I (.call I K152 I (model_judge_graph_ok _ _ _ _ (someD (impF hc_52 hb_51)))) <| .gop I I I I I I (.not I I) ?_
                exact .nil I
              refine .nil <| .op I I (.assign I I) <| .nil <| .condS I h (fun h => ?_) fun h => ?_
              · refine .seq <| .region <| .op I I (.assign I I) <| .nil <| .ret ?_
                cases h
                exact retOne I (.d _)
              · refine .skip ?_
                exact ⟨_, h, ⟨_, I, I, I, I, I, I, I, I, I, trivial⟩⟩
        · refine .seq <| .region <| .op I I (.move I I) <| bK h fun x72_53 hx72_53 h => .op I I (.quo6 I I I hx72_53) <| .op I I (.fieldAddr I I (G136_1 _)) <| .op I I (.load I I Y48 I) <| .op I I (.len I U48 I) <| .op I I (.lss I I I) <| .nil <| .keep [.box 78 [.d (.int x31_45.kind), .d (.int x31_45.family), .d (.sl 2 (List.map Term.enc x31_45.row.terms)), .d (.int x31_45.row.bound), .d (.int x31_45.first), .d (.int x31_45.size)]] [1, 3, 4, 26, 27, 28, 76] (.c I <| .c I <| .c I <| .c I <| .c I <| .c I <| .c I .nil) I <| .condS I h (fun h => ?_) fun h => ?_
          · refine .seq <| .region <| .op I I (.fieldAddr I I (G136_1 _)) <| .op I I (.load I I Y48 I) <| .op I I (.move I I) <| bK h fun x80_54 hx80_54 h => .op I I (.quo6 I I I hx80_54) <| bK h fun x81_55 hx81_55 h => .op I I (.idx I I I U48 S87 hx81_55) <| .op I I (.load I I Y87 I) <| .allocStore I I I I I I I I (by simp) I I Z87 <| .op I I (.assign I I) <| .op I I (.assign I I) <| .nil <| .join [1, 3, 4, 26, 27, 28] (fun (v : Int × Int) => [(6, .d (.int v.1)), (7, .d (.int v.2))]) (fun (v : Int × Int) => []) (.c I <| .c I <| .c I <| .c I <| .c I <| .c I .nil) h (fun k_58 h => ?_) (fun v h => ?_)
            · refine .seq <| .region <| .op I I (.fieldAddr I I (G87_1 _)) <| .op I I (.load I I Y3 I) <| .op I I (.assign I I) <| .nil <| .seq <| .region <| .op I I (.move I I) <| bK h fun x86_59 hx86_59 h => .op I I (.rem6 I I I hx86_59) <| .op I I (.eql I I I) <| .nil <| .keep [.box 78 [.d (.int x31_45.kind), .d (.int x31_45.family), .d (.sl 2 (List.map Term.enc x31_45.row.terms)), .d (.int x31_45.row.bound), .d (.int x31_45.first), .d (.int x31_45.size)]] [1, 3, 4, 5, 6, 7, 26, 27, 28, 87] (.c I <| .c I <| .c I <| .c I <| .c I <| .c I <| .c I <| .c I <| .c I <| .c I .nil) I <| .condS I h (fun h => ?_) fun h => ?_
              · refine .draw 5 Hm (by kernel_rfl) (by kernel_rfl) <| .op I I I I (.fieldAddr I I (G87_0 _)) <| .op I I I I (.load I I Y3 I) <| .op I I I I (.neg6 I I) <| .op I I I I (.assign I I) <| .op I I I I (.assign I I) <| .nil <| .nil ?_
                exact ⟨_, h, ⟨_, I, I, I, I, I, I, I, I, I, I, I, trivial⟩⟩
              · refine .skip ?_
                exact ⟨_, h, ⟨_, I, I, I, I, I, I, I, I, I, I, I, trivial⟩⟩
            · obtain ⟨x6_56, x7_57⟩ := v
              refine .seq <| .plain 13 I <| .op I I I I (.fieldAddrLoc I I I F78_0) <| .op I I I I (.loadLoc1 I I I Y3 I) <| .op I I I I (.neq I I I) <| .op I I I I (.move I I) <| gK h fun hc_61 h => gK h fun hc_62 h => .jOr 8 (b2 := !((model_single n x31_45.row ((quo64 x28_42 2).getD default) x6_56 x7_57).getD default)) I I I I (.inl I) (fun _ _ _ h1 => by cases h1) I I (fun hb_60 => ?_) ?_
              · refine .gop I I I I I I (.fieldAddrLoc I I I F78_2) <| .gop I I I I I I (.loadLoc I I I Y33 (Nat.le_of_ble_eq_true I) (v := .d (Row.enc x31_45.row)) I) <| .gop I I I I I I (.move I I) <| .gop I I I I I I (.quo6 I I I (someD (impF hc_61 hb_60))) <| .gop I I I I I I (.move I I) <| .gop I I I I I I (.move I I) <| .gop I I I I I I (.call I K153 I (model_single_ok _ _ _ _ _ _ (someD (impF hc_62 hb_60)))) <| .gop I I I I I I (.not I I) ?_
                exact .nil I
              refine .nil <| .nil <| .keep [.box 78 [.d (.int x31_45.kind), .d (.int x31_45.family), .d (.sl 2 (List.map Term.enc x31_45.row.terms)), .d (.int x31_45.row.bound), .d (.int x31_45.first), .d (.int x31_45.size)]] [1, 26, 27, 28, 103] (.c I <| .c I <| .c I <| .c I <| .c I .nil) I <| .condS I h (fun h => ?_) fun h => ?_
              · refine .seq <| .region <| .op I I (.assign I I) <| .nil <| .ret ?_
                cases h
                exact retOne I (.d _)
              · refine .skip ?_
                exact ⟨_, h, ⟨_, I, I, I, I, I, I, I, trivial⟩⟩
          · refine .skip ?_
            exact ⟨_, h, ⟨_, I, I, I, I, I, I, I, trivial⟩⟩
      · refine .region <| .op I I (.add6 I I I) <| .op I I (.move I I) <| .nil ?_
        exact ⟨_, h, ⟨_, I, I, I, I, I, I, I, trivial⟩⟩
    · refine .exit <| .seq <| .region <| .op I I (.assign I I) <| .nil <| .ret ?_
      cases h
      exact retOne I (.d _)
theorem model_judge_operations_1_ok (n : Nat) (t0 : Int) (t1 : Judge) (r : Bool) (h : model_judge_operations_1 n t0 t1 = some r) : Pure Tryz.prog 155 [.int t0, .ref (Judge.enc t1)] (.bool r) := by
  refine Pure.ot Tryz.func155 I Tryz.ntmps155 I fun A w => .seq <| .region <| .op I I (.assign I I) <| .nil <| .seq <| .plain 10 I <| .op I I I I (.move I I) <| .op I I I I (.lss I I I) <| .op I I I I (.move I I) <| .jOr 6 (b2 := decide ((t1.model.sorts.length : Int) ≤ t0)) I I I I (.inl I) (fun _ _ _ h1 => by cases h1) I I (fun hb_1 => ?_) ?_
  · refine .gop I I I I I I (.move I I) <| .gop I I I I I I (.fieldAddr I I (G136_0 _)) <| .gop I I I I I I (.fieldAddr I I (G30_0 _)) <| .gop I I I I I I (.load I I Y22 I) <| .gop I I I I I I (.len I U22 I) <| .gop I I I I I I (.geq I I I) ?_
    exact .nil I
  refine .nil <| .op I I (.assign I I) <| .nil <| .ret ?_
  cases h
  exact retOne I (.d _)
set_option maxHeartbeats 2000000 in
theorem model_judge_operations_ok (n : Nat) (t0 : Judge) (r : Bool) (h : model_judge_operations n t0 = some r) : Pure Tryz.prog 98 [Judge.enc t0] (.bool r) := by
  refine Pure.ot Tryz.func98 I Tryz.ntmps98 I fun A w => .seq <| .region <| .op I I (.box I I) <| .op I I (.assign I I) <| .nil <| .seq <| .region <| .op I I (.assign I I) <| .nilVec 3 1 9 I <| .nil <| .seq <| .seq <| .region <| .op I I (.fieldAddr I I (G136_0 _)) <| .op I I (.fieldAddr I I (G30_4 _)) <| .op I I (.load I I Y26 I) <| .op I I (.len I U26 I) <| .op I I (.move I I) <| .nil <| .block <| .loopS [1, 8, 9] (fun (v : (List (List UInt8)) × Int) => [(3, .vec 0 (List.length v.1)), (10, .d (.int v.2))]) (fun (v : (List (List UInt8)) × Int) => [(0, .vec 9 1 (List.map D.str v.1))]) (.c I <| .c I <| .c I .nil) h ⟨_, I, I, I, I, I, I, I, I, trivial⟩ (fun rec_15 v h => ?_)
  obtain ⟨b0_13, x10_14⟩ := v
  refine .seq <| .region <| .op I I (.lss I I I) <| .nil <| .keep [.vec 9 1 (List.map D.str b0_13)] [1, 3, 8, 9, 10, 11] (.c I <| .c I <| .c I <| .c I <| .c I <| .c I .nil) I <| .seq <| .condS I h (fun h => ?_) fun h => ?_
  · refine .skip <| .seq <| .block <| .seq <| .region <| bK h fun x12_16 hx12_16 h => .op I I (.idx I I I U26 S129 hx12_16) <| .op I I (.load I I Y129 I) <| .allocStore I I I I I I I I (by simp) I I Z129 <| .nil <| .seq <| .region <| .op I I (.move I I) <| .op I I (.fieldAddr I I (G129_0 _)) <| .op I I (.load I I Y9 I) <| .op I I (.buildSl [_] I I E24 I (fun _ => I) I (enc := D.str)) <| bK h fun x18_17 hx18_17 h => .app I I I I I I I I E24 I (fun _ => I) hx18_17 <| .op I I (.assign I I) <| .nil <| .seq <| .plain 10 I <| .op I I I I (.fieldAddr I I (G129_2 _)) <| .op I I I I (.load I I Y22 I) <| .op I I I I (.len I U22 I) <| .op I I I I (.gtr I I I) <| .op I I I I (.move I I) <| gK h fun hc_19 h => .jOr 4 (b2 := ((slices_ContainsFunc_Lint_int n x12_16.sorts (fun q0 => model_judge_operations_1 n q0 t0)).getD default)) I I I I (.inl I) (fun _ _ _ h1 => by cases h1) I I (fun hb_18 => ?_) ?_
    · refine .gop I I I I I I (.fieldAddr I I (G129_2 _)) <| .gop I I I I I I (.load I I Y22 I) <| .gop I I I I I I (.makeFunc I I) <| .gop I I I I I I (.call I K154 I (slices_ContainsFunc_Lint_int_ok _ _ _ _ (fun q0 y hq => ⟨_, _, I, K155, model_judge_operations_1_ok _ q0 _ _ hq⟩) _ (someD (impF hc_19 hb_18)))) ?_
      exact .nil I
    refine .nil <| .nil <| .keep [.vec 9 1 (List.map D.str x18_17)] [1, 3, 8, 9, 10, 28] (.c I <| .c I <| .c I <| .c I <| .c I <| .c I .nil) I <| .condS I h (fun h => ?_) fun h => ?_
    · refine .seq <| .region <| .op I I (.assign I I) <| .nil <| .ret ?_
      cases h
      exact retOne I (.d _)
    · refine .skip <| .region <| .op I I (.add6 I I I) <| .op I I (.move I I) <| .nil ?_
      exact ⟨_, h, ⟨_, I, I, I, I, I, I, I, I, trivial⟩⟩
  · refine .exit <| .seq <| .plain 7 I <| .op I I I I (.move I I) <| .op I I I I (.lenV I U24 I I I) <| .op I I I I (.leq I I I) <| .op I I I I (.move I I) <| gK h fun hc_21 h => .jAnd 2 (b2 := ((model_distinct n b0_13).getD default)) I I I I (.inl I) (fun _ _ _ h1 => by cases h1) I I (fun hb_20 => ?_) ?_
    · refine .gop I I I I I I (.move I I) <| .gop I I I I I I (.callB I K95 (.cons I (.vec I (by simp)) (.nil)) I (model_distinct_ok _ _ _ (someD (impT hc_21 hb_20)))) ?_
      exact .nil I
    refine .nil <| .op I I (.assign I I) <| .nil <| .ret ?_
    cases h
    exact retOne I (.d _)
theorem cmp_isNaN_int_ok (n : Nat) (t0 : Int) (r : Bool) (h : cmp_isNaN_int n t0 = some r) : Pure Tryz.prog 222 [.int t0] (.bool r) := by
  refine Pure.ot Tryz.func222 I Tryz.ntmps222 I fun A w => .seq <| .region <| .op I I (.assign I I) <| .nil <| .seq <| .region <| .op I I (.move I I) <| .op I I (.move I I) <| .op I I (.neq I I I) <| .op I I (.assign I I) <| .nil <| .ret ?_
  cases h
  exact retOne I (.d _)
set_option maxHeartbeats 2000000 in
theorem cmp_Compare_int_ok (n : Nat) (t0 : Int) (t1 : Int) (r : Int) (h : cmp_Compare_int n t0 t1 = some r) : Pure Tryz.prog 200 [.int t0, .int t1] (.int r) := by
  refine Pure.ot Tryz.func200 I Tryz.ntmps200 I fun A w => .seq <| .region <| .op I I (.assign I I) <| .nil <| .seq <| .region <| .op I I (.move I I) <| bK h fun x8_1 hx8_1 h => .op I I (.call I K222 I (cmp_isNaN_int_ok _ _ _ hx8_1)) <| .op I I (.assign I I) <| .nil <| .seq <| .region <| .op I I (.move I I) <| bK h fun x10_2 hx10_2 h => .op I I (.call I K222 I (cmp_isNaN_int_ok _ _ _ hx10_2)) <| .op I I (.assign I I) <| .nil <| .seq <| .seq <| .region <| .op I I (.move I I) <| .nil <| .condS I h (fun h => ?_) fun h => ?_
  · refine .seq <| .seq <| .region <| .op I I (.move I I) <| .nil <| .condS I h (fun h => ?_) fun h => ?_
    · refine .seq <| .region <| .op I I (.assign I I) <| .nil <| .ret ?_
      cases h
      exact retOne I (.d _)
    · refine .skip <| .seq <| .region <| .op I I (.assign I I) <| .nil <| .ret ?_
      cases h
      exact retOne I (.d _)
  · refine .skip <| .seq <| .seq <| .region <| .op I I (.move I I) <| .nil <| .condS I h (fun h => ?_) fun h => ?_
    · refine .seq <| .region <| .op I I (.assign I I) <| .nil <| .ret ?_
      cases h
      exact retOne I (.d _)
    · refine .skip <| .seq <| .seq <| .region <| .op I I (.move I I) <| .op I I (.move I I) <| .op I I (.lss I I I) <| .nil <| .condS I h (fun h => ?_) fun h => ?_
      · refine .seq <| .region <| .op I I (.assign I I) <| .nil <| .ret ?_
        cases h
        exact retOne I (.d _)
      · refine .skip <| .seq <| .seq <| .region <| .op I I (.move I I) <| .op I I (.move I I) <| .op I I (.gtr I I I) <| .nil <| .condS I h (fun h => ?_) fun h => ?_
        · refine .seq <| .region <| .op I I (.assign I I) <| .nil <| .keep [] [4] (.c I .nil) I <| .ret ?_
          cases h
          exact retOne I (.d _)
        · refine .skip <| .seq <| .region <| .op I I (.assign I I) <| .nil <| .keep [] [4] (.c I .nil) I <| .ret ?_
          cases h
          exact retOne I (.d _)
set_option maxHeartbeats 2000000 in
theorem slices_Compare_Lint_int_ok (n : Nat) (t0 : List Int) (t1 : List Int) (r : Int) (h : slices_Compare_Lint_int n t0 t1 = some r) : Pure Tryz.prog 157 [.sl 1 (List.map D.int t0), .sl 1 (List.map D.int t1)] (.int r) := by
  refine Pure.ot Tryz.func157 I Tryz.ntmps157 I fun A w => .seq <| .region <| .op I I (.assign I I) <| .nil <| .seq <| .seq <| .region <| .op I I (.move I I) <| .op I I (.len I U22 I) <| .op I I (.move I I) <| .nil <| .block <| .loopS [0, 1, 9, 10] (fun (v : Int) => [(11, .d (.int v))]) (fun (v : Int) => []) (.c I <| .c I <| .c I <| .c I .nil) h ⟨_, I, I, I, I, I, I, I, I, trivial⟩ (fun rec_10 x11_9 h => ?_)
  refine .seq <| .region <| .op I I (.lss I I I) <| .nil <| .keep [] [0, 1, 9, 10, 11, 12] (.c I <| .c I <| .c I <| .c I <| .c I <| .c I .nil) I <| .seq <| .condS I h (fun h => ?_) fun h => ?_
  · refine .skip <| .seq <| .block <| .seq <| .region <| .op I I (.move I I) <| bK h fun x14_11 hx14_11 h => .op I I (.idx I I I U22 S3 hx14_11) <| .op I I (.load I I Y3 I) <| .op I I (.assign I I) <| .op I I (.assign I I) <| .nil <| .seq <| .seq <| .region <| .op I I (.move I I) <| .op I I (.move I I) <| .op I I (.len I U22 I) <| .op I I (.geq I I I) <| .nil <| .condS I h (fun h => ?_) fun h => ?_
    · refine .seq <| .region <| .op I I (.assign I I) <| .nil <| .ret ?_
      cases h
      exact retOne I (.d _)
    · refine .skip <| .seq <| .region <| .op I I (.move I I) <| .op I I (.move I I) <| bK h fun x22_12 hx22_12 h => .op I I (.idx I I I U22 S3 hx22_12) <| .op I I (.load I I Y3 I) <| .op I I (.assign I I) <| .nil <| .seq <| .region <| .op I I (.move I I) <| .op I I (.move I I) <| bK h fun x26_13 hx26_13 h => .op I I (.call I K200 I (cmp_Compare_int_ok _ _ _ _ hx26_13)) <| .op I I (.assign I I) <| .nil <| .keep [] [0, 1, 8, 9, 10, 11] (.c I <| .c I <| .c I <| .c I <| .c I <| .c I .nil) I <| .seq <| .region <| .op I I (.move I I) <| .op I I (.neq I I I) <| .nil <| .condS I h (fun h => ?_) fun h => ?_
      · refine .seq <| .region <| .op I I (.move I I) <| .op I I (.assign I I) <| .nil <| .ret ?_
        cases h
        exact retOne I (.d _)
      · refine .skip <| .region <| .op I I (.add6 I I I) <| .op I I (.move I I) <| .nil ?_
        exact ⟨_, h, ⟨_, I, I, I, I, I, I, I, I, trivial⟩⟩
  · refine .exit <| .seq <| .seq <| .region <| .op I I (.move I I) <| .op I I (.len I U22 I) <| .op I I (.move I I) <| .op I I (.len I U22 I) <| .op I I (.lss I I I) <| .nil <| .condS I h (fun h => ?_) fun h => ?_
    · refine .seq <| .region <| .op I I (.assign I I) <| .nil <| .ret ?_
      cases h
      exact retOne I (.d _)
    · refine .skip <| .seq <| .region <| .op I I (.assign I I) <| .nil <| .ret ?_
      cases h
      exact retOne I (.d _)
set_option maxHeartbeats 2000000 in
theorem cells_Tuple_ok (n : Nat) (t0 : List Int) (t1 : List Table) (t2 : Bool) (t3 : Int) (r : Int × (List Int) × Bool) (h : cells_Tuple n t0 t1 t2 t3 = some r) : Pure Tryz.prog 223 [.sl 1 (List.map D.int t0), .sl 6 (List.map Table.enc t1), .bool t2, .int t3] (.tup [.int r.1, .sl 1 (List.map D.int r.2.1), .bool r.2.2]) := by
  refine Pure.ot Tryz.func223 I Tryz.ntmps223 I fun A w => .seq <| .region <| .op I I (.assign I I) <| .op I I (.nilS 1 (α := Int) D.int I) <| .op I I (.assign I I) <| .nil <| .seq <| .seq <| .plain 8 I <| .op I I I I (.move I I) <| .op I I I I (.move I I) <| bK h fun x19_1 hx19_1 h => .op I I I I (.call I K94 I (cells_Valid_ok _ _ _ _ hx19_1)) <| .op I I I I (.not I I) <| .op I I I I (.move I I) <| .jOr 2 (b2 := decide (t3 < 0)) I I I I (.inl I) (fun _ _ _ h1 => by cases h1) I I (fun hb_2 => ?_) ?_
  · refine .gop I I I I I I (.move I I) <| .gop I I I I I I (.lss I I I) ?_
    exact .nil I
  refine .nil <| .nil <| .condS I h (fun h => ?_) fun h => ?_
  · refine .seq <| .region <| .op I I (.assign I I) <| .op I I (.nilS 1 (α := Int) D.int I) <| .op I I (.assign I I) <| .nil <| .ret ?_
    cases h
    exact retThree I I I (.d _) (.d _) (.d _)
  · refine .skip <| .seq <| .seq <| .region <| .op I I (.move I I) <| .op I I (.len I U23 I) <| .op I I (.move I I) <| .nil <| .block <| .loopS [0, 2, 3, 25, 26] (fun (v : Int) => [(27, .d (.int v))]) (fun (v : Int) => []) (.c I <| .c I <| .c I <| .c I <| .c I .nil) h ⟨_, I, I, I, I, I, I, I, I, I, trivial⟩ (fun rec_74 x27_73 h => ?_)
    refine .seq <| .region <| .op I I (.lss I I I) <| .nil <| .keep [] [0, 2, 3, 25, 26, 27, 28] (.c I <| .c I <| .c I <| .c I <| .c I <| .c I <| .c I .nil) I <| .seq <| .condS I h (fun h => ?_) fun h => ?_
    · refine .skip <| .seq <| .block <| .seq <| .region <| .op I I (.move I I) <| bK h fun x30_75 hx30_75 h => .op I I (.idx I I I U23 S127 hx30_75) <| .op I I (.load I I Y127 I) <| .allocZ I I I I (.agg Zc127 (ds' := [.str [], .int 0, .sl 1 (List.map D.int []), .int 0, .int 0, .int 0]) (.cons (.refl _) (.cons (.refl _) (.cons (.nil _) (.cons (.refl _) (.cons (.refl _) (.cons (.refl _) (.nil)))))))) I <| .op I I (.assign I I) <| .store I I I I I I (.ofD I) C127 I (Nat.le_of_ble_eq_true I) <| .nil <| .seq <| .region <| .op I I (.move I I) <| .op I I (.fieldAddrLoc I I I F127_4) <| .op I I (.loadLoc1 I I I Y3 I) <| .op I I (.sub6 I I I) <| .op I I (.assign I I) <| .nil <| .seq <| .seq <| .plain 16 I <| .op I I I I (.loadLoc I I I Y127 (Nat.le_of_ble_eq_true I) (v := .d (Table.enc x30_75)) I) <| bK h fun x37_76 hx37_76 h => .op I I I I (.call I K147 I (cells_isStrict_ok _ _ _ hx37_76)) <| .op I I I I (.move I I) <| .op I I I I (.bne I U4 I I) <| .op I I I I (.move I I) <| .jOr 2 (b2 := decide (sub64 t3 x30_75.first < 0)) I I I I (.inl I) (fun _ _ _ h1 => by cases h1) I I (fun hb_77 => ?_) ?_
      · refine .gop I I I I I I (.move I I) <| .gop I I I I I I (.lss I I I) ?_
        exact .nil I
      refine .op I I I I (.move I I) <| gK h fun hc_79 h => .jOr 6 (b2 := decide (((cells_width n t0 x30_75.columns).getD default) ≤ sub64 t3 x30_75.first)) I I I I (.inl I) (fun _ _ _ h1 => by cases h1) I I (fun hb_78 => ?_) ?_
      · refine .gop I I I I I I (.move I I) <| .gop I I I I I I (.move I I) <| .gop I I I I I I (.fieldAddrLoc I I I F127_2) <| .gop I I I I I I (.loadLoc1 I I I Y22 I) <| .gop I I I I I I (.call I K148 I (cells_width_ok _ _ _ _ (someD (impF hc_79 hb_78)))) <| .gop I I I I I I (.geq I I I) ?_
        exact .nil I
      refine .nil <| .nil <| .keep [.box 127 [.d (.str x30_75.name), .d (.int x30_75.kind), .d (.sl 1 (List.map D.int x30_75.columns)), .d (.int x30_75.range.lo), .d (.int x30_75.range.hi), .d (.int x30_75.first)]] [0, 2, 3, 11, 12, 13, 25, 26, 27, 51] (.c I <| .c I <| .c I <| .c I <| .c I <| .c I <| .c I <| .c I <| .c I <| .c I .nil) I <| .condS I h (fun h => ?_) fun h => ?_
      · refine .exit <| .region <| .op I I (.add6 I I I) <| .op I I (.move I I) <| .nil ?_
        exact ⟨_, h, ⟨_, I, I, I, I, I, I, I, I, I, trivial⟩⟩
      · refine .skip <| .seq <| .region <| .op I I (.fieldAddrLoc I I I F127_2) <| .op I I (.loadLoc1 I I I Y22 I) <| .op I I (.len I U22 I) <| bK h fun x55_80 hx55_80 h => .makeVec (enc := D.int) (z := (0 : Int)) I I I I E22 I I I (.val Zv3) hx55_80 <| .op I I (.assign I I) <| .nil <| .seq <| .seq <| .region <| .op I I (.move I I) <| .op I I (.lenV I U22 I I I) <| .op I I (.sub6 I I I) <| .op I I (.assign I I) <| .nil <| .block <| .loopS [0, 11, 12] (fun (v : (List Int) × Int × Int) => [(13, .d (.int v.2.1)), (14, .vec 1 (List.length v.1)), (15, .d (.int v.2.2))]) (fun (v : (List Int) × Int × Int) => [(1, .vec 3 1 (List.map D.int v.1))]) (.c I <| .c I <| .c I .nil) h ⟨_, I, I, I, I, I, I, I, I, I, trivial⟩ (fun rec_102 v h => ?_)
        obtain ⟨b1_99, x13_100, x15_101⟩ := v
        refine .seq <| .seq <| .region <| .op I I (.move I I) <| .op I I (.geq I I I) <| .nil <| .keep [.box 127 [.d (.str x30_75.name), .d (.int x30_75.kind), .d (.sl 1 (List.map D.int x30_75.columns)), .d (.int x30_75.range.lo), .d (.int x30_75.range.hi), .d (.int x30_75.first)], .vec 3 1 (List.map D.int b1_99)] [0, 11, 12, 13, 14, 15, 60] (.c I <| .c I <| .c I <| .c I <| .c I <| .c I <| .c I .nil) I <| .condS I h (fun h => ?_) fun h => ?_
        · refine .skip <| .seq <| .block <| .seq <| .region <| .op I I (.move I I) <| .op I I (.fieldAddrLoc I I I F127_2) <| .op I I (.loadLoc1 I I I Y22 I) <| .op I I (.move I I) <| bK h fun x67_103 hx67_103 h => .op I I (.idx I I I U22 S3 hx67_103) <| .op I I (.load I I Y3 I) <| bK h fun x69_104 hx69_104 h => .op I I (.idx I I I U22 S3 hx69_104) <| .op I I (.load I I Y3 I) <| .op I I (.assign I I) <| .nil <| .drawF 9 [5, 6, 7] Hm (by kernel_rfl) (by kernel_rfl) <| .op I I I I (.move I I) <| .op I I I I (.move I I) <| .op I I I I (.move I I) <| .op I I I I (.move I I) <| bK h fun x75_105 hx75_105 h => .op I I I I (.rem6 I I I hx75_105) <| .op I I I I (.move I I) <| .op I I I I (.move I I) <| bK h fun x78_106 hx78_106 h => .op I I I I (.quo6 I I I hx78_106) <| bK h fun x79_107 hx79_107 h => .op I I I I (.idxV I I I I I U22 S3 hx79_107) <| .nil ⟨.move I I (.move I I (.ints I I I I (.nil))), ?_⟩
          refine bK h fun b1_108 hb1_108 h => .storeEl (enc := D.int) I I I I I I I I I C3 hb1_108 <| .relen 14 I (sto_len hb1_108) <| .relen 71 I (sto_len hb1_108) <| .op I I (.assign I I) <| .nil <| .keep [.box 127 [.d (.str x30_75.name), .d (.int x30_75.kind), .d (.sl 1 (List.map D.int x30_75.columns)), .d (.int x30_75.range.lo), .d (.int x30_75.range.hi), .d (.int x30_75.first)], .vec 3 1 (List.map D.int b1_108)] [0, 11, 12, 13, 14, 15] (.c I <| .c I <| .c I <| .c I <| .c I <| .c I .nil) I <| .region <| .op I I (.move I I) <| .op I I (.sub6 I I I) <| .op I I (.assign I I) <| .nil ?_
          exact ⟨_, h, ⟨_, I, I, I, I, I, I, I, I, I, trivial⟩⟩
        · refine .exit <| .seq <| .region <| .op I I (.move I I) <| .op I I (.move I I) <| .op I I (.assign I I) <| .op I I (.assign I I) <| .op I I (.assign I I) <| .nil <| .ret ?_
          cases h
          exact retThree I I I (.d _) (.vec I (by simp)) (.d _)
    · refine .exit <| .seq <| .region <| .op I I (.assign I I) <| .op I I (.nilS 1 (α := Int) D.int I) <| .op I I (.assign I I) <| .nil <| .ret ?_
      cases h
      exact retThree I I I (.d _) (.d _) (.d _)
set_option maxHeartbeats 2000000 in
theorem model_judge_update_ok (n : Nat) (t0 : Judge) (t1 : Update) (r : Bool) (h : model_judge_update n t0 t1 = some r) : Pure Tryz.prog 201 [Judge.enc t0, Update.enc t1] (.bool r) := by
  refine Pure.ot Tryz.func201 I Tryz.ntmps201 I fun A w => .seq <| .region <| .op I I (.box I I) <| .op I I (.box I I) <| .op I I (.assign I I) <| .nil <| .seq <| .region <| .op I I (.fieldAddr I I (G136_0 _)) <| .op I I (.fieldAddr I I (G30_0 _)) <| .op I I (.load I I Y22 I) <| .op I I (.fieldAddr I I (G136_0 _)) <| .op I I (.fieldAddr I I (G30_1 _)) <| .op I I (.load I I Y23 I) <| .op I I (.fieldAddr I I (G218_1 _)) <| .op I I (.load I I Y3 I) <| bK h fun x18_1 hx18_1 h => .op I I (.call I K223 I (cells_Tuple_ok _ _ _ _ _ _ hx18_1)) <| .op I I (.move I I) <| .op I I (.extract I I I) <| .op I I (.extract I I I) <| .op I I (.extract I I I) <| .op I I (.assign I I) <| .op I I (.assign I I) <| .op I I (.assign I I) <| .nil <| .keep [] [2, 3, 5, 7] (.c I <| .c I <| .c I <| .c I .nil) I <| .seq <| .seq <| .region <| .op I I (.move I I) <| .op I I (.not I I) <| .nil <| .condS I h (fun h => ?_) fun h => ?_
  · refine .seq <| .region <| .op I I (.assign I I) <| .nil <| .ret ?_
    cases h
    exact retOne I (.d _)
  · refine .skip <| .seq <| .region <| .op I I (.fieldAddr I I (G136_0 _)) <| .op I I (.fieldAddr I I (G30_1 _)) <| .op I I (.load I I Y23 I) <| .op I I (.move I I) <| bK h fun x28_2 hx28_2 h => .op I I (.idx I I I U23 S127 hx28_2) <| .op I I (.load I I Y127 I) <| .allocStore I I I I I I I I (by simp) I I Z127 <| .nil <| .seq <| .region <| .op I I (.fieldAddr I I (G127_1 _)) <| .op I I (.load I I Y3 I) <| .nil <| .block <| .join [3, 8] (fun (v : Bool) => [(51, .d (.bool v))]) (fun (v : Bool) => []) (.c I <| .c I .nil) h (fun k_4 h => ?_) (fun x51_3 h => ?_)
    · refine .seq <| .region <| .op I I (.eql I I I) <| .op I I (.assign I I) <| .nil <| .condS I h (fun h => ?_) fun h => ?_
      · refine .skip ?_
        exact ⟨_, h, ⟨_, I, I, I, I, I, I, trivial⟩⟩
      · refine .region <| .op I I (.eql I I I) <| .op I I (.assign I I) <| .nil ?_
        exact ⟨_, h, ⟨_, I, I, I, I, I, I, trivial⟩⟩
    · refine .condS I h (fun h => ?_) fun h => ?_
      · refine .seq <| .plain 13 I <| .op I I I I (.fieldAddr I I (G218_0 _)) <| .op I I I I (.load I I Y3 I) <| .op I I I I (.eql I I I) <| .op I I I I (.move I I) <| .jOr 3 (b2 := t1.kind == 1) I I I I (.inl I) (fun _ _ _ h1 => by cases h1) I I (fun hb_5 => ?_) ?_
        · refine .gop I I I I I I (.fieldAddr I I (G218_0 _)) <| .gop I I I I I I (.load I I Y3 I) <| .gop I I I I I I (.eql I I I) ?_
          exact .nil I
        refine .op I I I I (.move I I) <| .jAnd 3 (b2 := t1.value == 0) I I I I (.inl I) (fun _ _ _ h1 => by cases h1) I I (fun hb_6 => ?_) ?_
        · refine .gop I I I I I I (.fieldAddr I I (G218_2 _)) <| .gop I I I I I I (.load I I Y3 I) <| .gop I I I I I I (.eql I I I) ?_
          exact .nil I
        refine .nil <| .op I I (.assign I I) <| .nil <| .keep [] [4] (.c I .nil) I <| .ret ?_
        cases h
        exact retOne I (.d _)
      · refine .seq <| .plain 19 I <| .op I I I I (.fieldAddr I I (G218_0 _)) <| .op I I I I (.load I I Y3 I) <| .op I I I I (.eql I I I) <| .op I I I I (.move I I) <| .jAnd 6 (b2 := decide (x28_2.range.lo ≤ t1.value)) I I I I (.inl I) (fun _ _ _ h1 => by cases h1) I I (fun hb_7 => ?_) ?_
        · refine .gop I I I I I I (.fieldAddr I I (G218_2 _)) <| .gop I I I I I I (.load I I Y3 I) <| .gop I I I I I I (.fieldAddr I I (G127_3 _)) <| .gop I I I I I I (.fieldAddr I I (G87_0 _)) <| .gop I I I I I I (.load I I Y3 I) <| .gop I I I I I I (.geq I I I) ?_
          exact .nil I
        refine .op I I I I (.move I I) <| .jAnd 6 (b2 := decide (t1.value ≤ x28_2.range.hi)) I I I I (.inl I) (fun _ _ _ h1 => by cases h1) I I (fun hb_8 => ?_) ?_
        · refine .gop I I I I I I (.fieldAddr I I (G218_2 _)) <| .gop I I I I I I (.load I I Y3 I) <| .gop I I I I I I (.fieldAddr I I (G127_3 _)) <| .gop I I I I I I (.fieldAddr I I (G87_1 _)) <| .gop I I I I I I (.load I I Y3 I) <| .gop I I I I I I (.leq I I I) ?_
          exact .nil I
        refine .nil <| .op I I (.assign I I) <| .nil <| .keep [] [4] (.c I .nil) I <| .ret ?_
        cases h
        exact retOne I (.d _)
theorem model_judge_effect_1_ok (n : Nat) (t0 : Row) (t1 : Judge) (r : Bool) (h : model_judge_effect_1 n t0 t1 = some r) : Pure Tryz.prog 202 [Row.enc t0, .ref (Judge.enc t1)] (.bool r) := by
  refine Pure.ot Tryz.func202 I Tryz.ntmps202 I fun A w => .seq <| .region <| .op I I (.box I I) <| .op I I (.assign I I) <| .nil <| .seq <| .region <| .op I I (.load I I Y136 I) <| .op I I (.load I I Y33 I) <| bK h fun x6_1 hx6_1 h => .op I I (.call I K151 I (model_judge_row_ok _ _ _ _ hx6_1)) <| .op I I (.not I I) <| .op I I (.assign I I) <| .nil <| .ret ?_
  cases h
  exact retOne I (.d _)
theorem slices_IndexFunc_LRow_api_Row_ok (n : Nat) (t0 : List Row) (t1 : Row → Option Bool) (F1 : D) (hF1 : ∀ (q0 : Row) (y : Bool), t1 q0 = some y → Dyn Tryz.prog F1 [Row.enc q0] (.bool y)) (r : Int) (h : slices_IndexFunc_LRow_api_Row n t0 t1 = some r) : Pure Tryz.prog 213 [.sl 2 (List.map Row.enc t0), F1] (.int r) := by
  refine Pure.ot Tryz.func213 I Tryz.ntmps213 I fun A w => .seq <| .region <| .op I I (.assign I I) <| .nil <| .seq <| .seq <| .region <| .op I I (.move I I) <| .op I I (.len I U49 I) <| .op I I (.move I I) <| .nil <| .block <| .loopS [0, 1, 7] (fun (v : Int) => [(8, .d (.int v))]) (fun (v : Int) => []) (.c I <| .c I <| .c I .nil) h ⟨_, I, I, I, I, I, I, I, trivial⟩ (fun rec_8 x8_7 h => ?_)
  refine .seq <| .region <| .op I I (.lss I I I) <| .nil <| .keep [] [0, 1, 7, 8, 9] (.c I <| .c I <| .c I <| .c I <| .c I .nil) I <| .seq <| .condS I h (fun h => ?_) fun h => ?_
  · refine .skip <| .seq <| .block <| .seq <| .region <| .op I I (.move I I) <| .op I I (.assign I I) <| .nil <| .seq <| .region <| .op I I (.move I I) <| .op I I (.move I I) <| .op I I (.move I I) <| bK h fun x14_9 hx14_9 h => .op I I (.idx I I I U49 S33 hx14_9) <| .op I I (.load I I Y33 I) <| bK h fun x16_10 hx16_10 h => .op I I (.dyn I I I (hF1 _ _ hx16_10)) <| .nil <| .condS I h (fun h => ?_) fun h => ?_
    · refine .seq <| .region <| .op I I (.move I I) <| .op I I (.assign I I) <| .nil <| .ret ?_
      cases h
      exact retOne I (.d _)
    · refine .skip <| .region <| .op I I (.add6 I I I) <| .op I I (.move I I) <| .nil ?_
      exact ⟨_, h, ⟨_, I, I, I, I, I, I, I, trivial⟩⟩
  · refine .exit <| .seq <| .region <| .op I I (.assign I I) <| .nil <| .ret ?_
    cases h
    exact retOne I (.d _)
theorem slices_ContainsFunc_LRow_api_Row_ok (n : Nat) (t0 : List Row) (t1 : Row → Option Bool) (F1 : D) (hF1 : ∀ (q0 : Row) (y : Bool), t1 q0 = some y → Dyn Tryz.prog F1 [Row.enc q0] (.bool y)) (r : Bool) (h : slices_ContainsFunc_LRow_api_Row n t0 t1 = some r) : Pure Tryz.prog 176 [.sl 2 (List.map Row.enc t0), F1] (.bool r) := by
  refine Pure.ot Tryz.func176 I Tryz.ntmps176 I fun A w => .seq <| .region <| .op I I (.assign I I) <| .nil <| .seq <| .region <| .op I I (.move I I) <| .op I I (.move I I) <| bK h fun x7_1 hx7_1 h => .op I I (.call I K213 I (slices_IndexFunc_LRow_api_Row_ok _ _ _ _ hF1 _ hx7_1)) <| .op I I (.geq I I I) <| .op I I (.assign I I) <| .nil <| .ret ?_
  cases h
  exact retOne I (.d _)
set_option maxHeartbeats 2000000 in
theorem model_judge_effect_ok (n : Nat) (t0 : Judge) (t1 : Effect) (r : Bool) (h : model_judge_effect n t0 t1 = some r) : Pure Tryz.prog 158 [Judge.enc t0, Effect.enc t1] (.bool r) := by
  refine Pure.ot Tryz.func158 I Tryz.ntmps158 I fun A w => .seq <| .region <| .op I I (.box I I) <| .op I I (.box I I) <| .op I I (.assign I I) <| .nil <| .seq <| .region <| .op I I (.assign I I) <| .nil <| .seq <| .seq <| .region <| .op I I (.fieldAddr I I (G82_0 _)) <| .op I I (.load I I Y79 I) <| .op I I (.len I U79 I) <| .op I I (.move I I) <| .nil <| .block <| .loopS [2, 3, 11, 12] (fun (v : Int × Int) => [(5, .d (.int v.1)), (13, .d (.int v.2))]) (fun (v : Int × Int) => []) (.c I <| .c I <| .c I <| .c I .nil) h ⟨_, I, I, I, I, I, I, I, I, I, trivial⟩ (fun rec_17 v h => ?_)
  obtain ⟨x5_15, x13_16⟩ := v
  refine .seq <| .region <| .op I I (.lss I I I) <| .nil <| .keep [] [2, 3, 5, 11, 12, 13, 14] (.c I <| .c I <| .c I <| .c I <| .c I <| .c I <| .c I .nil) I <| .seq <| .condS I h (fun h => ?_) fun h => ?_
  · refine .skip <| .seq <| .block <| .seq <| .region <| bK h fun x15_18 hx15_18 h => .op I I (.idx I I I U79 S131 hx15_18) <| .op I I (.load I I Y131 I) <| .allocStore I I I I I I I I (by simp) I I Z131 <| .nil <| .seq <| .seq <| .plain 23 I <| .op I I I I (.fieldAddr I I (G131_0 _)) <| .op I I I I (.load I I Y3 I) <| .op I I I I (.move I I) <| .op I I I I (.leq I I I) <| .op I I I I (.move I I) <| .jOr 6 (b2 := decide ((t0.strict.length : Int) ≤ x15_18.cell)) I I I I (.inl I) (fun _ _ _ h1 => by cases h1) I I (fun hb_19 => ?_) ?_
    · refine .gop I I I I I I (.fieldAddr I I (G131_0 _)) <| .gop I I I I I I (.load I I Y3 I) <| .gop I I I I I I (.fieldAddr I I (G136_1 _)) <| .gop I I I I I I (.load I I Y48 I) <| .gop I I I I I I (.len I U48 I) <| .gop I I I I I I (.geq I I I) ?_
      exact .nil I
    refine .op I I I I (.move I I) <| .jOr 3 (b2 := x15_18.add == 0) I I I I (.inl I) (fun _ _ _ h1 => by cases h1) I I (fun hb_20 => ?_) ?_
    · refine .gop I I I I I I (.fieldAddr I I (G131_1 _)) <| .gop I I I I I I (.load I I Y3 I) <| .gop I I I I I I (.eql I I I) ?_
      exact .nil I
    refine .op I I I I (.move I I) <| gK h fun hc_22 h => .jOr 4 (b2 := !((model_around n x15_18.add 1000000000).getD default)) I I I I (.inl I) (fun _ _ _ h1 => by cases h1) I I (fun hb_21 => ?_) ?_
    · refine .gop I I I I I I (.fieldAddr I I (G131_1 _)) <| .gop I I I I I I (.load I I Y3 I) <| .gop I I I I I I (.call I K156 I (model_around_ok _ _ _ _ (someD (impF hc_22 hb_21)))) <| .gop I I I I I I (.not I I) ?_
      exact .nil I
    refine .nil <| .nil <| .keep [] [2, 3, 7, 11, 12, 13, 39] (.c I <| .c I <| .c I <| .c I <| .c I <| .c I <| .c I .nil) I <| .condS I h (fun h => ?_) fun h => ?_
    · refine .seq <| .region <| .op I I (.assign I I) <| .nil <| .ret ?_
      cases h
      exact retOne I (.d _)
    · refine .skip <| .region <| .op I I (.fieldAddr I I (G131_0 _)) <| .op I I (.load I I Y3 I) <| .op I I (.assign I I) <| .nil <| .region <| .op I I (.add6 I I I) <| .op I I (.move I I) <| .nil ?_
      exact ⟨_, h, ⟨_, I, I, I, I, I, I, I, I, I, trivial⟩⟩
  · refine .exit <| .seq <| .region <| .op I I (.assign I I) <| .nil <| .seq <| .seq <| .region <| .op I I (.fieldAddr I I (G82_2 _)) <| .op I I (.load I I Y80 I) <| .op I I (.len I U80 I) <| .op I I (.move I I) <| .nil <| .block <| .loopS [2, 3, 44, 45] (fun (v : Int × Int) => [(5, .d (.int v.1)), (46, .d (.int v.2))]) (fun (v : Int × Int) => []) (.c I <| .c I <| .c I <| .c I .nil) h ⟨_, I, I, I, I, I, I, I, I, I, trivial⟩ (fun rec_35 v h => ?_)
    obtain ⟨x5_33, x46_34⟩ := v
    refine .seq <| .region <| .op I I (.lss I I I) <| .nil <| .keep [] [2, 3, 5, 44, 45, 46, 47] (.c I <| .c I <| .c I <| .c I <| .c I <| .c I <| .c I .nil) I <| .seq <| .condS I h (fun h => ?_) fun h => ?_
    · refine .skip <| .seq <| .block <| .seq <| .region <| bK h fun x48_36 hx48_36 h => .op I I (.idx I I I U80 S218 hx48_36) <| .op I I (.load I I Y218 I) <| .allocStore I I I I I I I I (by simp) I I Z218 <| .nil <| .seq <| .seq <| .plain 10 I <| .op I I I I (.fieldAddr I I (G218_1 _)) <| .op I I I I (.load I I Y3 I) <| .op I I I I (.move I I) <| .op I I I I (.leq I I I) <| .op I I I I (.move I I) <| gK h fun hc_38 h => .jOr 4 (b2 := !((model_judge_update n t0 x48_36).getD default)) I I I I (.inl I) (fun _ _ _ h1 => by cases h1) I I (fun hb_37 => ?_) ?_
      · refine .gop I I I I I I (.load I I Y136 I) <| .gop I I I I I I (.load I I Y218 I) <| .gop I I I I I I (.call I K201 I (model_judge_update_ok _ _ _ _ (someD (impF hc_38 hb_37)))) <| .gop I I I I I I (.not I I) ?_
        exact .nil I
      refine .nil <| .nil <| .condS I h (fun h => ?_) fun h => ?_
      · refine .seq <| .region <| .op I I (.assign I I) <| .nil <| .ret ?_
        cases h
        exact retOne I (.d _)
      · refine .skip <| .region <| .op I I (.fieldAddr I I (G218_1 _)) <| .op I I (.load I I Y3 I) <| .op I I (.assign I I) <| .nil <| .keep [] [2, 3, 5, 44, 45, 46] (.c I <| .c I <| .c I <| .c I <| .c I <| .c I .nil) I <| .region <| .op I I (.add6 I I I) <| .op I I (.move I I) <| .nil ?_
        exact ⟨_, h, ⟨_, I, I, I, I, I, I, I, I, I, trivial⟩⟩
    · refine .exit <| .seq <| .plain 17 I <| .op I I I I (.fieldAddr I I (G82_1 _)) <| .op I I I I (.load I I Y49 I) <| .op I I I I (.len I U49 I) <| .op I I I I (.leq I I I) <| .op I I I I (.move I I) <| .jAnd 4 (b2 := decide ((t1.updates.length : Int) ≤ 32)) I I I I (.inl I) (fun _ _ _ h1 => by cases h1) I I (fun hb_39 => ?_) ?_
      · refine .gop I I I I I I (.fieldAddr I I (G82_2 _)) <| .gop I I I I I I (.load I I Y80 I) <| .gop I I I I I I (.len I U80 I) <| .gop I I I I I I (.leq I I I) ?_
        exact .nil I
      refine .op I I I I (.move I I) <| gK h fun hc_41 h => .jAnd 5 (b2 := !((slices_ContainsFunc_LRow_api_Row n t1.hold (fun q0 => model_judge_effect_1 n q0 t0)).getD default)) I I I I (.inl I) (fun _ _ _ h1 => by cases h1) I I (fun hb_40 => ?_) ?_
      · refine .gop I I I I I I (.fieldAddr I I (G82_1 _)) <| .gop I I I I I I (.load I I Y49 I) <| .gop I I I I I I (.makeFunc I I) <| .gop I I I I I I (.call I K176 I (slices_ContainsFunc_LRow_api_Row_ok _ _ _ _ (fun q0 y hq => ⟨_, _, I, K202, model_judge_effect_1_ok _ q0 _ _ hq⟩) _ (someD (impT hc_41 hb_40)))) <| .gop I I I I I I (.not I I) ?_
        exact .nil I
      refine .nil <| .op I I (.assign I I) <| .nil <| .keep [] [4] (.c I .nil) I <| .ret ?_
      cases h
      exact retOne I (.d _)
set_option maxHeartbeats 2000000 in
theorem model_judge_actions_ok (n : Nat) (t0 : Judge) (r : Bool) (h : model_judge_actions n t0 = some r) : Pure Tryz.prog 99 [Judge.enc t0] (.bool r) := by
  refine Pure.ot Tryz.func99 I Tryz.ntmps99 I fun A w => .seq <| .region <| .op I I (.box I I) <| .op I I (.assign I I) <| .nil <| .seq <| .seq <| .region <| .op I I (.fieldAddr I I (G136_0 _)) <| .op I I (.fieldAddr I I (G30_5 _)) <| .op I I (.load I I Y27 I) <| .op I I (.len I U27 I) <| .op I I (.gtr I I I) <| .nil <| .condS I h (fun h => ?_) fun h => ?_
  · refine .seq <| .region <| .op I I (.assign I I) <| .nil <| .ret ?_
    cases h
    exact retOne I (.d _)
  · refine .skip <| .seq <| .seq <| .region <| .op I I (.fieldAddr I I (G136_0 _)) <| .op I I (.fieldAddr I I (G30_5 _)) <| .op I I (.load I I Y27 I) <| .op I I (.len I U27 I) <| .op I I (.move I I) <| .nil <| .block <| .loopS [1, 16, 17] (fun (v : Int) => [(18, .d (.int v))]) (fun (v : Int) => []) (.c I <| .c I <| .c I .nil) h ⟨_, I, I, I, I, I, I, I, trivial⟩ (fun rec_82 x18_81 h => ?_)
    refine .seq <| .region <| .op I I (.lss I I I) <| .nil <| .keep [] [1, 16, 17, 18, 19] (.c I <| .c I <| .c I <| .c I <| .c I .nil) I <| .seq <| .condS I h (fun h => ?_) fun h => ?_
    · refine .skip <| .seq <| .block <| .seq <| .region <| .op I I (.move I I) <| bK h fun x21_83 hx21_83 h => .op I I (.idx I I I U27 S84 hx21_83) <| .op I I (.load I I Y84 I) <| .allocZ I I I I (.agg Zc84 (ds' := [.int 0, .sl 1 (List.map D.int []), .sl 2 (List.map Change.enc []), .sl 2 (List.map Row.enc []), .sl 3 (List.map Update.enc [])]) (.cons (.refl _) (.cons (.nil _) (.cons (.nil _) (.cons (.nil _) (.cons (.nil _) (.nil))))))) I <| .op I I (.assign I I) <| .store I I I I I I (.ofD I) C84 I (Nat.le_of_ble_eq_true I) <| .nil <| .seq <| .seq <| .draw 23 Hm (by kernel_rfl) (by kernel_rfl) <| .op I I I I (.fieldAddrLoc I I I F84_0) <| .op I I I I (.loadLoc1 I I I Y3 I) <| .op I I I I (.fieldAddr I I (G136_0 _)) <| .op I I I I (.fieldAddr I I (G30_4 _)) <| .op I I I I (.load I I Y26 I) <| .op I I I I (.len I U26 I) <| bK h fun x29_84 hx29_84 h => .op I I I I (.call I K150 I (model_index_ok _ _ _ _ hx29_84)) <| .op I I I I (.not I I) <| .op I I I I (.move I I) <| gK h fun hc_86 h => .jOr 13 (b2 := (x21_83.arguments.length : Int) != ((((idx t0.model.operations x21_83.operation).getD default).sorts).length : Int)) I I I I (.inl I) (fun _ _ _ h1 => by cases h1) I I (fun hb_85 => ?_) ?_
      · refine .gop I I I I I I (.fieldAddrLoc I I I F84_1) <| .gop I I I I I I (.loadLoc1 I I I Y22 I) <| .gop I I I I I I (.len I U22 I) <| .gop I I I I I I (.fieldAddr I I (G136_0 _)) <| .gop I I I I I I (.fieldAddr I I (G30_4 _)) <| .gop I I I I I I (.load I I Y26 I) <| .gop I I I I I I (.fieldAddrLoc I I I F84_0) <| .gop I I I I I I (.loadLoc1 I I I Y3 I) <| .gop I I I I I I (.idx I I I U26 S129 (someD (impF hc_86 hb_85))) <| .gop I I I I I I (.fieldAddr I I (G129_2 _)) <| .gop I I I I I I (.load I I Y22 I) <| .gop I I I I I I (.len I U22 I) <| .gop I I I I I I (.neq I I I) ?_
        exact .nil I
      refine .nil <| .nil <| .keep [.box 84 [.d (.int x21_83.operation), .d (.sl 1 (List.map D.int x21_83.arguments)), .d (.sl 2 (List.map Change.enc x21_83.effect.delta)), .d (.sl 2 (List.map Row.enc x21_83.effect.hold)), .d (.sl 3 (List.map Update.enc x21_83.effect.updates))]] [1, 3, 4, 16, 17, 18, 45] (.c I <| .c I <| .c I <| .c I <| .c I <| .c I <| .c I .nil) I <| .condS I h (fun h => ?_) fun h => ?_
      · refine .seq <| .region <| .op I I (.assign I I) <| .nil <| .ret ?_
        cases h
        exact retOne I (.d _)
      · refine .skip <| .seq <| .seq <| .region <| .op I I (.fieldAddr I I (G136_0 _)) <| .op I I (.fieldAddr I I (G30_4 _)) <| .op I I (.load I I Y26 I) <| .op I I (.fieldAddrLoc I I I F84_0) <| .op I I (.loadLoc1 I I I Y3 I) <| bK h fun x51_87 hx51_87 h => .op I I (.idx I I I U26 S129 hx51_87) <| .op I I (.fieldAddr I I (G129_2 _)) <| .op I I (.load I I Y22 I) <| .op I I (.len I U22 I) <| .op I I (.move I I) <| .nil <| .block <| .loopS [1, 3, 4, 16, 17, 18, 53, 54] (fun (v : Int) => [(55, .d (.int v))]) (fun (v : Int) => []) (.c I <| .c I <| .c I <| .c I <| .c I <| .c I <| .c I <| .c I .nil) h ⟨_, I, I, I, I, I, I, I, I, I, I, I, I, trivial⟩ (fun rec_107 x55_106 h => ?_)
        refine .seq <| .region <| .op I I (.lss I I I) <| .nil <| .keep [.box 84 [.d (.int x21_83.operation), .d (.sl 1 (List.map D.int x21_83.arguments)), .d (.sl 2 (List.map Change.enc x21_83.effect.delta)), .d (.sl 2 (List.map Row.enc x21_83.effect.hold)), .d (.sl 3 (List.map Update.enc x21_83.effect.updates))]] [1, 3, 4, 16, 17, 18, 53, 54, 55, 56] (.c I <| .c I <| .c I <| .c I <| .c I <| .c I <| .c I <| .c I <| .c I <| .c I .nil) I <| .seq <| .condS I h (fun h => ?_) fun h => ?_
        · refine .skip <| .seq <| .block <| .seq <| .region <| .op I I (.move I I) <| bK h fun x58_108 hx58_108 h => .op I I (.idx I I I U22 S3 hx58_108) <| .op I I (.load I I Y3 I) <| .op I I (.assign I I) <| .op I I (.assign I I) <| .nil <| .seq <| .region <| .op I I (.fieldAddrLoc I I I F84_1) <| .op I I (.loadLoc1 I I I Y22 I) <| .op I I (.move I I) <| bK h fun x63_109 hx63_109 h => .op I I (.idx I I I U22 S3 hx63_109) <| .op I I (.load I I Y3 I) <| .op I I (.assign I I) <| .nil <| .seq <| .plain 22 I <| .op I I I I (.move I I) <| .op I I I I (.lss I I I) <| .op I I I I (.move I I) <| gK h fun hc_111 h => .jAnd 3 (b2 := !((model_around n x63_109 9999).getD default)) I I I I (.inl I) (fun _ _ _ h1 => by cases h1) I I (fun hb_110 => ?_) ?_
          · refine .gop I I I I I I (.move I I) <| .gop I I I I I I (.call I K156 I (model_around_ok _ _ _ _ (someD (impT hc_111 hb_110)))) <| .gop I I I I I I (.not I I) ?_
            exact .nil I
          refine .op I I I I (.move I I) <| gK h fun hc_114 h => gK h fun hc_115 h => .jOr 13 (b2 := (decide (0 ≤ x58_108)) && (!((model_index n x63_109 ((idx t0.model.sorts x58_108).getD default)).getD default))) I I I I (.inl I) (fun _ _ _ h1 => by cases h1) I I (fun hb_112 => ?_) ?_
          · refine .gop I I I I I I (.move I I) <| .gop I I I I I I (.geq I I I) <| .gop I I I I I I (.move I I) <| .jAnd 9 (b2 := !((model_index n x63_109 ((idx t0.model.sorts x58_108).getD default)).getD default)) I I I I (.inr ⟨_, _, _, I, I, I⟩) (fun _ _ _ h1 h2 => by cases h1; cases h2; decide) I I (fun hb_113 => ?_) ?_
            · refine .gop I I I I I I (.move I I) <| .gop I I I I I I (.fieldAddr I I (G136_0 _)) <| .gop I I I I I I (.fieldAddr I I (G30_0 _)) <| .gop I I I I I I (.load I I Y22 I) <| .gop I I I I I I (.move I I) <| .gop I I I I I I (.idx I I I U22 S3 (someD (impT (impF hc_114 hb_112) hb_113))) <| .gop I I I I I I (.load I I Y3 I) <| .gop I I I I I I (.call I K150 I (model_index_ok _ _ _ _ (someD (impT (impF hc_115 hb_112) hb_113)))) <| .gop I I I I I I (.not I I) ?_
              exact .nil I
            exact .nil I
          refine .nil <| .nil <| .keep [.box 84 [.d (.int x21_83.operation), .d (.sl 1 (List.map D.int x21_83.arguments)), .d (.sl 2 (List.map Change.enc x21_83.effect.delta)), .d (.sl 2 (List.map Row.enc x21_83.effect.hold)), .d (.sl 3 (List.map Update.enc x21_83.effect.updates))]] [1, 3, 4, 16, 17, 18, 53, 54, 55, 86] (.c I <| .c I <| .c I <| .c I <| .c I <| .c I <| .c I <| .c I <| .c I <| .c I .nil) I <| .condS I h (fun h => ?_) fun h => ?_
          · refine .seq <| .region <| .op I I (.assign I I) <| .nil <| .ret ?_
            cases h
            exact retOne I (.d _)
          · refine .skip <| .region <| .op I I (.add6 I I I) <| .op I I (.move I I) <| .nil ?_
            exact ⟨_, h, ⟨_, I, I, I, I, I, I, I, I, I, I, I, I, trivial⟩⟩
        · refine .exit <| .join [1, 4, 16, 17, 18] (fun (v : Unit) => []) (fun (v : Unit) => []) (.c I <| .c I <| .c I <| .c I <| .c I .nil) h (fun k_116 h => ?_) (fun v h => ?_)
          · refine .seq <| .region <| .op I I (.move I I) <| .op I I (.gtr I I I) <| .nil <| .condS I h (fun h => ?_) fun h => ?_
            · refine .seq <| .region <| .op I I (.fieldAddr I I (G136_0 _)) <| .op I I (.fieldAddr I I (G30_5 _)) <| .op I I (.load I I Y27 I) <| .op I I (.move I I) <| .op I I (.sub6 I I I) <| bK h fun x95_117 hx95_117 h => .op I I (.idx I I I U27 S84 hx95_117) <| .op I I (.load I I Y84 I) <| .allocStore I I I I I I I I (by simp) I I Z84 <| .nil <| .seq <| .plain 20 I <| .op I I I I (.fieldAddr I I (G84_0 _)) <| .op I I I I (.load I I Y3 I) <| .op I I I I (.fieldAddrLoc I I I F84_0) <| .op I I I I (.loadLoc1 I I I Y3 I) <| .op I I I I (.gtr I I I) <| .op I I I I (.move I I) <| gK h fun hc_120 h => .jOr 13 (b2 := (x95_117.operation == x21_83.operation) && (decide (0 ≤ ((slices_Compare_Lint_int n x95_117.arguments x21_83.arguments).getD default)))) I I I I (.inl I) (fun _ _ _ h1 => by cases h1) I I (fun hb_118 => ?_) ?_
              · refine .gop I I I I I I (.fieldAddr I I (G84_0 _)) <| .gop I I I I I I (.load I I Y3 I) <| .gop I I I I I I (.fieldAddrLoc I I I F84_0) <| .gop I I I I I I (.loadLoc1 I I I Y3 I) <| .gop I I I I I I (.eql I I I) <| .gop I I I I I I (.move I I) <| .jAnd 6 (b2 := decide (0 ≤ ((slices_Compare_Lint_int n x95_117.arguments x21_83.arguments).getD default))) I I I I (.inr ⟨_, _, _, I, I, I⟩) (fun _ _ _ h1 h2 => by cases h1; cases h2; decide) I I (fun hb_119 => ?_) ?_
                · refine .gop I I I I I I (.fieldAddr I I (G84_1 _)) <| .gop I I I I I I (.load I I Y22 I) <| .gop I I I I I I (.fieldAddrLoc I I I F84_1) <| .gop I I I I I I (.loadLoc1 I I I Y22 I) <| .gop I I I I I I (.call I K157 I (slices_Compare_Lint_int_ok _ _ _ _ (someD (impT (impF hc_120 hb_118) hb_119)))) <| .gop I I I I I I (.geq I I I) ?_
                  exact .nil I
                exact .nil I
              refine .nil <| .nil <| .keep [.box 84 [.d (.int x21_83.operation), .d (.sl 1 (List.map D.int x21_83.arguments)), .d (.sl 2 (List.map Change.enc x21_83.effect.delta)), .d (.sl 2 (List.map Row.enc x21_83.effect.hold)), .d (.sl 3 (List.map Update.enc x21_83.effect.updates))]] [1, 4, 16, 17, 18, 116] (.c I <| .c I <| .c I <| .c I <| .c I <| .c I .nil) I <| .condS I h (fun h => ?_) fun h => ?_
              · refine .seq <| .region <| .op I I (.assign I I) <| .nil <| .ret ?_
                cases h
                exact retOne I (.d _)
              · refine .skip ?_
                exact ⟨_, h, ⟨_, I, I, I, I, I, I, I, I, trivial⟩⟩
            · refine .skip ?_
              exact ⟨_, h, ⟨_, I, I, I, I, I, I, I, I, trivial⟩⟩
          · refine .seq <| .region <| .op I I (.load I I Y136 I) <| .op I I (.fieldAddrLoc I I I F84_2) <| .op I I (.loadLoc I I I Y82 (Nat.le_of_ble_eq_true I) (v := .d (Effect.enc x21_83.effect)) I) <| bK h fun x120_121 hx120_121 h => .op I I (.call I K158 I (model_judge_effect_ok _ _ _ _ hx120_121)) <| .op I I (.not I I) <| .nil <| .keep [.box 84 [.d (.int x21_83.operation), .d (.sl 1 (List.map D.int x21_83.arguments)), .d (.sl 2 (List.map Change.enc x21_83.effect.delta)), .d (.sl 2 (List.map Row.enc x21_83.effect.hold)), .d (.sl 3 (List.map Update.enc x21_83.effect.updates))]] [1, 16, 17, 18, 121] (.c I <| .c I <| .c I <| .c I <| .c I .nil) I <| .condS I h (fun h => ?_) fun h => ?_
            · refine .seq <| .region <| .op I I (.assign I I) <| .nil <| .ret ?_
              cases h
              exact retOne I (.d _)
            · refine .skip <| .region <| .op I I (.add6 I I I) <| .op I I (.move I I) <| .nil ?_
              exact ⟨_, h, ⟨_, I, I, I, I, I, I, I, trivial⟩⟩
    · refine .exit <| .seq <| .region <| .op I I (.assign I I) <| .nil <| .ret ?_
      cases h
      exact retOne I (.d _)
theorem model_judge_hidden_1_ok (n : Nat) (t0 : Hide) (t1 : Int) (t2 : GMap Int Bool) (r : Bool) (h : model_judge_hidden_1 n t0 t1 t2 = some r) : Pure Tryz.prog 160 [Hide.enc t0, .ref (.int t1), .ref (GMap.dat (fun n : Int => Value.int .i64 n) D.bool t2)] (.bool r) := by
  refine Pure.ot Tryz.func160 I Tryz.ntmps160 I fun A w => .seq <| .region <| .op I I (.box I I) <| .op I I (.assign I I) <| .nil <| .seq <| .plain 10 I <| .op I I I I (.fieldAddr I I (G179_0 _)) <| .op I I I I (.load I I Y3 I) <| .op I I I I (.load I I Y3 I) <| .op I I I I (.eql I I I) <| .op I I I I (.move I I) <| .jAnd 4 (b2 := (t2.get? t0.to).getD false) I I I I (.inl I) (fun _ _ _ h1 => by cases h1) I I (fun hb_1 => ?_) ?_
  · refine .gop I I I I I I (.load I I Y180 I) <| .gop I I I I I I (.fieldAddr I I (G179_2 _)) <| .gop I I I I I I (.load I I Y3 I) <| .gop I I I I I I (.mapGetD (ke := (fun n : Int => Value.int .i64 n)) (ve := D.bool) I U180 KT3 I I (z := (false : Bool)) (.val Zv4)) ?_
    exact .nil I
  refine .nil <| .op I I (.assign I I) <| .nil <| .ret ?_
  cases h
  exact retOne I (.d _)
theorem slices_IndexFunc_LHide_api_Hide_ok (n : Nat) (t0 : List Hide) (t1 : Hide → Option Bool) (F1 : D) (hF1 : ∀ (q0 : Hide) (y : Bool), t1 q0 = some y → Dyn Tryz.prog F1 [Hide.enc q0] (.bool y)) (r : Int) (h : slices_IndexFunc_LHide_api_Hide n t0 t1 = some r) : Pure Tryz.prog 203 [.sl 3 (List.map Hide.enc t0), F1] (.int r) := by
  refine Pure.ot Tryz.func203 I Tryz.ntmps203 I fun A w => .seq <| .region <| .op I I (.assign I I) <| .nil <| .seq <| .seq <| .region <| .op I I (.move I I) <| .op I I (.len I U28 I) <| .op I I (.move I I) <| .nil <| .block <| .loopS [0, 1, 7] (fun (v : Int) => [(8, .d (.int v))]) (fun (v : Int) => []) (.c I <| .c I <| .c I .nil) h ⟨_, I, I, I, I, I, I, I, trivial⟩ (fun rec_8 x8_7 h => ?_)
  refine .seq <| .region <| .op I I (.lss I I I) <| .nil <| .keep [] [0, 1, 7, 8, 9] (.c I <| .c I <| .c I <| .c I <| .c I .nil) I <| .seq <| .condS I h (fun h => ?_) fun h => ?_
  · refine .skip <| .seq <| .block <| .seq <| .region <| .op I I (.move I I) <| .op I I (.assign I I) <| .nil <| .seq <| .region <| .op I I (.move I I) <| .op I I (.move I I) <| .op I I (.move I I) <| bK h fun x14_9 hx14_9 h => .op I I (.idx I I I U28 S179 hx14_9) <| .op I I (.load I I Y179 I) <| bK h fun x16_10 hx16_10 h => .op I I (.dyn I I I (hF1 _ _ hx16_10)) <| .nil <| .condS I h (fun h => ?_) fun h => ?_
    · refine .seq <| .region <| .op I I (.move I I) <| .op I I (.assign I I) <| .nil <| .ret ?_
      cases h
      exact retOne I (.d _)
    · refine .skip <| .region <| .op I I (.add6 I I I) <| .op I I (.move I I) <| .nil ?_
      exact ⟨_, h, ⟨_, I, I, I, I, I, I, I, trivial⟩⟩
  · refine .exit <| .seq <| .region <| .op I I (.assign I I) <| .nil <| .ret ?_
    cases h
    exact retOne I (.d _)
theorem slices_ContainsFunc_LHide_api_Hide_ok (n : Nat) (t0 : List Hide) (t1 : Hide → Option Bool) (F1 : D) (hF1 : ∀ (q0 : Hide) (y : Bool), t1 q0 = some y → Dyn Tryz.prog F1 [Hide.enc q0] (.bool y)) (r : Bool) (h : slices_ContainsFunc_LHide_api_Hide n t0 t1 = some r) : Pure Tryz.prog 159 [.sl 3 (List.map Hide.enc t0), F1] (.bool r) := by
  refine Pure.ot Tryz.func159 I Tryz.ntmps159 I fun A w => .seq <| .region <| .op I I (.assign I I) <| .nil <| .seq <| .region <| .op I I (.move I I) <| .op I I (.move I I) <| bK h fun x7_1 hx7_1 h => .op I I (.call I K203 I (slices_IndexFunc_LHide_api_Hide_ok _ _ _ _ hF1 _ hx7_1)) <| .op I I (.geq I I I) <| .op I I (.assign I I) <| .nil <| .ret ?_
  cases h
  exact retOne I (.d _)
set_option maxHeartbeats 2000000 in
theorem model_judge_hidden_ok (n : Nat) (t0 : Judge) (r : Bool) (h : model_judge_hidden n t0 = some r) : Pure Tryz.prog 100 [Judge.enc t0] (.bool r) := by
  refine Pure.ot Tryz.func100 I Tryz.ntmps100 I fun A w => .seq <| .region <| .op I I (.box I I) <| .op I I (.assign I I) <| .nil <| .seq <| .seq <| .region <| .op I I (.fieldAddr I I (G136_0 _)) <| .op I I (.fieldAddr I I (G30_6 _)) <| .op I I (.load I I Y28 I) <| .op I I (.len I U28 I) <| .op I I (.gtr I I I) <| .nil <| .condS I h (fun h => ?_) fun h => ?_
  · refine .seq <| .region <| .op I I (.assign I I) <| .nil <| .ret ?_
    cases h
    exact retOne I (.d _)
  · refine .skip <| .seq <| .seq <| .region <| .op I I (.fieldAddr I I (G136_0 _)) <| .op I I (.fieldAddr I I (G30_6 _)) <| .op I I (.load I I Y28 I) <| .op I I (.len I U28 I) <| .op I I (.move I I) <| .nil <| .block <| .loopS [1, 18, 19] (fun (v : Int) => [(20, .d (.int v))]) (fun (v : Int) => []) (.c I <| .c I <| .c I .nil) h ⟨_, I, I, I, I, I, I, I, trivial⟩ (fun rec_32 x20_31 h => ?_)
    refine .seq <| .region <| .op I I (.lss I I I) <| .nil <| .keep [] [1, 18, 19, 20, 21] (.c I <| .c I <| .c I <| .c I <| .c I .nil) I <| .seq <| .condS I h (fun h => ?_) fun h => ?_
    · refine .skip <| .seq <| .block <| .seq <| .region <| bK h fun x22_33 hx22_33 h => .op I I (.idx I I I U28 S179 hx22_33) <| .op I I (.load I I Y179 I) <| .allocStore I I I I I I I I (by simp) I I Z179 <| .nil <| .seq <| .seq <| .plain 25 I <| .op I I I I (.fieldAddr I I (G179_0 _)) <| .op I I I I (.load I I Y3 I) <| .op I I I I (.fieldAddr I I (G136_0 _)) <| .op I I I I (.fieldAddr I I (G30_1 _)) <| .op I I I I (.load I I Y23 I) <| .op I I I I (.len I U23 I) <| bK h fun x30_34 hx30_34 h => .op I I I I (.call I K150 I (model_index_ok _ _ _ _ hx30_34)) <| .op I I I I (.not I I) <| .op I I I I (.move I I) <| gK h fun hc_36 h => .jOr 8 (b2 := !((model_index n x22_33.to (t0.model.tables.length : Int)).getD default)) I I I I (.inl I) (fun _ _ _ h1 => by cases h1) I I (fun hb_35 => ?_) ?_
      · refine .gop I I I I I I (.fieldAddr I I (G179_2 _)) <| .gop I I I I I I (.load I I Y3 I) <| .gop I I I I I I (.fieldAddr I I (G136_0 _)) <| .gop I I I I I I (.fieldAddr I I (G30_1 _)) <| .gop I I I I I I (.load I I Y23 I) <| .gop I I I I I I (.len I U23 I) <| .gop I I I I I I (.call I K150 I (model_index_ok _ _ _ _ (someD (impF hc_36 hb_35)))) <| .gop I I I I I I (.not I I) ?_
        exact .nil I
      refine .op I I I I (.move I I) <| .jOr 5 (b2 := x22_33.table == x22_33.to) I I I I (.inl I) (fun _ _ _ h1 => by cases h1) I I (fun hb_37 => ?_) ?_
      · refine .gop I I I I I I (.fieldAddr I I (G179_0 _)) <| .gop I I I I I I (.load I I Y3 I) <| .gop I I I I I I (.fieldAddr I I (G179_2 _)) <| .gop I I I I I I (.load I I Y3 I) <| .gop I I I I I I (.eql I I I) ?_
        exact .nil I
      refine .nil <| .nil <| .keep [] [1, 4, 18, 19, 20, 48] (.c I <| .c I <| .c I <| .c I <| .c I <| .c I .nil) I <| .condS I h (fun h => ?_) fun h => ?_
      · refine .seq <| .region <| .op I I (.assign I I) <| .nil <| .ret ?_
        cases h
        exact retOne I (.d _)
      · refine .skip <| .seq <| .draw 18 Hm (by kernel_rfl) (by kernel_rfl) <| .op I I I I (.fieldAddr I I (G136_0 _)) <| .op I I I I (.fieldAddr I I (G30_1 _)) <| .op I I I I (.load I I Y23 I) <| .op I I I I (.fieldAddr I I (G179_0 _)) <| .op I I I I (.load I I Y3 I) <| bK h fun x54_38 hx54_38 h => .op I I I I (.idx I I I U23 S127 hx54_38) <| .op I I I I (.load I I Y127 I) <| .op I I I I (.fieldAddr I I (G136_0 _)) <| .op I I I I (.fieldAddr I I (G30_1 _)) <| .op I I I I (.load I I Y23 I) <| .op I I I I (.fieldAddr I I (G179_2 _)) <| .op I I I I (.load I I Y3 I) <| bK h fun x61_39 hx61_39 h => .op I I I I (.idx I I I U23 S127 hx61_39) <| .op I I I I (.load I I Y127 I) <| .alloc I I I I ZZ127 <| .alloc I I I I ZZ127 <| .store I I I I I I Z127 <| .store I I I I I I Z127 <| .nil <| .freezes [0, 1] (.cons (t := 5) (d := .ref (Table.enc x54_38)) I (.loc (inIds I) I (.cons (.d _) (.cons (.d _) (.cons (.d _) (.cons (.d _) (.cons (.d _) (.cons (.d _) (.nil)))))))) (.cons (t := 6) (d := .ref (Table.enc x61_39)) I (.loc (inIds I) I (.cons (.d _) (.cons (.d _) (.cons (.d _) (.cons (.d _) (.cons (.d _) (.cons (.d _) (.nil)))))))) (.nil))) <| .nil <| .keep [.dead, .dead] [1, 4, 5, 6, 18, 19, 20] (.c I <| .c I <| .c I <| .c I <| .c I <| .c I <| .c I .nil) I <| .seq <| .draw 36 Hm (by kernel_rfl) (by kernel_rfl) <| .op I I I I (.fieldAddr I I (G127_1 _)) <| .op I I I I (.load I I Y3 I) <| .op I I I I (.neq I I I) <| .op I I I I (.move I I) <| .jOr 3 (b2 := x61_39.kind != 0) I I I I (.inl I) (fun _ _ _ h1 => by cases h1) I I (fun hb_40 => ?_) ?_
        · refine .gop I I I I I I (.fieldAddr I I (G127_1 _)) <| .gop I I I I I I (.load I I Y3 I) <| .gop I I I I I I (.neq I I I) ?_
          exact .nil I
        refine .op I I I I (.move I I) <| gK h fun hc_42 h => .jOr 7 (b2 := !((model_index n x22_33.column (x54_38.columns.length : Int)).getD default)) I I I I (.inl I) (fun _ _ _ h1 => by cases h1) I I (fun hb_41 => ?_) ?_
        · refine .gop I I I I I I (.fieldAddr I I (G179_1 _)) <| .gop I I I I I I (.load I I Y3 I) <| .gop I I I I I I (.fieldAddr I I (G127_2 _)) <| .gop I I I I I I (.load I I Y22 I) <| .gop I I I I I I (.len I U22 I) <| .gop I I I I I I (.call I K150 I (model_index_ok _ _ _ _ (someD (impF hc_42 hb_41)))) <| .gop I I I I I I (.not I I) ?_
          exact .nil I
        refine .op I I I I (.move I I) <| .jOr 4 (b2 := (x61_39.columns.length : Int) != 1) I I I I (.inl I) (fun _ _ _ h1 => by cases h1) I I (fun hb_43 => ?_) ?_
        · refine .gop I I I I I I (.fieldAddr I I (G127_2 _)) <| .gop I I I I I I (.load I I Y22 I) <| .gop I I I I I I (.len I U22 I) <| .gop I I I I I I (.neq I I I) ?_
          exact .nil I
        refine .op I I I I (.move I I) <| gK h fun hc_45 h => gK h fun hc_46 h => .jOr 11 (b2 := ((idx x61_39.columns 0).getD default) != ((idx x54_38.columns x22_33.column).getD default)) I I I I (.inl I) (fun _ _ _ h1 => by cases h1) I I (fun hb_44 => ?_) ?_
        · refine .gop I I I I I I (.fieldAddr I I (G127_2 _)) <| .gop I I I I I I (.load I I Y22 I) <| .gop I I I I I I (.idx I I I U22 S3 (someD (impF hc_45 hb_44))) <| .gop I I I I I I (.load I I Y3 I) <| .gop I I I I I I (.fieldAddr I I (G127_2 _)) <| .gop I I I I I I (.load I I Y22 I) <| .gop I I I I I I (.fieldAddr I I (G179_1 _)) <| .gop I I I I I I (.load I I Y3 I) <| .gop I I I I I I (.idx I I I U22 S3 (someD (impF hc_46 hb_44))) <| .gop I I I I I I (.load I I Y3 I) <| .gop I I I I I I (.neq I I I) ?_
          exact .nil I
        refine .nil <| .nil <| .keep [.dead, .dead] [1, 18, 19, 20, 98] (.c I <| .c I <| .c I <| .c I <| .c I .nil) I <| .condS I h (fun h => ?_) fun h => ?_
        · refine .seq <| .region <| .op I I (.assign I I) <| .nil <| .ret ?_
          cases h
          exact retOne I (.d _)
        · refine .skip <| .region <| .op I I (.add6 I I I) <| .op I I (.move I I) <| .nil ?_
          exact ⟨_, h, ⟨_, I, I, I, I, I, I, I, trivial⟩⟩
    · refine .exit <| .seq <| .region <| .makeMap (fun n : Int => Value.int .i64 n) D.bool I I I I <| .allocZ I I I I (.val Zv180) I <| .store I I I I I I (.cons (.mp I) .nil) C180 I (Nat.le_of_ble_eq_true I) <| .nil <| .seq <| .seq <| .region <| .op I I (.fieldAddr I I (G136_0 _)) <| .op I I (.fieldAddr I I (G30_6 _)) <| .op I I (.load I I Y28 I) <| .op I I (.len I U28 I) <| .op I I (.move I I) <| .nil <| .block <| .loopS [1, 7, 103, 104] (fun (v : (GMap Int Bool) × Int) => [(105, .d (.int v.2))]) (fun (v : (GMap Int Bool) × Int) => [(0, GMap.blk (fun n : Int => Value.int .i64 n) D.bool v.1)]) (.c I <| .c I <| .c I <| .c I .nil) h ⟨_, I, I, I, I, I, I, I, I, trivial⟩ (fun rec_55 v h => ?_)
      obtain ⟨m0_53, x105_54⟩ := v
      refine .seq <| .region <| .op I I (.lss I I I) <| .nil <| .keep [GMap.blk (fun n : Int => Value.int .i64 n) D.bool m0_53, .box 180 [.mp 0]] [1, 7, 103, 104, 105, 106] (.c I <| .c I <| .c I <| .c I <| .c I <| .c I .nil) I <| .seq <| .condS I h (fun h => ?_) fun h => ?_
      · refine .skip <| .seq <| .block <| .seq <| .region <| bK h fun x107_56 hx107_56 h => .op I I (.idx I I I U28 S179 hx107_56) <| .op I I (.load I I Y179 I) <| .allocStore I I I I I I I I (by simp) I I Z179 <| .nil <| .region <| .op I I (.loadLoc1 I I I Y180 I) <| .op I I (.fieldAddr I I (G179_0 _)) <| .op I I (.load I I Y3 I) <| .mapPut (k := x107_56.table) (v := true) I I I U180 KT3 I I I I <| .nil <| .region <| .op I I (.add6 I I I) <| .op I I (.move I I) <| .nil ?_
        exact ⟨_, h, ⟨_, I, I, I, I, I, I, I, I, trivial⟩⟩
      · refine .exit <| .seq <| .seq <| .region <| .op I I (.fieldAddr I I (G136_0 _)) <| .op I I (.fieldAddr I I (G30_6 _)) <| .op I I (.load I I Y28 I) <| .op I I (.len I U28 I) <| .op I I (.move I I) <| .nil <| .block <| .loopS [1, 7, 116] (fun (v : (GMap Int Bool) × Int) => [(117, .d (.int v.2))]) (fun (v : (GMap Int Bool) × Int) => [(0, GMap.blk (fun n : Int => Value.int .i64 n) D.bool v.1)]) (.c I <| .c I <| .c I .nil) h ⟨_, I, I, I, I, I, I, I, trivial⟩ (fun rec_141 v h => ?_)
        obtain ⟨m0_139, x117_140⟩ := v
        refine .seq <| .region <| .op I I (.lss I I I) <| .nil <| .keep [GMap.blk (fun n : Int => Value.int .i64 n) D.bool m0_139, .box 180 [.mp 0]] [1, 7, 116, 117, 118] (.c I <| .c I <| .c I <| .c I <| .c I .nil) I <| .seq <| .condS I h (fun h => ?_) fun h => ?_
        · refine .skip <| .seq <| .block <| .seq <| .region <| .op I I (.loadLoc1 I I I Y180 I) <| .mapRange I I I I U180 I I <| .nil <| .block <| .loopS [1, 7, 116, 117, 120] (fun (v : (GMap Int Bool) × (List Nat) × Nat) => []) (fun (v : (GMap Int Bool) × (List Nat) × Nat) => [(0, GMap.blk (fun n : Int => Value.int .i64 n) D.bool v.1), (2, .it 0 m0_139.clock v.2.1 v.2.2)]) (.c I <| .c I <| .c I <| .c I <| .c I .nil) h ⟨_, I, I, I, I, I, I, I, I, trivial⟩ (fun rec_174 v h => ?_)
          obtain ⟨m0_171, m2_172, m2_173⟩ := v
          refine .seq <| .region ?_
          obtain ⟨hold_176, hend_177, hstep_178⟩ := stepM_S h
          refine .mapNext I I I I I I I hold_176 (fun hz => ?_) (fun en_175 hen_175 => ?_)
          · have h := hend_177 hz
            refine .op I I (.extract I I I) <| .nil <| .keep [GMap.blk (fun n : Int => Value.int .i64 n) D.bool m0_171, .box 180 [.mp 0], .it 0 m0_139.clock m2_172 m2_173] [1, 7, 116, 117, 120, 122] (.c I <| .c I <| .c I <| .c I <| .c I <| .c I .nil) I <| .seq <| .condF I <| .exit <| .region <| .op I I (.add6 I I I) <| .op I I (.move I I) <| .nil ?_
            exact ⟨_, h, ⟨_, I, I, I, I, I, I, I, trivial⟩⟩
          · have h := hstep_178 en_175 hen_175
            refine .op I I (.extract I I I) <| .nil <| .keep [GMap.blk (fun n : Int => Value.int .i64 n) D.bool m0_171, .box 180 [.mp 0], .it 0 m0_139.clock (m2_172 ++ [en_175.1]) m0_171.clock] [1, 7, 116, 117, 120, 122] (.c I <| .c I <| .c I <| .c I <| .c I <| .c I .nil) I <| .seq <| .condT I <| .skip <| .block <| .seq <| .region <| gK h fun hn_179 h => .op I I (.entry I I I I (List.mem_filter.1 hen_175).1 (of_decide_eq_true hn_179)) <| .op I I (.extract I I I) <| .allocStore I I I I I I I I (by simp) I I Z3 <| .nil <| .seq <| .region <| .op I I (.fieldAddr I I (G136_0 _)) <| .op I I (.fieldAddr I I (G30_6 _)) <| .op I I (.load I I Y28 I) <| .op I I (.makeFuncV I I) <| bK h fun x129_180 hx129_180 h => .op I I (.callB I K159 (.cons I (.d _) (.cons I (.fn .nil (.cons (.d _) (.cons (.loc1 I (.mp I) I) (.nil)))) (.nil))) I (slices_ContainsFunc_LHide_api_Hide_ok _ _ _ _ (fun q0 y hq => ⟨_, _, I, K160, model_judge_hidden_1_ok _ q0 _ _ _ hq⟩) _ hx129_180)) <| .op I I (.not I I) <| .nil <| .condS I h (fun h => ?_) fun h => ?_
            · refine .region <| .op I I (.loadLoc1 I I I Y180 I) <| .op I I (.load I I Y3 I) <| .mapDel (k := en_175.2.1) I I I U180 KT3 I I I <| .nil ?_
              exact ⟨_, h, ⟨_, I, I, I, I, I, I, I, I, trivial⟩⟩
            · refine .skip ?_
              exact ⟨_, h, ⟨_, I, I, I, I, I, I, I, I, trivial⟩⟩
        · refine .exit <| .seq <| .region <| .op I I (.loadLoc1 I I I Y180 I) <| .op I I (.mapLen I U180 I I) <| .op I I (.eql I I I) <| .op I I (.assign I I) <| .nil <| .ret ?_
          cases h
          exact retOne I (.d _)
set_option maxHeartbeats 2000000 in
theorem model_Valid_ok (n : Nat) (t0 : Model) (r : Bool) (h : model_Valid n t0 = some r) : Pure Tryz.prog 39 [Model.enc t0] (.bool r) := by
  refine Pure.ot Tryz.func39 I Tryz.ntmps39 I fun A w => .seq <| .region <| .op I I (.box I I) <| .op I I (.assign I I) <| .nil <| .seq <| .seq <| .plain 18 I <| .op I I I I (.fieldAddr I I (G30_0 _)) <| .op I I I I (.load I I Y22 I) <| .op I I I I (.fieldAddr I I (G30_1 _)) <| .op I I I I (.load I I Y23 I) <| bK h fun x8_1 hx8_1 h => .op I I I I (.call I K94 I (cells_Valid_ok _ _ _ _ hx8_1)) <| .op I I I I (.not I I) <| .op I I I I (.move I I) <| .jOr 4 (b2 := decide (24 < (t0.families.length : Int))) I I I I (.inl I) (fun _ _ _ h1 => by cases h1) I I (fun hb_2 => ?_) ?_
  · refine .gop I I I I I I (.fieldAddr I I (G30_2 _)) <| .gop I I I I I I (.load I I Y24 I) <| .gop I I I I I I (.len I U24 I) <| .gop I I I I I I (.gtr I I I) ?_
    exact .nil I
  refine .op I I I I (.move I I) <| gK h fun hc_4 h => .jOr 4 (b2 := !((model_distinct n t0.families).getD default)) I I I I (.inl I) (fun _ _ _ h1 => by cases h1) I I (fun hb_3 => ?_) ?_
  · refine .gop I I I I I I (.fieldAddr I I (G30_2 _)) <| .gop I I I I I I (.load I I Y24 I) <| .gop I I I I I I (.call I K95 I (model_distinct_ok _ _ _ (someD (impF hc_4 hb_3)))) <| .gop I I I I I I (.not I I) ?_
    exact .nil I
  refine .nil <| .nil <| .keep [] [1, 21] (.c I <| .c I .nil) I <| .condS I h (fun h => ?_) fun h => ?_
  · refine .seq <| .region <| .op I I (.assign I I) <| .nil <| .ret ?_
    cases h
    exact retOne I (.d _)
  · refine .skip <| .seq <| .draw 9 Hm (by kernel_rfl) (by kernel_rfl) <| .op I I I I (.load I I Y30 I) <| .op I I I I (.fieldAddr I I (G30_0 _)) <| .op I I I I (.load I I Y22 I) <| .op I I I I (.fieldAddr I I (G30_1 _)) <| .op I I I I (.load I I Y23 I) <| bK h fun x27_5 hx27_5 h => .op I I I I (.call I K96 I (cells_Ranges_ok _ _ _ _ _ hx27_5)) <| .op I I I I (.castD (Judge.enc (⟨t0, x27_5⟩ : Judge)) I (.build I Pl136 (.agg Zc136 (ds' := [_, _, _, _, _, _, _, _]) (.cons (.refl _) (.cons (.refl _) (.cons (.refl _) (.cons (.refl _) (.cons (.refl _) (.cons (.refl _) (.cons (.refl _) (.cons (.refl _) (.nil)))))))))) I I)) <| .alloc I I I I ZZ136 <| .store I I I I I I Z136 <| .nil <| .freezes [0] (.cons (t := 3) (d := .ref (Judge.enc (⟨t0, x27_5⟩ : Judge))) I (.loc (inIds I) I (.cons (.d _) (.cons (.d _) (.cons (.d _) (.cons (.d _) (.cons (.d _) (.cons (.d _) (.cons (.d _) (.cons (.d _) (.nil)))))))))) (.nil)) <| .nil <| .seq <| .plain 14 I <| .op I I I I (.load I I Y136 I) <| bK h fun x30_6 hx30_6 h => .op I I I I (.call I K97 I (model_judge_constraints_ok _ _ _ hx30_6)) <| .op I I I I (.move I I) <| gK h fun hc_8 h => .jAnd 2 (b2 := ((model_judge_operations n (⟨t0, x27_5⟩ : Judge)).getD default)) I I I I (.inl I) (fun _ _ _ h1 => by cases h1) I I (fun hb_7 => ?_) ?_
    · refine .gop I I I I I I (.load I I Y136 I) <| .gop I I I I I I (.call I K98 I (model_judge_operations_ok _ _ _ (someD (impT hc_8 hb_7)))) ?_
      exact .nil I
    refine .op I I I I (.move I I) <| gK h fun hc_10 h => .jAnd 2 (b2 := ((model_judge_actions n (⟨t0, x27_5⟩ : Judge)).getD default)) I I I I (.inl I) (fun _ _ _ h1 => by cases h1) I I (fun hb_9 => ?_) ?_
    · refine .gop I I I I I I (.load I I Y136 I) <| .gop I I I I I I (.call I K99 I (model_judge_actions_ok _ _ _ (someD (impT hc_10 hb_9)))) ?_
      exact .nil I
    refine .op I I I I (.move I I) <| gK h fun hc_12 h => .jAnd 2 (b2 := ((model_judge_hidden n (⟨t0, x27_5⟩ : Judge)).getD default)) I I I I (.inl I) (fun _ _ _ h1 => by cases h1) I I (fun hb_11 => ?_) ?_
    · refine .gop I I I I I I (.load I I Y136 I) <| .gop I I I I I I (.call I K100 I (model_judge_hidden_ok _ _ _ (someD (impT hc_12 hb_11)))) ?_
      exact .nil I
    refine .nil <| .op I I (.assign I I) <| .nil <| .keep [.dead] [2] (.c I .nil) I <| .ret ?_
    cases h
    exact retOne I (.d _)
set_option maxHeartbeats 2000000 in
theorem symmetry_open_ok (n : Nat) (t0 : Model) (r : (Option Layout) × Bool) (h : symmetry_open n t0 = some r) : Pure Tryz.prog 107 [Model.enc t0] (.tup [optD Layout.enc r.1, .bool r.2]) := by
  refine Pure.ot Tryz.func107 I Tryz.ntmps107 I fun A w => .seq <| .region <| .op I I (.box I I) <| .op I I (.assign I I) <| .op I I (.assign I I) <| .nil <| .seq <| .seq <| .region <| .op I I (.load I I Y30 I) <| bK h fun x17_1 hx17_1 h => .op I I (.call I K39 I (model_Valid_ok _ _ _ hx17_1)) <| .op I I (.not I I) <| .nil <| .condS I h (fun h => ?_) fun h => ?_
  · refine .seq <| .region <| .op I I (.assign I I) <| .op I I (.assign I I) <| .nil <| .ret ?_
    cases h
    exact retTwo I I (.d _) (.d _)
  · refine .skip <| .seq <| .region <| .op I I (.load I I Y30 I) <| .op I I (.build I Pl190 (.agg Zc190 (ds' := [_, _, _, _, _, _, _, .val (.slice none 0 0), .val (.slice none 0 0)]) (.cons (.refl _) (.cons (.refl _) (.cons (.refl _) (.cons (.refl _) (.cons (.refl _) (.cons (.refl _) (.cons (.refl _) (.cons (.refl _) (.cons (.refl _) (.nil))))))))))) I I) <| .box I I I I I (.ofD I) <| .nilCell 0 7 2 192 I I <| .nilCell 0 8 2 192 I I <| .op I I (.assign I I) <| .nil <| .seq <| .seq <| .region <| .op I I (.fieldAddr I I (G30_1 _)) <| .op I I (.load I I Y23 I) <| .op I I (.len I U23 I) <| .op I I (.move I I) <| .nil <| .block <| .loopS [1, 4, 23, 24] (fun (v : (List Place) × (List Place) × Int) => [(25, .d (.int v.2.2))]) (fun (v : (List Place) × (List Place) × Int) => [(0, .box 190 [.d (.sl 1 (List.map D.int t0.sorts)), .d (.sl 6 (List.map Table.enc t0.tables)), .d (.sl 1 (List.map D.str t0.families)), .d (.sl 6 (List.map Constraint.enc t0.constraints)), .d (.sl 3 (List.map Operation.enc t0.operations)), .d (.sl 5 (List.map Action.enc t0.actions)), .d (.sl 3 (List.map Hide.enc t0.hides)), .vec 1 (List.length v.1), .vec 2 (List.length v.2.1)]), (1, .vec 192 2 (List.map Place.enc v.1)), (2, .vec 192 2 (List.map Place.enc v.2.1))]) (.c I <| .c I <| .c I <| .c I .nil) h ⟨_, I, I, I, I, I, I, I, I, trivial⟩ (fun rec_455 v h => ?_)
    obtain ⟨b1_452, b2_453, x25_454⟩ := v
    refine .seq <| .region <| .op I I (.lss I I I) <| .nil <| .keep [.box 190 [.d (.sl 1 (List.map D.int t0.sorts)), .d (.sl 6 (List.map Table.enc t0.tables)), .d (.sl 1 (List.map D.str t0.families)), .d (.sl 6 (List.map Constraint.enc t0.constraints)), .d (.sl 3 (List.map Operation.enc t0.operations)), .d (.sl 5 (List.map Action.enc t0.actions)), .d (.sl 3 (List.map Hide.enc t0.hides)), .vec 1 (List.length b1_452), .vec 2 (List.length b2_453)], .vec 192 2 (List.map Place.enc b1_452), .vec 192 2 (List.map Place.enc b2_453)] [1, 4, 23, 24, 25, 26] (.c I <| .c I <| .c I <| .c I <| .c I <| .c I .nil) I <| .seq <| .condS I h (fun h => ?_) fun h => ?_
    · refine .skip <| .seq <| .block <| .seq <| .region <| .op I I (.move I I) <| bK h fun x28_456 hx28_456 h => .op I I (.idx I I I U23 S127 hx28_456) <| .op I I (.load I I Y127 I) <| .allocZ I I I I (.agg Zc127 (ds' := [.str [], .int 0, .sl 1 (List.map D.int []), .int 0, .int 0, .int 0]) (.cons (.refl _) (.cons (.refl _) (.cons (.nil _) (.cons (.refl _) (.cons (.refl _) (.cons (.refl _) (.nil)))))))) I <| .op I I (.assign I I) <| .store I I I I I I (.ofD I) C127 I (Nat.le_of_ble_eq_true I) <| .nil <| .seq <| .region <| .op I I (.buildSlLe [[]] I I E145 I (.cons (.nil _) (.nil)) (fun _ => I) I (enc := (fun l => D.sl 1 (List.map D.int l)))) <| .op I I (.assign I I) <| .nil <| .seq <| .seq <| .region <| .op I I (.fieldAddrLoc I I I F127_2) <| .op I I (.loadLoc1 I I I Y22 I) <| .op I I (.len I U22 I) <| .op I I (.move I I) <| .nil <| .block <| .loopS [1, 4, 5, 6, 23, 24, 25, 32, 33] (fun (v : (List (List Int)) × Int) => [(7, .d (.sl 1 (List.map (fun l => D.sl 1 (List.map D.int l)) v.1))), (34, .d (.int v.2))]) (fun (v : (List (List Int)) × Int) => []) (.c I <| .c I <| .c I <| .c I <| .c I <| .c I <| .c I <| .c I <| .c I .nil) h ⟨_, I, I, I, I, I, I, I, I, I, I, I, I, I, I, trivial⟩ (fun rec_587 v h => ?_)
      obtain ⟨x7_585, x34_586⟩ := v
      refine .seq <| .region <| .op I I (.lss I I I) <| .nil <| .keep [.box 190 [.d (.sl 1 (List.map D.int t0.sorts)), .d (.sl 6 (List.map Table.enc t0.tables)), .d (.sl 1 (List.map D.str t0.families)), .d (.sl 6 (List.map Constraint.enc t0.constraints)), .d (.sl 3 (List.map Operation.enc t0.operations)), .d (.sl 5 (List.map Action.enc t0.actions)), .d (.sl 3 (List.map Hide.enc t0.hides)), .vec 1 (List.length b1_452), .vec 2 (List.length b2_453)], .vec 192 2 (List.map Place.enc b1_452), .vec 192 2 (List.map Place.enc b2_453), .box 127 [.d (.str x28_456.name), .d (.int x28_456.kind), .d (.sl 1 (List.map D.int x28_456.columns)), .d (.int x28_456.range.lo), .d (.int x28_456.range.hi), .d (.int x28_456.first)]] [1, 4, 5, 6, 7, 23, 24, 25, 32, 33, 34, 35] (.c I <| .c I <| .c I <| .c I <| .c I <| .c I <| .c I <| .c I <| .c I <| .c I <| .c I <| .c I .nil) I <| .seq <| .condS I h (fun h => ?_) fun h => ?_
      · refine .skip <| .seq <| .block <| .seq <| .region <| bK h fun x36_588 hx36_588 h => .op I I (.idx I I I U22 S3 hx36_588) <| .op I I (.load I I Y3 I) <| .op I I (.assign I I) <| .nil <| .seq <| .region <| .op I I (.assign I I) <| .nilVec 10 1 22 I <| .nil <| .seq <| .seq <| .region <| .op I I (.move I I) <| .op I I (.len I U145 I) <| .op I I (.move I I) <| .nil <| .block <| .loopS [1, 4, 5, 6, 9, 23, 24, 25, 32, 33, 34, 38, 39] (fun (v : (List (List Int)) × Int) => [(10, .vec 4 (List.length v.1)), (40, .d (.int v.2))]) (fun (v : (List (List Int)) × Int) => [(4, .vec 22 1 (List.map (fun l => D.sl 1 (List.map D.int l)) v.1))]) (.c I <| .c I <| .c I <| .c I <| .c I <| .c I <| .c I <| .c I <| .c I <| .c I <| .c I <| .c I <| .c I .nil) h ⟨_, I, I, I, I, I, I, I, I, I, I, I, I, I, I, I, I, I, I, trivial⟩ (fun rec_631 v h => ?_)
        obtain ⟨b4_629, x40_630⟩ := v
        refine .seq <| .region <| .op I I (.lss I I I) <| .nil <| .keep [.box 190 [.d (.sl 1 (List.map D.int t0.sorts)), .d (.sl 6 (List.map Table.enc t0.tables)), .d (.sl 1 (List.map D.str t0.families)), .d (.sl 6 (List.map Constraint.enc t0.constraints)), .d (.sl 3 (List.map Operation.enc t0.operations)), .d (.sl 5 (List.map Action.enc t0.actions)), .d (.sl 3 (List.map Hide.enc t0.hides)), .vec 1 (List.length b1_452), .vec 2 (List.length b2_453)], .vec 192 2 (List.map Place.enc b1_452), .vec 192 2 (List.map Place.enc b2_453), .box 127 [.d (.str x28_456.name), .d (.int x28_456.kind), .d (.sl 1 (List.map D.int x28_456.columns)), .d (.int x28_456.range.lo), .d (.int x28_456.range.hi), .d (.int x28_456.first)], .vec 22 1 (List.map (fun l => D.sl 1 (List.map D.int l)) b4_629)] [1, 4, 5, 6, 9, 10, 23, 24, 25, 32, 33, 34, 38, 39, 40, 41] (.c I <| .c I <| .c I <| .c I <| .c I <| .c I <| .c I <| .c I <| .c I <| .c I <| .c I <| .c I <| .c I <| .c I <| .c I <| .c I .nil) I <| .seq <| .condS I h (fun h => ?_) fun h => ?_
        · refine .skip <| .seq <| .block <| .seq <| .region <| bK h fun x42_632 hx42_632 h => .op I I (.idx I I I U145 S22 hx42_632) <| .op I I (.load I I Y22 I) <| .op I I (.assign I I) <| .nil <| .seq <| .region <| .op I I (.fieldAddr I I (G30_0 _)) <| .op I I (.load I I Y22 I) <| .op I I (.move I I) <| bK h fun x47_633 hx47_633 h => .op I I (.idx I I I U22 S3 hx47_633) <| .op I I (.load I I Y3 I) <| .op I I (.move I I) <| .nil <| .block <| .loopS [1, 4, 5, 6, 9, 12, 23, 24, 25, 32, 33, 34, 38, 39, 40, 48] (fun (v : (List (List Int)) × Int) => [(10, .vec 4 (List.length v.1)), (49, .d (.int v.2))]) (fun (v : (List (List Int)) × Int) => [(4, .vec 22 1 (List.map (fun l => D.sl 1 (List.map D.int l)) v.1))]) (.c I <| .c I <| .c I <| .c I <| .c I <| .c I <| .c I <| .c I <| .c I <| .c I <| .c I <| .c I <| .c I <| .c I <| .c I <| .c I .nil) h ⟨_, I, I, I, I, I, I, I, I, I, I, I, I, I, I, I, I, I, I, I, I, I, trivial⟩ (fun rec_646 v h => ?_)
          obtain ⟨b4_644, x49_645⟩ := v
          refine .seq <| .region <| .op I I (.lss I I I) <| .nil <| .keep [.box 190 [.d (.sl 1 (List.map D.int t0.sorts)), .d (.sl 6 (List.map Table.enc t0.tables)), .d (.sl 1 (List.map D.str t0.families)), .d (.sl 6 (List.map Constraint.enc t0.constraints)), .d (.sl 3 (List.map Operation.enc t0.operations)), .d (.sl 5 (List.map Action.enc t0.actions)), .d (.sl 3 (List.map Hide.enc t0.hides)), .vec 1 (List.length b1_452), .vec 2 (List.length b2_453)], .vec 192 2 (List.map Place.enc b1_452), .vec 192 2 (List.map Place.enc b2_453), .box 127 [.d (.str x28_456.name), .d (.int x28_456.kind), .d (.sl 1 (List.map D.int x28_456.columns)), .d (.int x28_456.range.lo), .d (.int x28_456.range.hi), .d (.int x28_456.first)], .vec 22 1 (List.map (fun l => D.sl 1 (List.map D.int l)) b4_644)] [1, 4, 5, 6, 9, 10, 12, 23, 24, 25, 32, 33, 34, 38, 39, 40, 48, 49, 50] (.c I <| .c I <| .c I <| .c I <| .c I <| .c I <| .c I <| .c I <| .c I <| .c I <| .c I <| .c I <| .c I <| .c I <| .c I <| .c I <| .c I <| .c I <| .c I .nil) I <| .seq <| .condS I h (fun h => ?_) fun h => ?_
          · refine .skip <| .seq <| .block <| .seq <| .region <| .op I I (.move I I) <| .op I I (.assign I I) <| .nil <| .region <| .op I I (.move I I) <| .op I I (.move I I) <| bK h fun x54_647 hx54_647 h => .clone (enc := D.int) I I I I K29 Tryz.func29 I I I I E22 I (fun _ => I) (fun _ => I) hx54_647 I I <| .op I I (.move I I) <| .op I I (.buildSl [_] I I E22 I (fun _ => I) I (enc := D.int)) <| bK h fun x57_648 hx57_648 h => .app I I I I I I I I E22 I (fun _ => I) hx57_648 <| .freezes [5] (.cons (t := 57) I (.vec (inIds I) I (by simp)) (.nil)) <| .op I I (.buildSl [_] I I E145 I (fun _ => I) I (enc := (fun l => D.sl 1 (List.map D.int l)))) <| bK h fun x59_649 hx59_649 h => .app I I I I I I I I E145 I (fun _ => I) hx59_649 <| .op I I (.assign I I) <| .nil <| .region <| .op I I (.add6 I I I) <| .op I I (.move I I) <| .nil ?_
            exact ⟨_, h, ⟨_, I, I, I, I, I, I, I, I, I, I, I, I, I, I, I, I, I, I, I, I, I, trivial⟩⟩
          · refine .exit <| .region <| .op I I (.add6 I I I) <| .op I I (.move I I) <| .nil ?_
            exact ⟨_, h, ⟨_, I, I, I, I, I, I, I, I, I, I, I, I, I, I, I, I, I, I, trivial⟩⟩
        · refine .exit <| .region <| .op I I (.move I I) <| .freezes [4] (.cons (t := 62) I (.vec (inIds I) I (by simp)) (.nil)) <| .op I I (.assign I I) <| .nil <| .region <| .op I I (.add6 I I I) <| .op I I (.move I I) <| .nil ?_
          exact ⟨_, h, ⟨_, I, I, I, I, I, I, I, I, I, I, I, I, I, I, trivial⟩⟩
      · refine .exit <| .seq <| .region <| .op I I (.move I I) <| .op I I (.len I U145 I) <| .op I I (.move I I) <| .nil <| .block <| .loopS [1, 4, 5, 6, 23, 24, 25, 64, 65] (fun (v : (List Place) × (List Place) × Int) => [(66, .d (.int v.2.2))]) (fun (v : (List Place) × (List Place) × Int) => [(0, .box 190 [.d (.sl 1 (List.map D.int t0.sorts)), .d (.sl 6 (List.map Table.enc t0.tables)), .d (.sl 1 (List.map D.str t0.families)), .d (.sl 6 (List.map Constraint.enc t0.constraints)), .d (.sl 3 (List.map Operation.enc t0.operations)), .d (.sl 5 (List.map Action.enc t0.actions)), .d (.sl 3 (List.map Hide.enc t0.hides)), .vec 1 (List.length v.1), .vec 2 (List.length v.2.1)]), (1, .vec 192 2 (List.map Place.enc v.1)), (2, .vec 192 2 (List.map Place.enc v.2.1))]) (.c I <| .c I <| .c I <| .c I <| .c I <| .c I <| .c I <| .c I <| .c I .nil) h ⟨_, I, I, I, I, I, I, I, I, I, I, I, I, I, trivial⟩ (fun rec_671 v h => ?_)
        obtain ⟨b1_668, b2_669, x66_670⟩ := v
        refine .seq <| .region <| .op I I (.lss I I I) <| .nil <| .keep [.box 190 [.d (.sl 1 (List.map D.int t0.sorts)), .d (.sl 6 (List.map Table.enc t0.tables)), .d (.sl 1 (List.map D.str t0.families)), .d (.sl 6 (List.map Constraint.enc t0.constraints)), .d (.sl 3 (List.map Operation.enc t0.operations)), .d (.sl 5 (List.map Action.enc t0.actions)), .d (.sl 3 (List.map Hide.enc t0.hides)), .vec 1 (List.length b1_668), .vec 2 (List.length b2_669)], .vec 192 2 (List.map Place.enc b1_668), .vec 192 2 (List.map Place.enc b2_669), .box 127 [.d (.str x28_456.name), .d (.int x28_456.kind), .d (.sl 1 (List.map D.int x28_456.columns)), .d (.int x28_456.range.lo), .d (.int x28_456.range.hi), .d (.int x28_456.first)]] [1, 4, 5, 6, 23, 24, 25, 64, 65, 66, 67] (.c I <| .c I <| .c I <| .c I <| .c I <| .c I <| .c I <| .c I <| .c I <| .c I <| .c I .nil) I <| .seq <| .condS I h (fun h => ?_) fun h => ?_
        · refine .skip <| .join [1, 4, 5, 6, 23, 24, 25, 64, 65, 66] (fun (v : (List Place) × (List Place)) => []) (fun (v : (List Place) × (List Place)) => [(0, .box 190 [.d (.sl 1 (List.map D.int t0.sorts)), .d (.sl 6 (List.map Table.enc t0.tables)), .d (.sl 1 (List.map D.str t0.families)), .d (.sl 6 (List.map Constraint.enc t0.constraints)), .d (.sl 3 (List.map Operation.enc t0.operations)), .d (.sl 5 (List.map Action.enc t0.actions)), .d (.sl 3 (List.map Hide.enc t0.hides)), .vec 1 (List.length v.1), .vec 2 (List.length v.2)]), (1, .vec 192 2 (List.map Place.enc v.1)), (2, .vec 192 2 (List.map Place.enc v.2))]) (.c I <| .c I <| .c I <| .c I <| .c I <| .c I <| .c I <| .c I <| .c I <| .c I .nil) h (fun k_674 h => ?_) (fun v h => ?_)
          · refine .block <| .seq <| .region <| bK h fun x68_675 hx68_675 h => .op I I (.idx I I I U145 S22 hx68_675) <| .op I I (.load I I Y22 I) <| .op I I (.assign I I) <| .nil <| .seq <| .region <| .op I I (.fieldAddrLoc I I I F127_1) <| .op I I (.loadLoc1 I I I Y3 I) <| .op I I (.leq I I I) <| .nil <| .condS I h (fun h => ?_) fun h => ?_
            · refine .region <| .op I I (.move I I) <| .op I I (.move I I) <| .op I I (.nilCheck_loc I I I) <| .op I I (.fieldAddrLoc I I I F190_1) <| .op I I (.loadLoc1 I I I Y188 I) <| .op I I (.move I I) <| .op I I (.move I I) <| .op I I (.castD (Place.enc (⟨x25_454, x68_675⟩ : Place)) I (.build I Pl192 (.agg Zc192 (ds' := [_, _]) (.cons (.refl _) (.cons (.refl _) (.nil)))) I I)) <| .op I I (.buildSl [_] I I E188 I (fun _ => I) I (enc := Place.enc)) <| bK h fun x82_676 hx82_676 h => .app I I I I I I I I E188 I (fun _ => I) hx82_676 <| .op I I (.nilCheck_loc I I I) <| .op I I (.fieldAddrLoc I I I F190_1) <| .store I I I I I I (.cons (.vec I (by simp)) .nil) C188 I (Nat.le_of_ble_eq_true I) <| .nil ?_
              exact ⟨_, h, ⟨_, I, I, I, I, I, I, I, I, I, I, I, I, I, trivial⟩⟩
            · refine .region <| .op I I (.move I I) <| .op I I (.move I I) <| .op I I (.nilCheck_loc I I I) <| .op I I (.fieldAddrLoc I I I F190_2) <| .op I I (.loadLoc1 I I I Y188 I) <| .op I I (.move I I) <| .op I I (.move I I) <| .op I I (.castD (Place.enc (⟨x25_454, x68_675⟩ : Place)) I (.build I Pl192 (.agg Zc192 (ds' := [_, _]) (.cons (.refl _) (.cons (.refl _) (.nil)))) I I)) <| .op I I (.buildSl [_] I I E188 I (fun _ => I) I (enc := Place.enc)) <| bK h fun x94_677 hx94_677 h => .app I I I I I I I I E188 I (fun _ => I) hx94_677 <| .op I I (.nilCheck_loc I I I) <| .op I I (.fieldAddrLoc I I I F190_2) <| .store I I I I I I (.cons (.vec I (by simp)) .nil) C188 I (Nat.le_of_ble_eq_true I) <| .nil ?_
              exact ⟨_, h, ⟨_, I, I, I, I, I, I, I, I, I, I, I, I, I, trivial⟩⟩
          · obtain ⟨b1_672, b2_673⟩ := v
            refine .region <| .op I I (.add6 I I I) <| .op I I (.move I I) <| .nil ?_
            exact ⟨_, h, ⟨_, I, I, I, I, I, I, I, I, I, I, I, I, I, trivial⟩⟩
        · refine .exit <| .region <| .op I I (.add6 I I I) <| .op I I (.move I I) <| .nil ?_
          exact ⟨_, h, ⟨_, I, I, I, I, I, I, I, I, trivial⟩⟩
    · refine .exit <| .seq <| .region <| .op I I (.move I I) <| .op I I (.assign I I) <| .op I I (.assign I I) <| .nil <| .ret ?_
      cases h
      exact retTwo I I (.loc I (.cons (.d _) (.cons (.d _) (.cons (.d _) (.cons (.d _) (.cons (.d _) (.cons (.d _) (.cons (.d _) (.cons (.vec I (by simp)) (.cons (.vec I (by simp)) (.nil))))))))))) (.d _)
set_option maxHeartbeats 2000000 in
theorem symmetry_layout_valid_ok (n : Nat) (t0 : Layout) (t1 : Question) (r : Bool) (h : symmetry_layout_valid n t0 t1 = some r) : Pure Tryz.prog 108 [.ref (Layout.enc t0), Question.enc t1] (.bool r) := by
  refine Pure.ot Tryz.func108 I Tryz.ntmps108 I fun A w => .seq <| .region <| .op I I (.box I I) <| .op I I (.assign I I) <| .nil <| .seq <| .region <| .op I I (.move I I) <| .op I I (.nilCheck_ref I I) <| .op I I (.fieldAddr I I (G190_0 _)) <| .op I I (.fieldAddr I I (G30_5 _)) <| .op I I (.load I I Y27 I) <| .op I I (.len I U27 I) <| .op I I (.assign I I) <| .nil <| .seq <| .seq <| .plain 26 I <| .op I I I I (.fieldAddr I I (G37_0 _)) <| .op I I I I (.load I I Y3 I) <| .op I I I I (.lss I I I) <| .op I I I I (.move I I) <| .jOr 3 (b2 := decide (t1.f < 0)) I I I I (.inl I) (fun _ _ _ h1 => by cases h1) I I (fun hb_1 => ?_) ?_
  · refine .gop I I I I I I (.fieldAddr I I (G37_1 _)) <| .gop I I I I I I (.load I I Y3 I) <| .gop I I I I I I (.lss I I I) ?_
    exact .nil I
  refine .op I I I I (.move I I) <| .jOr 4 (b2 := decide ((t0.m.actions.length : Int) ≤ t1.e)) I I I I (.inl I) (fun _ _ _ h1 => by cases h1) I I (fun hb_2 => ?_) ?_
  · refine .gop I I I I I I (.fieldAddr I I (G37_0 _)) <| .gop I I I I I I (.load I I Y3 I) <| .gop I I I I I I (.move I I) <| .gop I I I I I I (.geq I I I) ?_
    exact .nil I
  refine .op I I I I (.move I I) <| .jOr 4 (b2 := decide ((t0.m.actions.length : Int) ≤ t1.f)) I I I I (.inl I) (fun _ _ _ h1 => by cases h1) I I (fun hb_3 => ?_) ?_
  · refine .gop I I I I I I (.fieldAddr I I (G37_1 _)) <| .gop I I I I I I (.load I I Y3 I) <| .gop I I I I I I (.move I I) <| .gop I I I I I I (.geq I I I) ?_
    exact .nil I
  refine .op I I I I (.move I I) <| .jOr 4 (b2 := decide (t1.target.index < 0)) I I I I (.inl I) (fun _ _ _ h1 => by cases h1) I I (fun hb_4 => ?_) ?_
  · refine .gop I I I I I I (.fieldAddr I I (G37_2 _)) <| .gop I I I I I I (.fieldAddr I I (G35_1 _)) <| .gop I I I I I I (.load I I Y3 I) <| .gop I I I I I I (.lss I I I) ?_
    exact .nil I
  refine .nil <| .nil <| .keep [] [0, 3, 37] (.c I <| .c I <| .c I .nil) I <| .condS I h (fun h => ?_) fun h => ?_
  · refine .seq <| .region <| .op I I (.assign I I) <| .nil <| .ret ?_
    cases h
    exact retOne I (.d _)
  · refine .skip <| .seq <| .seq <| .region <| .op I I (.fieldAddr I I (G37_2 _)) <| .op I I (.fieldAddr I I (G35_0 _)) <| .op I I (.load I I Y4 I) <| .nil <| .condS I h (fun h => ?_) fun h => ?_
    · refine .seq <| .draw 17 Hm (by kernel_rfl) (by kernel_rfl) <| .op I I I I (.fieldAddr I I (G37_2 _)) <| .op I I I I (.fieldAddr I I (G35_1 _)) <| .op I I I I (.load I I Y3 I) <| .op I I I I (.move I I) <| .op I I I I (.nilCheck_ref I I) <| .op I I I I (.fieldAddr I I (G190_0 _)) <| .op I I I I (.fieldAddr I I (G30_5 _)) <| .op I I I I (.load I I Y27 I) <| .op I I I I (.fieldAddr I I (G37_0 _)) <| .op I I I I (.load I I Y3 I) <| bK h fun x51_5 hx51_5 h => .op I I I I (.idx I I I U27 S84 hx51_5) <| .op I I I I (.fieldAddr I I (G84_2 _)) <| .op I I I I (.fieldAddr I I (G82_1 _)) <| .op I I I I (.load I I Y49 I) <| .op I I I I (.len I U49 I) <| .op I I I I (.lss I I I) <| .op I I I I (.assign I I) <| .nil <| .nil <| .keep [] [4] (.c I .nil) I <| .ret ?_
      cases h
      exact retOne I (.d _)
    · refine .skip <| .seq <| .draw 18 Hm (by kernel_rfl) (by kernel_rfl) <| .op I I I I (.fieldAddr I I (G37_0 _)) <| .op I I I I (.load I I Y3 I) <| .op I I I I (.fieldAddr I I (G37_1 _)) <| .op I I I I (.load I I Y3 I) <| .op I I I I (.leq I I I) <| .op I I I I (.move I I) <| .jAnd 10 (b2 := decide (t1.target.index < (t0.m.constraints.length : Int))) I I I I (.inl I) (fun _ _ _ h1 => by cases h1) I I (fun hb_6 => ?_) ?_
      · refine .gop I I I I I I (.fieldAddr I I (G37_2 _)) <| .gop I I I I I I (.fieldAddr I I (G35_1 _)) <| .gop I I I I I I (.load I I Y3 I) <| .gop I I I I I I (.move I I) <| .gop I I I I I I (.nilCheck_ref I I) <| .gop I I I I I I (.fieldAddr I I (G190_0 _)) <| .gop I I I I I I (.fieldAddr I I (G30_3 _)) <| .gop I I I I I I (.load I I Y25 I) <| .gop I I I I I I (.len I U25 I) <| .gop I I I I I I (.lss I I I) ?_
        exact .nil I
      refine .op I I I I (.assign I I) <| .nil <| .nil <| .keep [] [4] (.c I .nil) I <| .ret ?_
      cases h
      exact retOne I (.d _)
theorem symmetry_Valid_ok (n : Nat) (t0 : Model) (t1 : Question) (r : Bool) (h : symmetry_Valid n t0 t1 = some r) : Pure Tryz.prog 43 [Model.enc t0, Question.enc t1] (.bool r) := by
  refine Pure.ot Tryz.func43 I Tryz.ntmps43 I fun A w => .seq <| .region <| .op I I (.box I I) <| .op I I (.box I I) <| .op I I (.assign I I) <| .nil <| .seq <| .region <| .op I I (.load I I Y30 I) <| bK h fun x9_1 hx9_1 h => .op I I (.call I K107 I (symmetry_open_ok _ _ _ hx9_1)) <| .op I I (.move I I) <| .op I I (.extract I I I) <| .op I I (.extract I I I) <| .op I I (.assign I I) <| .op I I (.assign I I) <| .nil <| .seq <| .plain 6 I <| .op I I I I (.move I I) <| .op I I I I (.move I I) <| gK h fun hc_3 h => gK h fun hc_4 h => .jAnd 3 (b2 := ((symmetry_layout_valid n ((x9_1.1).getD default) t1).getD default)) I I I I (.inl I) (fun _ _ _ h1 => by cases h1) I I (fun hb_2 => ?_) ?_
  · refine .gop I I I I I I (.move I I) <| .gop I I I I I I (.load I I Y37 I) <| .gop I I I I I I (.callLe I K108 I (.cons (.ofEq (optD_of (someD (impT hc_3 hb_2)))) (.cons (.refl _) (.nil))) (symmetry_layout_valid_ok _ _ _ _ (someD (impT hc_4 hb_2)))) ?_
    exact .nil I
  refine .nil <| .op I I (.assign I I) <| .nil <| .keep [] [4] (.c I .nil) I <| .ret ?_
  cases h
  exact retOne I (.d _)
theorem model_ranges_ok (n : Nat) (t0 : Model) (t1 : Bool) (r : List Range) (h : model_ranges n t0 t1 = some r) : Pure Tryz.prog 110 [Model.enc t0, .bool t1] (.sl 2 (List.map Range.enc r)) := by
  refine Pure.ot Tryz.func110 I Tryz.ntmps110 I fun A w => .seq <| .region <| .op I I (.box I I) <| .op I I (.nilS 2 (α := Range) Range.enc I) <| .nil <| .seq <| .seq <| .region <| .op I I (.load I I Y30 I) <| bK h fun x6_1 hx6_1 h => .op I I (.call I K39 I (model_Valid_ok _ _ _ hx6_1)) <| .op I I (.not I I) <| .nil <| .condS I h (fun h => ?_) fun h => ?_
  · refine .seq <| .region <| .op I I (.nilS 2 (α := Range) Range.enc I) <| .nil <| .ret ?_
    cases h
    exact retOne I (.d _)
  · refine .skip <| .seq <| .region <| .op I I (.fieldAddr I I (G30_0 _)) <| .op I I (.load I I Y22 I) <| .op I I (.fieldAddr I I (G30_1 _)) <| .op I I (.load I I Y23 I) <| .op I I (.move I I) <| bK h fun x13_2 hx13_2 h => .op I I (.call I K96 I (cells_Ranges_ok _ _ _ _ _ hx13_2)) <| .op I I (.assign I I) <| .nil <| .ret ?_
    cases h
    exact retOne I (.d _)
theorem model_Strict_ok (n : Nat) (t0 : Model) (r : List Range) (h : model_Strict n t0 = some r) : Pure Tryz.prog 48 [Model.enc t0] (.sl 2 (List.map Range.enc r)) := by
  refine Pure.ot Tryz.func48 I Tryz.ntmps48 I fun A w => .seq <| .region <| .op I I (.box I I) <| .op I I (.nilS 2 (α := Range) Range.enc I) <| .nil <| .seq <| .region <| .op I I (.load I I Y30 I) <| bK h fun x4_1 hx4_1 h => .op I I (.call I K110 I (model_ranges_ok _ _ _ _ hx4_1)) <| .op I I (.assign I I) <| .nil <| .ret ?_
  cases h
  exact retOne I (.d _)
theorem condition_added_ok (n : Nat) (t0 : Action) (t1 : Int) (r : Int) (h : condition_added n t0 t1 = some r) : Pure Tryz.prog 61 [Action.enc t0, .int t1] (.int r) := by
  refine Pure.ot Tryz.func61 I Tryz.ntmps61 I fun A w => .seq <| .region <| .op I I (.box I I) <| .op I I (.assign I I) <| .nil <| .seq <| .seq <| .region <| .op I I (.fieldAddr I I (G84_2 _)) <| .op I I (.fieldAddr I I (G82_0 _)) <| .op I I (.load I I Y79 I) <| .op I I (.len I U79 I) <| .op I I (.move I I) <| .nil <| .block <| .loopS [1, 9, 10] (fun (v : Int) => [(11, .d (.int v))]) (fun (v : Int) => []) (.c I <| .c I <| .c I .nil) h ⟨_, I, I, I, I, I, I, I, trivial⟩ (fun rec_6 x11_5 h => ?_)
  refine .seq <| .region <| .op I I (.lss I I I) <| .nil <| .keep [] [1, 9, 10, 11, 12] (.c I <| .c I <| .c I <| .c I <| .c I .nil) I <| .seq <| .condS I h (fun h => ?_) fun h => ?_
  · refine .skip <| .seq <| .block <| .seq <| .region <| bK h fun x13_7 hx13_7 h => .op I I (.idx I I I U79 S131 hx13_7) <| .op I I (.load I I Y131 I) <| .allocStore I I I I I I I I (by simp) I I Z131 <| .nil <| .seq <| .region <| .op I I (.fieldAddr I I (G131_0 _)) <| .op I I (.load I I Y3 I) <| .op I I (.move I I) <| .op I I (.eql I I I) <| .nil <| .condS I h (fun h => ?_) fun h => ?_
    · refine .seq <| .region <| .op I I (.fieldAddr I I (G131_1 _)) <| .op I I (.load I I Y3 I) <| .op I I (.assign I I) <| .nil <| .ret ?_
      cases h
      exact retOne I (.d _)
    · refine .skip <| .region <| .op I I (.add6 I I I) <| .op I I (.move I I) <| .nil ?_
      exact ⟨_, h, ⟨_, I, I, I, I, I, I, I, trivial⟩⟩
  · refine .exit <| .seq <| .region <| .op I I (.assign I I) <| .nil <| .ret ?_
    cases h
    exact retOne I (.d _)
theorem condition_change_ok (n : Nat) (t0 : Action) (t1 : Row) (r : Int) (h : condition_change n t0 t1 = some r) : Pure Tryz.prog 40 [Action.enc t0, Row.enc t1] (.int r) := by
  refine Pure.ot Tryz.func40 I Tryz.ntmps40 I fun A w => .seq <| .region <| .op I I (.box I I) <| .op I I (.box I I) <| .op I I (.assign I I) <| .nil <| .seq <| .region <| .op I I (.assign I I) <| .nil <| .seq <| .seq <| .region <| .op I I (.fieldAddr I I (G33_0 _)) <| .op I I (.load I I Y31 I) <| .op I I (.len I U31 I) <| .op I I (.move I I) <| .nil <| .block <| .loopS [2, 9, 10] (fun (v : Int × Int) => [(5, .d (.int v.1)), (11, .d (.int v.2))]) (fun (v : Int × Int) => []) (.c I <| .c I <| .c I .nil) h ⟨_, I, I, I, I, I, I, I, I, trivial⟩ (fun rec_11 v h => ?_)
  obtain ⟨x5_9, x11_10⟩ := v
  refine .seq <| .region <| .op I I (.lss I I I) <| .nil <| .keep [] [2, 5, 9, 10, 11, 12] (.c I <| .c I <| .c I <| .c I <| .c I <| .c I .nil) I <| .seq <| .condS I h (fun h => ?_) fun h => ?_
  · refine .skip <| .seq <| .block <| .seq <| .region <| bK h fun x13_12 hx13_12 h => .op I I (.idx I I I U31 S41 hx13_12) <| .op I I (.load I I Y41 I) <| .allocStore I I I I I I I I (by simp) I I Z41 <| .nil <| .draw 10 Hm (by kernel_rfl) (by kernel_rfl) <| .op I I I I (.move I I) <| .op I I I I (.fieldAddr I I (G41_1 _)) <| .op I I I I (.load I I Y3 I) <| .op I I I I (.load I I Y84 I) <| .op I I I I (.fieldAddr I I (G41_0 _)) <| .op I I I I (.load I I Y3 I) <| bK h fun x21_13 hx21_13 h => .op I I I I (.call I K61 I (condition_added_ok _ _ _ _ hx21_13)) <| .op I I I I (.mul6 I I I) <| .op I I I I (.add6 I I I) <| .op I I I I (.assign I I) <| .nil <| .nil <| .region <| .op I I (.add6 I I I) <| .op I I (.move I I) <| .nil ?_
    exact ⟨_, h, ⟨_, I, I, I, I, I, I, I, I, trivial⟩⟩
  · refine .exit <| .seq <| .region <| .op I I (.move I I) <| .op I I (.assign I I) <| .nil <| .ret ?_
    cases h
    exact retOne I (.d _)
theorem slices_Index_Lint_int_ok (n : Nat) (t0 : List Int) (t1 : Int) (r : Int) (h : slices_Index_Lint_int n t0 t1 = some r) : Pure Tryz.prog 111 [.sl 1 (List.map D.int t0), .int t1] (.int r) := by
  refine Pure.ot Tryz.func111 I Tryz.ntmps111 I fun A w => .seq <| .region <| .op I I (.assign I I) <| .nil <| .seq <| .seq <| .region <| .op I I (.move I I) <| .op I I (.len I U22 I) <| .op I I (.move I I) <| .nil <| .block <| .loopS [0, 1, 7] (fun (v : Int) => [(8, .d (.int v))]) (fun (v : Int) => []) (.c I <| .c I <| .c I .nil) h ⟨_, I, I, I, I, I, I, I, trivial⟩ (fun rec_6 x8_5 h => ?_)
  refine .seq <| .region <| .op I I (.lss I I I) <| .nil <| .keep [] [0, 1, 7, 8, 9] (.c I <| .c I <| .c I <| .c I <| .c I .nil) I <| .seq <| .condS I h (fun h => ?_) fun h => ?_
  · refine .skip <| .seq <| .block <| .seq <| .region <| .op I I (.move I I) <| .op I I (.assign I I) <| .nil <| .seq <| .region <| .op I I (.move I I) <| .op I I (.move I I) <| .op I I (.move I I) <| bK h fun x14_7 hx14_7 h => .op I I (.idx I I I U22 S3 hx14_7) <| .op I I (.load I I Y3 I) <| .op I I (.eql I I I) <| .nil <| .condS I h (fun h => ?_) fun h => ?_
    · refine .seq <| .region <| .op I I (.move I I) <| .op I I (.assign I I) <| .nil <| .ret ?_
      cases h
      exact retOne I (.d _)
    · refine .skip <| .region <| .op I I (.add6 I I I) <| .op I I (.move I I) <| .nil ?_
      exact ⟨_, h, ⟨_, I, I, I, I, I, I, I, trivial⟩⟩
  · refine .exit <| .seq <| .region <| .op I I (.assign I I) <| .nil <| .ret ?_
    cases h
    exact retOne I (.d _)
theorem slices_Contains_Lint_int_ok (n : Nat) (t0 : List Int) (t1 : Int) (r : Bool) (h : slices_Contains_Lint_int n t0 t1 = some r) : Pure Tryz.prog 49 [.sl 1 (List.map D.int t0), .int t1] (.bool r) := by
  refine Pure.ot Tryz.func49 I Tryz.ntmps49 I fun A w => .seq <| .region <| .op I I (.assign I I) <| .nil <| .seq <| .region <| .op I I (.move I I) <| .op I I (.move I I) <| bK h fun x7_1 hx7_1 h => .op I I (.call I K111 I (slices_Index_Lint_int_ok _ _ _ _ hx7_1)) <| .op I I (.geq I I I) <| .op I I (.assign I I) <| .nil <| .ret ?_
  cases h
  exact retOne I (.d _)
theorem condition_less_1_ok (n : Nat) (t0 : Int) (t1 : Int) (r : Int) (h : condition_less_1 n t0 t1 = some r) : Pure Tryz.prog 112 [.int t0, .ref (.int t1)] (.int r) := by
  refine Pure.ot Tryz.func112 I Tryz.ntmps112 I fun A w => .seq <| .region <| .op I I (.assign I I) <| .nil <| .seq <| .region <| .op I I (.move I I) <| .op I I (.load I I Y3 I) <| .op I I (.sub6 I I I) <| .op I I (.assign I I) <| .nil <| .ret ?_
  cases h
  exact retOne I (.d _)
theorem condition_less_fn (n : Nat) (t0 : Int) : Pure Tryz.prog 52 [.int t0] (.fn (.func 112) [] [.ref (.int t0)]) := by
  refine Pure.ot Tryz.func52 I Tryz.ntmps52 I fun A w => .seq <| .region <| .op I I (.box I I) <| .op I I (.assign I I) <| .nil <| .seq <| .region <| .op I I (.makeFunc I I) <| .op I I (.assign I I) <| .nil <| .ret ?_
  exact retOne I (.d _)
set_option maxHeartbeats 2000000 in
theorem condition_changed_ok (n : Nat) (t0 : Row) (t1 : Int → Option Int) (t2 : Int → Option Int) (F1 : D) (hF1 : ∀ (q0 : Int) (y : Int), t1 q0 = some y → Dyn Tryz.prog F1 [.int q0] (.int y)) (F2 : D) (hF2 : ∀ (q0 : Int) (y : Int), t2 q0 = some y → Dyn Tryz.prog F2 [.int q0] (.int y)) (r : Row) (h : condition_changed n t0 t1 t2 = some r) : Pure Tryz.prog 50 [Row.enc t0, F1, F2] (Row.enc r) := by
  refine Pure.ot Tryz.func50 I Tryz.ntmps50 I fun A w => .seq <| .region <| .op I I (.box I I) <| .allocZ I I I I (.agg Zc33 (ds' := [.sl 2 (List.map Term.enc []), .int 0]) (.cons (.nil _) (.cons (.refl _) (.nil)))) I <| .nil <| .seq <| .region <| .op I I (.move I I) <| .op I I (.fieldAddr I I (G33_1 _)) <| .op I I (.load I I Y3 I) <| bK h fun x13_1 hx13_1 h => .op I I (.dyn I I I (hF2 _ _ hx13_1)) <| .op I I (.build I Pl33 (.agg Zc33 (ds' := [.val (.slice none 0 0), _]) (.cons (.refl _) (.cons (.refl _) (.nil)))) I I) <| .allocZ I I I I (.agg Zc33 (ds' := [.val (.slice none 0 0), .int 0]) (.cons (.refl _) (.cons (.refl _) (.nil)))) I <| .nilCell 1 0 2 41 I I <| .store I I I I I I (.ofD I) C33 I (Nat.le_of_ble_eq_true I) <| .nilCell 1 0 2 41 I I <| .nil <| .seq <| .seq <| .region <| .op I I (.fieldAddr I I (G33_0 _)) <| .op I I (.load I I Y31 I) <| .op I I (.len I U31 I) <| .op I I (.move I I) <| .nil <| .block <| .loopS [1, 6, 7, 16, 17] (fun (v : (List Term) × Int) => [(18, .d (.int v.2))]) (fun (v : (List Term) × Int) => [(1, .box 33 [.vec 3 (List.length v.1), .d (.int x13_1)]), (3, .vec 41 2 (List.map Term.enc v.1))]) (.c I <| .c I <| .c I <| .c I <| .c I .nil) h ⟨_, I, I, I, I, I, I, I, I, I, trivial⟩ (fun rec_14 v h => ?_)
  obtain ⟨b3_12, x18_13⟩ := v
  refine .seq <| .region <| .op I I (.lss I I I) <| .nil <| .keep [.box 33 [.d (.sl 2 (List.map Term.enc [])), .d (.int 0)], .box 33 [.vec 3 (List.length b3_12), .d (.int x13_1)], .vec 41 2 (List.map Term.enc ([] : List Term)), .vec 41 2 (List.map Term.enc b3_12)] [1, 6, 7, 16, 17, 18, 19] (.c I <| .c I <| .c I <| .c I <| .c I <| .c I <| .c I .nil) I <| .seq <| .condS I h (fun h => ?_) fun h => ?_
  · refine .skip <| .seq <| .block <| .seq <| .region <| bK h fun x20_15 hx20_15 h => .op I I (.idx I I I U31 S41 hx20_15) <| .op I I (.load I I Y41 I) <| .allocStore I I I I I I I I (by simp) I I Z41 <| .nil <| .draw 10 Hm (by kernel_rfl) (by kernel_rfl) <| .op I I I I (.fieldAddrLoc I I I F33_0) <| .op I I I I (.loadLoc1 I I I Y31 I) <| .op I I I I (.fieldAddr I I (G41_0 _)) <| .op I I I I (.load I I Y3 I) <| .op I I I I (.move I I) <| .op I I I I (.fieldAddr I I (G41_1 _)) <| .op I I I I (.load I I Y3 I) <| bK h fun x29_16 hx29_16 h => .op I I I I (.dyn I I I (hF1 _ _ hx29_16)) <| .op I I I I (.castD (Term.enc (⟨x20_15.cell, x29_16⟩ : Term)) I (.build I Pl41 (.agg Zc41 (ds' := [_, _]) (.cons (.refl _) (.cons (.refl _) (.nil)))) I I)) <| .op I I I I (.buildSl [_] I I E31 I (fun _ => I) I (enc := Term.enc)) <| .nil <| bK h fun x32_17 hx32_17 h => .app I I I I I I I I E31 I (fun _ => I) hx32_17 <| .op I I (.fieldAddrLoc I I I F33_0) <| .store I I I I I I (.cons (.vec I (by simp)) .nil) C31 I (Nat.le_of_ble_eq_true I) <| .nil <| .keep [.box 33 [.d (.sl 2 (List.map Term.enc [])), .d (.int 0)], .box 33 [.vec 3 (List.length x32_17), .d (.int x13_1)], .vec 41 2 (List.map Term.enc ([] : List Term)), .vec 41 2 (List.map Term.enc x32_17)] [1, 6, 7, 16, 17, 18] (.c I <| .c I <| .c I <| .c I <| .c I <| .c I .nil) I <| .region <| .op I I (.add6 I I I) <| .op I I (.move I I) <| .nil ?_
    exact ⟨_, h, ⟨_, I, I, I, I, I, I, I, I, I, trivial⟩⟩
  · refine .exit <| .seq <| .region <| .op I I (.loadLoc I I I Y33 (Nat.le_of_ble_eq_true I) I) <| .store I I I I I I (.cons (.vec I (by simp)) (.cons (.d I) (.nil))) C33 I (Nat.le_of_ble_eq_true I) <| .nil <| .ret ?_
    cases h
    exact retCell I I Y33 (.cons (.vec I (by simp)) (.cons (.d _) (.nil)))
theorem condition_same_ok (n : Nat) (t0 : Int) (r : Int) (h : condition_same n t0 = some r) : Pure Tryz.prog 51 [.int t0] (.int r) := by
  refine Pure.ot Tryz.func51 I Tryz.ntmps51 I fun A w => .seq <| .region <| .op I I (.assign I I) <| .nil <| .seq <| .region <| .op I I (.move I I) <| .op I I (.assign I I) <| .nil <| .ret ?_
  cases h
  exact retOne I (.d _)
theorem condition_System_1_1_ok (n : Nat) (t0 : Int) (t1 : Int) (r : Int) (h : condition_System_1_1 n t0 t1 = some r) : Pure Tryz.prog 56 [.int t0, .ref (.int t1)] (.int r) := by
  refine Pure.ot Tryz.func56 I Tryz.ntmps56 I fun A w => .seq <| .region <| .op I I (.assign I I) <| .nil <| .seq <| .region <| .op I I (.move I I) <| .op I I (.neg6 I I) <| .op I I (.load I I Y3 I) <| .op I I (.add6 I I I) <| .op I I (.sub6 I I I) <| .op I I (.assign I I) <| .nil <| .ret ?_
  cases h
  exact retOne I (.d _)
theorem condition_negated_ok (n : Nat) (t0 : Int) (r : Int) (h : condition_negated n t0 = some r) : Pure Tryz.prog 55 [.int t0] (.int r) := by
  refine Pure.ot Tryz.func55 I Tryz.ntmps55 I fun A w => .seq <| .region <| .op I I (.assign I I) <| .nil <| .seq <| .region <| .op I I (.move I I) <| .op I I (.neg6 I I) <| .op I I (.assign I I) <| .nil <| .ret ?_
  cases h
  exact retOne I (.d _)
set_option maxHeartbeats 2000000 in
theorem condition_graph_ok (n : Nat) (t0 : Constraint) (t1 : Int → Option Int) (F1 : D) (hF1 : ∀ (q0 : Int) (y : Int), t1 q0 = some y → Dyn Tryz.prog F1 [.int q0] (.int y)) (r : Graph) (h : condition_graph n t0 t1 = some r) : Pure Tryz.prog 57 [Constraint.enc t0, F1] (Graph.enc r) := by
  refine Pure.ot Tryz.func57 I Tryz.ntmps57 I fun A w => .seq <| .region <| .op I I (.box I I) <| .allocZ I I I I (.agg Zc99 (ds' := [.int 0, .int 0, .sl 1 (List.map D.int [])]) (.cons (.refl _) (.cons (.refl _) (.cons (.nil _) (.nil))))) I <| .nil <| .seq <| .region <| .op I I (.fieldAddr I I (G78_3 _)) <| .op I I (.load I I Y3 I) <| .op I I (.fieldAddr I I (G78_4 _)) <| .op I I (.load I I Y3 I) <| .op I I (.build I Pl99 (.agg Zc99 (ds' := [_, _, .val (.slice none 0 0)]) (.cons (.refl _) (.cons (.refl _) (.cons (.refl _) (.nil))))) I I) <| .allocZ I I I I (.agg Zc99 (ds' := [.int 0, .int 0, .val (.slice none 0 0)]) (.cons (.refl _) (.cons (.refl _) (.cons (.refl _) (.nil))))) I <| .nilCell 1 2 1 3 I I <| .store I I I I I I (.ofD I) C99 I (Nat.le_of_ble_eq_true I) <| .nilCell 1 2 1 3 I I <| .nil <| .seq <| .seq <| .region <| .op I I (.fieldAddr I I (G78_4 _)) <| .op I I (.load I I Y3 I) <| .op I I (.fieldAddr I I (G78_4 _)) <| .op I I (.load I I Y3 I) <| .op I I (.mul6 I I I) <| .op I I (.move I I) <| .nil <| .block <| .loopS [1, 2, 4, 5, 16] (fun (v : (List Int) × Int) => [(17, .d (.int v.2))]) (fun (v : (List Int) × Int) => [(1, .box 99 [.d (.int t0.first), .d (.int t0.size), .vec 3 (List.length v.1)]), (3, .vec 3 1 (List.map D.int v.1))]) (.c I <| .c I <| .c I <| .c I <| .c I .nil) h ⟨_, I, I, I, I, I, I, I, I, I, trivial⟩ (fun rec_11 v h => ?_)
  obtain ⟨b3_9, x17_10⟩ := v
  refine .seq <| .region <| .op I I (.lss I I I) <| .nil <| .keep [.box 99 [.d (.int 0), .d (.int 0), .d (.sl 1 (List.map D.int []))], .box 99 [.d (.int t0.first), .d (.int t0.size), .vec 3 (List.length b3_9)], .vec 3 1 (List.map D.int ([] : List Int)), .vec 3 1 (List.map D.int b3_9)] [1, 2, 4, 5, 16, 17, 18] (.c I <| .c I <| .c I <| .c I <| .c I <| .c I <| .c I .nil) I <| .seq <| .condS I h (fun h => ?_) fun h => ?_
  · refine .skip <| .seq <| .block <| .seq <| .region <| .op I I (.move I I) <| .op I I (.assign I I) <| .nil <| .draw 10 Hm (by kernel_rfl) (by kernel_rfl) <| .op I I I I (.fieldAddrLoc I I I F99_2) <| .op I I I I (.loadLoc1 I I I Y22 I) <| .op I I I I (.move I I) <| .op I I I I (.fieldAddr I I (G78_3 _)) <| .op I I I I (.load I I Y3 I) <| .op I I I I (.move I I) <| .op I I I I (.add6 I I I) <| bK h fun x27_12 hx27_12 h => .op I I I I (.dyn I I I (hF1 _ _ hx27_12)) <| .op I I I I (.sub6 I I I) <| .op I I I I (.buildSl [_] I I E22 I (fun _ => I) I (enc := D.int)) <| .nil <| bK h fun x30_13 hx30_13 h => .app I I I I I I I I E22 I (fun _ => I) hx30_13 <| .op I I (.fieldAddrLoc I I I F99_2) <| .store I I I I I I (.cons (.vec I (by simp)) .nil) C22 I (Nat.le_of_ble_eq_true I) <| .nil <| .region <| .op I I (.add6 I I I) <| .op I I (.move I I) <| .nil ?_
    exact ⟨_, h, ⟨_, I, I, I, I, I, I, I, I, I, trivial⟩⟩
  · refine .exit <| .seq <| .region <| .op I I (.loadLoc I I I Y99 (Nat.le_of_ble_eq_true I) I) <| .store I I I I I I (.cons (.d I) (.cons (.d I) (.cons (.vec I (by simp)) (.nil)))) C99 I (Nat.le_of_ble_eq_true I) <| .nil <| .ret ?_
    cases h
    exact retCell I I Y99 (.cons (.d _) (.cons (.d _) (.cons (.vec I (by simp)) (.nil))))
theorem condition_System_2_ok (n : Nat) (t0 : Int) (r : Int) (h : condition_System_2 n t0 = some r) : Pure Tryz.prog 58 [.int t0] (.int r) := by
  refine Pure.ot Tryz.func58 I Tryz.ntmps58 I fun A w => .seq <| .region <| .op I I (.assign I I) <| .nil <| .seq <| .region <| .op I I (.assign I I) <| .nil <| .ret ?_
  cases h
  exact retOne I (.d _)
set_option maxHeartbeats 2000000 in
theorem condition_raised_ok (n : Nat) (t0 : Action) (t1 : Constraint) (r : List Int) (h : condition_raised n t0 t1 = some r) : Pure Tryz.prog 59 [Action.enc t0, Constraint.enc t1] (.sl 1 (List.map D.int r)) := by
  refine Pure.ot Tryz.func59 I Tryz.ntmps59 I fun A w => .seq <| .region <| .op I I (.box I I) <| .op I I (.box I I) <| .op I I (.nilS 1 (α := Int) D.int I) <| .nil <| .seq <| .region <| .op I I (.assign I I) <| .nilVec 5 1 3 I <| .nil <| .seq <| .seq <| .region <| .op I I (.fieldAddr I I (G78_4 _)) <| .op I I (.load I I Y3 I) <| .op I I (.fieldAddr I I (G78_4 _)) <| .op I I (.load I I Y3 I) <| .op I I (.mul6 I I I) <| .op I I (.move I I) <| .nil <| .block <| .loopS [2, 3, 11] (fun (v : (List Int) × Int) => [(5, .vec 0 (List.length v.1)), (12, .d (.int v.2))]) (fun (v : (List Int) × Int) => [(0, .vec 3 1 (List.map D.int v.1))]) (.c I <| .c I <| .c I .nil) h ⟨_, I, I, I, I, I, I, I, I, trivial⟩ (fun rec_15 v h => ?_)
  obtain ⟨b0_13, x12_14⟩ := v
  refine .seq <| .region <| .op I I (.lss I I I) <| .nil <| .keep [.vec 3 1 (List.map D.int b0_13)] [2, 3, 5, 11, 12, 13] (.c I <| .c I <| .c I <| .c I <| .c I <| .c I .nil) I <| .seq <| .condS I h (fun h => ?_) fun h => ?_
  · refine .skip <| .join [2, 3, 11, 12] (fun (v : (List Int)) => [(5, .vec 0 (List.length v))]) (fun (v : (List Int)) => [(0, .vec 3 1 (List.map D.int v))]) (.c I <| .c I <| .c I <| .c I .nil) h (fun k_17 h => ?_) (fun b0_16 h => ?_)
    · refine .block <| .seq <| .region <| .op I I (.move I I) <| .op I I (.assign I I) <| .nil <| .seq <| .region <| .op I I (.load I I Y84 I) <| .op I I (.fieldAddr I I (G78_3 _)) <| .op I I (.load I I Y3 I) <| .op I I (.move I I) <| .op I I (.add6 I I I) <| bK h fun x20_18 hx20_18 h => .op I I (.call I K61 I (condition_added_ok _ _ _ _ hx20_18)) <| .op I I (.gtr I I I) <| .nil <| .condS I h (fun h => ?_) fun h => ?_
      · refine .region <| .op I I (.move I I) <| .op I I (.move I I) <| .op I I (.buildSl [_] I I E22 I (fun _ => I) I (enc := D.int)) <| bK h fun x25_19 hx25_19 h => .app I I I I I I I I E22 I (fun _ => I) hx25_19 <| .op I I (.assign I I) <| .nil ?_
        exact ⟨_, h, ⟨_, I, I, I, I, I, I, I, I, trivial⟩⟩
      · refine .skip ?_
        exact ⟨_, h, ⟨_, I, I, I, I, I, I, I, I, trivial⟩⟩
    · refine .region <| .op I I (.add6 I I I) <| .op I I (.move I I) <| .nil ?_
      exact ⟨_, h, ⟨_, I, I, I, I, I, I, I, I, trivial⟩⟩
  · refine .exit <| .seq <| .region <| .op I I (.move I I) <| .op I I (.assign I I) <| .nil <| .ret ?_
    cases h
    exact retOne I (.vec I (by simp))
theorem condition_System_3_ok (n : Nat) (t0 : Int) (t1 : Action) (r : Int) (h : condition_System_3 n t0 t1 = some r) : Pure Tryz.prog 60 [.int t0, .ref (Action.enc t1)] (.int r) := by
  refine Pure.ot Tryz.func60 I Tryz.ntmps60 I fun A w => .seq <| .region <| .op I I (.assign I I) <| .nil <| .seq <| .region <| .op I I (.load I I Y84 I) <| .op I I (.move I I) <| bK h fun x6_1 hx6_1 h => .op I I (.call I K61 I (condition_added_ok _ _ _ _ hx6_1)) <| .op I I (.assign I I) <| .nil <| .ret ?_
  cases h
  exact retOne I (.d _)
theorem condition_System_4_ok (n : Nat) (t0 : Int) (t1 : Action) (r : Int) (h : condition_System_4 n t0 t1 = some r) : Pure Tryz.prog 62 [.int t0, .ref (Action.enc t1)] (.int r) := by
  refine Pure.ot Tryz.func62 I Tryz.ntmps62 I fun A w => .seq <| .region <| .op I I (.assign I I) <| .nil <| .seq <| .region <| .op I I (.load I I Y84 I) <| .op I I (.move I I) <| bK h fun x6_1 hx6_1 h => .op I I (.call I K61 I (condition_added_ok _ _ _ _ hx6_1)) <| .op I I (.assign I I) <| .nil <| .ret ?_
  cases h
  exact retOne I (.d _)
set_option maxHeartbeats 2000000 in
theorem interval_box_ok (n : Nat) (t0 : List Range) (r : Bool) (h : interval_box n t0 = some r) : Pure Tryz.prog 175 [.sl 2 (List.map Range.enc t0)] (.bool r) := by
  refine Pure.ot Tryz.func175 I Tryz.ntmps175 I fun A w => .seq <| .region <| .op I I (.assign I I) <| .nil <| .seq <| .seq <| .region <| .op I I (.move I I) <| .op I I (.len I U48 I) <| .op I I (.move I I) <| .nil <| .block <| .loopS [0, 5, 6] (fun (v : Int) => [(7, .d (.int v))]) (fun (v : Int) => []) (.c I <| .c I <| .c I .nil) h ⟨_, I, I, I, I, I, I, I, trivial⟩ (fun rec_12 x7_11 h => ?_)
  refine .seq <| .region <| .op I I (.lss I I I) <| .nil <| .keep [] [0, 5, 6, 7, 8] (.c I <| .c I <| .c I <| .c I <| .c I .nil) I <| .seq <| .condS I h (fun h => ?_) fun h => ?_
  · refine .skip <| .seq <| .block <| .seq <| .region <| bK h fun x9_13 hx9_13 h => .op I I (.idx I I I U48 S87 hx9_13) <| .op I I (.load I I Y87 I) <| .allocStore I I I I I I I I (by simp) I I Z87 <| .nil <| .seq <| .plain 18 I <| .op I I I I (.fieldAddr I I (G87_0 _)) <| .op I I I I (.load I I Y3 I) <| .op I I I I (.lss I I I) <| .op I I I I (.move I I) <| .jOr 3 (b2 := decide (1000000 < x9_13.lo)) I I I I (.inl I) (fun _ _ _ h1 => by cases h1) I I (fun hb_14 => ?_) ?_
    · refine .gop I I I I I I (.fieldAddr I I (G87_0 _)) <| .gop I I I I I I (.load I I Y3 I) <| .gop I I I I I I (.gtr I I I) ?_
      exact .nil I
    refine .op I I I I (.move I I) <| .jOr 3 (b2 := decide (x9_13.hi < (-1000000))) I I I I (.inl I) (fun _ _ _ h1 => by cases h1) I I (fun hb_15 => ?_) ?_
    · refine .gop I I I I I I (.fieldAddr I I (G87_1 _)) <| .gop I I I I I I (.load I I Y3 I) <| .gop I I I I I I (.lss I I I) ?_
      exact .nil I
    refine .op I I I I (.move I I) <| .jOr 3 (b2 := decide (1000000 < x9_13.hi)) I I I I (.inl I) (fun _ _ _ h1 => by cases h1) I I (fun hb_16 => ?_) ?_
    · refine .gop I I I I I I (.fieldAddr I I (G87_1 _)) <| .gop I I I I I I (.load I I Y3 I) <| .gop I I I I I I (.gtr I I I) ?_
      exact .nil I
    refine .nil <| .nil <| .keep [] [0, 5, 6, 7, 28] (.c I <| .c I <| .c I <| .c I <| .c I .nil) I <| .condS I h (fun h => ?_) fun h => ?_
    · refine .seq <| .region <| .op I I (.assign I I) <| .nil <| .ret ?_
      cases h
      exact retOne I (.d _)
    · refine .skip <| .region <| .op I I (.add6 I I I) <| .op I I (.move I I) <| .nil ?_
      exact ⟨_, h, ⟨_, I, I, I, I, I, I, I, trivial⟩⟩
  · refine .exit <| .seq <| .region <| .op I I (.move I I) <| .op I I (.len I U48 I) <| .op I I (.leq I I I) <| .op I I (.assign I I) <| .nil <| .ret ?_
    cases h
    exact retOne I (.d _)
set_option maxHeartbeats 2000000 in
theorem interval_fits_ok (n : Nat) (t0 : Int) (t1 : Row) (r : Bool) (h : interval_fits n t0 t1 = some r) : Pure Tryz.prog 178 [.int t0, Row.enc t1] (.bool r) := by
  refine Pure.ot Tryz.func178 I Tryz.ntmps178 I fun A w => .seq <| .region <| .op I I (.box I I) <| .op I I (.assign I I) <| .nil <| .seq <| .region <| .op I I (.assign I I) <| .nil <| .seq <| .seq <| .region <| .op I I (.fieldAddr I I (G33_0 _)) <| .op I I (.load I I Y31 I) <| .op I I (.len I U31 I) <| .op I I (.move I I) <| .nil <| .block <| .loopS [0, 3, 9, 10] (fun (v : Int × Int) => [(5, .d (.int v.1)), (11, .d (.int v.2))]) (fun (v : Int × Int) => []) (.c I <| .c I <| .c I <| .c I .nil) h ⟨_, I, I, I, I, I, I, I, I, I, trivial⟩ (fun rec_17 v h => ?_)
  obtain ⟨x5_15, x11_16⟩ := v
  refine .seq <| .region <| .op I I (.lss I I I) <| .nil <| .keep [] [0, 3, 5, 9, 10, 11, 12] (.c I <| .c I <| .c I <| .c I <| .c I <| .c I <| .c I .nil) I <| .seq <| .condS I h (fun h => ?_) fun h => ?_
  · refine .skip <| .seq <| .block <| .seq <| .region <| bK h fun x13_18 hx13_18 h => .op I I (.idx I I I U31 S41 hx13_18) <| .op I I (.load I I Y41 I) <| .allocStore I I I I I I I I (by simp) I I Z41 <| .nil <| .seq <| .seq <| .plain 25 I <| .op I I I I (.fieldAddr I I (G41_0 _)) <| .op I I I I (.load I I Y3 I) <| .op I I I I (.move I I) <| .op I I I I (.leq I I I) <| .op I I I I (.move I I) <| .jOr 4 (b2 := decide (t0 ≤ x13_18.cell)) I I I I (.inl I) (fun _ _ _ h1 => by cases h1) I I (fun hb_19 => ?_) ?_
    · refine .gop I I I I I I (.fieldAddr I I (G41_0 _)) <| .gop I I I I I I (.load I I Y3 I) <| .gop I I I I I I (.move I I) <| .gop I I I I I I (.geq I I I) ?_
      exact .nil I
    refine .op I I I I (.move I I) <| .jOr 3 (b2 := x13_18.factor == 0) I I I I (.inl I) (fun _ _ _ h1 => by cases h1) I I (fun hb_20 => ?_) ?_
    · refine .gop I I I I I I (.fieldAddr I I (G41_1 _)) <| .gop I I I I I I (.load I I Y3 I) <| .gop I I I I I I (.eql I I I) ?_
      exact .nil I
    refine .op I I I I (.move I I) <| .jOr 3 (b2 := decide (x13_18.factor < (-1000))) I I I I (.inl I) (fun _ _ _ h1 => by cases h1) I I (fun hb_21 => ?_) ?_
    · refine .gop I I I I I I (.fieldAddr I I (G41_1 _)) <| .gop I I I I I I (.load I I Y3 I) <| .gop I I I I I I (.lss I I I) ?_
      exact .nil I
    refine .op I I I I (.move I I) <| .jOr 3 (b2 := decide (1000 < x13_18.factor)) I I I I (.inl I) (fun _ _ _ h1 => by cases h1) I I (fun hb_22 => ?_) ?_
    · refine .gop I I I I I I (.fieldAddr I I (G41_1 _)) <| .gop I I I I I I (.load I I Y3 I) <| .gop I I I I I I (.gtr I I I) ?_
      exact .nil I
    refine .nil <| .nil <| .keep [] [0, 3, 7, 9, 10, 11, 39] (.c I <| .c I <| .c I <| .c I <| .c I <| .c I <| .c I .nil) I <| .condS I h (fun h => ?_) fun h => ?_
    · refine .seq <| .region <| .op I I (.assign I I) <| .nil <| .ret ?_
      cases h
      exact retOne I (.d _)
    · refine .skip <| .region <| .op I I (.fieldAddr I I (G41_0 _)) <| .op I I (.load I I Y3 I) <| .op I I (.assign I I) <| .nil <| .region <| .op I I (.add6 I I I) <| .op I I (.move I I) <| .nil ?_
      exact ⟨_, h, ⟨_, I, I, I, I, I, I, I, I, I, trivial⟩⟩
  · refine .exit <| .seq <| .plain 8 I <| .op I I I I (.fieldAddr I I (G33_1 _)) <| .op I I I I (.load I I Y3 I) <| .op I I I I (.geq I I I) <| .op I I I I (.move I I) <| .jAnd 3 (b2 := decide (t1.bound ≤ 1000000000)) I I I I (.inl I) (fun _ _ _ h1 => by cases h1) I I (fun hb_23 => ?_) ?_
    · refine .gop I I I I I I (.fieldAddr I I (G33_1 _)) <| .gop I I I I I I (.load I I Y3 I) <| .gop I I I I I I (.leq I I I) ?_
      exact .nil I
    refine .nil <| .op I I (.assign I I) <| .nil <| .ret ?_
    cases h
    exact retOne I (.d _)
theorem interval_Valid_1_ok (n : Nat) (t0 : Row) (t1 : List Range) (r : Bool) (h : interval_Valid_1 n t0 t1 = some r) : Pure Tryz.prog 177 [Row.enc t0, .ref (.sl 2 (List.map Range.enc t1))] (.bool r) := by
  refine Pure.ot Tryz.func177 I Tryz.ntmps177 I fun A w => .seq <| .region <| .op I I (.box I I) <| .op I I (.assign I I) <| .nil <| .seq <| .region <| .op I I (.load I I Y48 I) <| .op I I (.len I U48 I) <| .op I I (.load I I Y33 I) <| bK h fun x7_1 hx7_1 h => .op I I (.call I K178 I (interval_fits_ok _ _ _ _ hx7_1)) <| .op I I (.not I I) <| .op I I (.assign I I) <| .nil <| .ret ?_
  cases h
  exact retOne I (.d _)
theorem interval_Valid_ok (n : Nat) (t0 : List Range) (t1 : List Row) (r : Bool) (h : interval_Valid n t0 t1 = some r) : Pure Tryz.prog 115 [.sl 2 (List.map Range.enc t0), .sl 2 (List.map Row.enc t1)] (.bool r) := by
  refine Pure.ot Tryz.func115 I Tryz.ntmps115 I fun A w => .seq <| .region <| .op I I (.box I I) <| .op I I (.assign I I) <| .nil <| .seq <| .plain 8 I <| .op I I I I (.load I I Y48 I) <| bK h fun x6_1 hx6_1 h => .op I I I I (.call I K175 I (interval_box_ok _ _ _ hx6_1)) <| .op I I I I (.move I I) <| gK h fun hc_3 h => .jAnd 4 (b2 := !((slices_ContainsFunc_LRow_api_Row n t1 (fun q0 => interval_Valid_1 n q0 t0)).getD default)) I I I I (.inl I) (fun _ _ _ h1 => by cases h1) I I (fun hb_2 => ?_) ?_
  · refine .gop I I I I I I (.move I I) <| .gop I I I I I I (.makeFunc I I) <| .gop I I I I I I (.call I K176 I (slices_ContainsFunc_LRow_api_Row_ok _ _ _ _ (fun q0 y hq => ⟨_, _, I, K177, interval_Valid_1_ok _ q0 _ _ hq⟩) _ (someD (impT hc_3 hb_2)))) <| .gop I I I I I I (.not I I) ?_
    exact .nil I
  refine .nil <| .op I I (.assign I I) <| .nil <| .ret ?_
  cases h
  exact retOne I (.d _)
theorem slices_IndexFunc_LRange_api_Range_ok (n : Nat) (t0 : List Range) (t1 : Range → Option Bool) (F1 : D) (hF1 : ∀ (q0 : Range) (y : Bool), t1 q0 = some y → Dyn Tryz.prog F1 [Range.enc q0] (.bool y)) (r : Int) (h : slices_IndexFunc_LRange_api_Range n t0 t1 = some r) : Pure Tryz.prog 214 [.sl 2 (List.map Range.enc t0), F1] (.int r) := by
  refine Pure.ot Tryz.func214 I Tryz.ntmps214 I fun A w => .seq <| .region <| .op I I (.assign I I) <| .nil <| .seq <| .seq <| .region <| .op I I (.move I I) <| .op I I (.len I U48 I) <| .op I I (.move I I) <| .nil <| .block <| .loopS [0, 1, 7] (fun (v : Int) => [(8, .d (.int v))]) (fun (v : Int) => []) (.c I <| .c I <| .c I .nil) h ⟨_, I, I, I, I, I, I, I, trivial⟩ (fun rec_8 x8_7 h => ?_)
  refine .seq <| .region <| .op I I (.lss I I I) <| .nil <| .keep [] [0, 1, 7, 8, 9] (.c I <| .c I <| .c I <| .c I <| .c I .nil) I <| .seq <| .condS I h (fun h => ?_) fun h => ?_
  · refine .skip <| .seq <| .block <| .seq <| .region <| .op I I (.move I I) <| .op I I (.assign I I) <| .nil <| .seq <| .region <| .op I I (.move I I) <| .op I I (.move I I) <| .op I I (.move I I) <| bK h fun x14_9 hx14_9 h => .op I I (.idx I I I U48 S87 hx14_9) <| .op I I (.load I I Y87 I) <| bK h fun x16_10 hx16_10 h => .op I I (.dyn I I I (hF1 _ _ hx16_10)) <| .nil <| .condS I h (fun h => ?_) fun h => ?_
    · refine .seq <| .region <| .op I I (.move I I) <| .op I I (.assign I I) <| .nil <| .ret ?_
      cases h
      exact retOne I (.d _)
    · refine .skip <| .region <| .op I I (.add6 I I I) <| .op I I (.move I I) <| .nil ?_
      exact ⟨_, h, ⟨_, I, I, I, I, I, I, I, trivial⟩⟩
  · refine .exit <| .seq <| .region <| .op I I (.assign I I) <| .nil <| .ret ?_
    cases h
    exact retOne I (.d _)
end Go.Proofs.YtcagdmegicijlaaGreatDoor
