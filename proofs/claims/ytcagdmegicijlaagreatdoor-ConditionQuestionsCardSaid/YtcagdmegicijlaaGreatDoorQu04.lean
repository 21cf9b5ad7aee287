/- Part of the proof of one law of the seat. -/
import Derived.Test.YtcagdmegicijlaaGreatDoorQu03
set_option linter.unusedVariables false
set_option linter.unusedSectionVars false
set_option linter.unusedSimpArgs false
namespace Go.Proofs.YtcagdmegicijlaaGreatDoor
open Go Go.RowKit
theorem lexer_Name_ok (n : Nat) (t0 : List UInt8) (r : Bool) (h : lexer_Name n t0 = some r) : Pure Tryz.prog 143 [.str t0] (.bool r) := by
  refine Pure.ot Tryz.func143 I Tryz.ntmps143 I fun A w => .sr <| .p I (.asg I) <| .nil <| .seq <| .plain 8 I <| .p I (.mv I) <| .p I (.len_str I U9 I) <| .p I (.le I) <| .p I (.mv I) <| gK h fun hc_2 h => .jAnd 3 (b2 := ((lexer_Kind n t0).getD default) == 1) I I I I (.inl I) (fun _ _ _ h1 => by cases h1) I I (fun hb_1 => ?_) ?_
  · refine .q I (.mv I) <| .q I (.call I K193 I (lexer_Kind_ok _ _ _ (someD (impT hc_2 hb_1)))) <| .q I (.eq I) ?_
    exact .nil I
  refine .nil <| .p I (.asg I) <| .nil <| .ret ?_
  cases h
  exact retOne I (.d _)
theorem cells_columned_1_ok (n : Nat) (t0 : Int) (t1 : List Int) (r : Bool) (h : cells_columned_1 n t0 t1 = some r) : Pure Tryz.prog 194 [.int t0, .ref (.sl 1 (List.map D.int t1))] (.bool r) := by
  refine Pure.ot Tryz.func194 I Tryz.ntmps194 I fun A w => .sr <| .p I (.asg I) <| .nil <| .seq <| .plain 8 I <| .p I (.mv I) <| .p I (.ls I) <| .p I (.mv I) <| .jOr 4 (b2 := decide ((t1.length : Int) ≤ t0)) I I I I (.inl I) (fun _ _ _ h1 => by cases h1) I I (fun hb_1 => ?_) ?_
  · refine .q I (.mv I) <| .q I (.ld Y22 I) <| .q I (.len I U22 I) <| .q I (.ge I) ?_
    exact .nil I
  refine .nil <| .p I (.asg I) <| .nil <| .ret ?_
  cases h
  exact retOne I (.d _)
theorem cells_columned_ok (n : Nat) (t0 : List Int) (t1 : List Int) (r : Bool) (h : cells_columned n t0 t1 = some r) : Pure Tryz.prog 145 [.sl 1 (List.map D.int t0), .sl 1 (List.map D.int t1)] (.bool r) := by
  refine Pure.ot Tryz.func145 I Tryz.ntmps145 I fun A w => .sr <| .p I (.bx I) <| .p I (.asg I) <| .nil <| .seq <| .plain 9 I <| .p I (.mv I) <| .p I (.len I U22 I) <| .p I (.le I) <| .p I (.mv I) <| gK h fun hc_2 h => .jAnd 4 (b2 := !((slices_ContainsFunc_Lint_int n t1 (fun q0 => cells_columned_1 n q0 t0)).getD default)) I I I I (.inl I) (fun _ _ _ h1 => by cases h1) I I (fun hb_1 => ?_) ?_
  · refine .q I (.mv I) <| .q I (.makeFunc I I) <| .q I (.call I K154 I (slices_ContainsFunc_Lint_int_ok _ _ _ _ (fun q0 y hq => ⟨_, _, I, K194, cells_columned_1_ok _ q0 _ _ hq⟩) _ (someD (impT hc_2 hb_1)))) <| .q I (.nt I) ?_
    exact .nil I
  refine .nil <| .p I (.asg I) <| .nil <| .ret ?_
  cases h
  exact retOne I (.d _)
set_option maxHeartbeats 2000000 in
theorem cells_ranged_ok (n : Nat) (t0 : Table) (r : Bool) (h : cells_ranged n t0 = some r) : Pure Tryz.prog 146 [Table.enc t0] (.bool r) := by
  refine Pure.ot Tryz.func146 I Tryz.ntmps146 I fun A w => .sr <| .p I (.bx I) <| .p I (.asg I) <| .nil <| .seq <| .sr <| .p I (.fa I (G127_1 _)) <| .p I (.ld Y3 I) <| .nil <| .block <| .join [1] (fun (v : Bool) => [(5, .d (.bool v))]) (fun (v : Bool) => []) (.c I .nil) h (fun k_2 h => ?_) (fun x5_1 h => ?_)
  · refine .sr <| .p I (.eq I) <| .p I (.asg I) <| .nil <| .condS I h (fun h => ?_) fun h => ?_
    · refine .skip ?_
      exact ⟨_, h, ⟨_, Fz4 I <| Fz1 I trivial⟩⟩
    · refine .sr <| .p I (.eq I) <| .p I (.asg I) <| .nil <| .condS I h (fun h => ?_) fun h => ?_
      · refine .skip ?_
        exact ⟨_, h, ⟨_, Fz4 I <| Fz1 I trivial⟩⟩
      · refine .region <| .p I (.eq I) <| .p I (.asg I) <| .nil ?_
        exact ⟨_, h, ⟨_, Fz4 I <| Fz1 I trivial⟩⟩
  · refine .condS I h (fun h => ?_) fun h => ?_
    · refine .seq <| .plain 19 I <| .p I (.fa I (G127_3 _)) <| .p I (.fa I (G87_0 _)) <| .p I (.ld Y3 I) <| .p I (.fa I (G127_3 _)) <| .p I (.fa I (G87_1 _)) <| .p I (.ld Y3 I) <| .p I (.le I) <| .p I (.mv I) <| .jAnd 4 (b2 := decide ((-9999) ≤ t0.range.lo)) I I I I (.inl I) (fun _ _ _ h1 => by cases h1) I I (fun hb_3 => ?_) ?_
      · refine .q I (.fa I (G127_3 _)) <| .q I (.fa I (G87_0 _)) <| .q I (.ld Y3 I) <| .q I (.ge I) ?_
        exact .nil I
      refine .p I (.mv I) <| .jAnd 4 (b2 := decide (t0.range.hi ≤ 9999)) I I I I (.inl I) (fun _ _ _ h1 => by cases h1) I I (fun hb_4 => ?_) ?_
      · refine .q I (.fa I (G127_3 _)) <| .q I (.fa I (G87_1 _)) <| .q I (.ld Y3 I) <| .q I (.le I) ?_
        exact .nil I
      refine .nil <| .p I (.asg I) <| .nil <| .keep [] [2] (.c I .nil) I <| .ret ?_
      cases h
      exact retOne I (.d _)
    · refine .skip <| .keep [] [1] (.c I .nil) I <| .sr <| .p I (.fa I (G127_3 _)) <| .p I (.ld Y87 I) <| .p I (.castD (Range.enc (⟨0, 1⟩ : Range)) I (.build I Pl87 (.agg Zc87 (ds' := [_, _]) (.cons (.refl _) (.cons (.refl _) (.nil)))) I I)) <| .p I (.seql I SE87 I I (xs := Range.vals _) (ys := Range.vals _) I I I I (SQ87 _ _)) <| .p I (.asg I) <| .nil <| .ret ?_
      cases h
      exact retOne I (.d _)
theorem cells_isStrict_ok (n : Nat) (t0 : Table) (r : Bool) (h : cells_isStrict n t0 = some r) : Pure Tryz.prog 147 [Table.enc t0] (.bool r) := by
  refine Pure.ot Tryz.func147 I Tryz.ntmps147 I fun A w => .sr <| .p I (.bx I) <| .p I (.asg I) <| .nil <| .seq <| .plain 8 I <| .p I (.fa I (G127_1 _)) <| .p I (.ld Y3 I) <| .p I (.eq I) <| .p I (.mv I) <| .jOr 3 (b2 := t0.kind == 1) I I I I (.inl I) (fun _ _ _ h1 => by cases h1) I I (fun hb_1 => ?_) ?_
  · refine .q I (.fa I (G127_1 _)) <| .q I (.ld Y3 I) <| .q I (.eq I) ?_
    exact .nil I
  refine .nil <| .p I (.asg I) <| .nil <| .ret ?_
  cases h
  exact retOne I (.d _)
theorem cells_width_ok (n : Nat) (t0 : List Int) (t1 : List Int) (r : Int) (h : cells_width n t0 t1 = some r) : Pure Tryz.prog 148 [.sl 1 (List.map D.int t0), .sl 1 (List.map D.int t1)] (.int r) := by
  refine Pure.ot Tryz.func148 I Tryz.ntmps148 I fun A w => .sr <| .p I (.asg I) <| .nil <| .sr <| .p I (.asg I) <| .nil <| .seq <| .sr <| .p I (.mv I) <| .p I (.len I U22 I) <| .p I (.mv I) <| .nil <| .block <| .loopS [0, 8, 9] (fun (v : Int × Int) => [(5, .d (.int v.1)), (10, .d (.int v.2))]) (fun (v : Int × Int) => []) (.c2 I <| .c I .nil) h ⟨_, Fz8 I trivial⟩ (fun rec_11 v h => ?_)
  obtain ⟨x5_9, x10_10⟩ := v
  refine .sr <| .p I (.ls I) <| .nil <| .keep [] [0, 5, 8, 9, 10, 11] (.c4 I <| .c2 I .nil) I <| .seq <| .condS I h (fun h => ?_) fun h => ?_
  · refine .skip <| .seq <| .block <| .sr <| bK h fun x12_12 hx12_12 h => .p I (.ix I U22 S3 hx12_12) <| .p I (.ld Y3 I) <| .p I (.asg I) <| .nil <| .region <| .p I (.mv I) <| .p I (.mv I) <| .p I (.mv I) <| bK h fun x17_13 hx17_13 h => .p I (.ix I U22 S3 hx17_13) <| .p I (.ld Y3 I) <| .p I (.ml I) <| .p I (.asg I) <| .nil <| .region <| .p I (.ad I) <| .p I (.mv I) <| .nil ?_
    exact ⟨_, h, ⟨_, Fz8 I trivial⟩⟩
  · refine .exit <| .sr <| .p I (.mv I) <| .p I (.asg I) <| .nil <| .ret ?_
    cases h
    exact retOne I (.d _)
set_option maxHeartbeats 2000000 in
theorem cells_Valid_ok (n : Nat) (t0 : List Int) (t1 : List Table) (r : Bool) (h : cells_Valid n t0 t1 = some r) : Pure Tryz.prog 94 [.sl 1 (List.map D.int t0), .sl 6 (List.map Table.enc t1)] (.bool r) := by
  refine Pure.ot Tryz.func94 I Tryz.ntmps94 I fun A w => .sr <| .p I (.asg I) <| .nil <| .seq <| .sr <| .p I (.mv I) <| .p I (.len I U22 I) <| .p I (.le I) <| .p I (.mv I) <| .p I (.len I U23 I) <| .p I (.le I) <| .p I (.mv I) <| bK h fun x18_1 hx18_1 h => .p I (.call I K142 I (cells_sized_ok _ _ _ hx18_1)) <| .p I (.buildSl [_, _, _] I I E144 I (fun _ => I) I (enc := D.bool)) <| bK h fun x20_2 hx20_2 h => .p I (.call I K141 I (cells_all_ok _ _ _ hx20_2)) <| .p I (.nt I) <| .nil <| .condS I h (fun h => ?_) fun h => ?_
  · refine .sr <| .p I (.asg I) <| .nil <| .ret ?_
    cases h
    exact retOne I (.d _)
  · refine .skip <| .sr <| .makeMap (fun l : List UInt8 => Value.string ⟨l.toArray⟩) D.bool I I I I <| .p I (.asg I) <| .nil <| .sr <| .allocZ I I I I (.val Zv3) I <| .allocZ I I I I (.val Zv3) I <| .store I I I I I I (.ofD I) C3 I (Nat.le_of_ble_eq_true I) <| .store I I I I I I (.ofD I) C3 I (Nat.le_of_ble_eq_true I) <| .nil <| .keep [GMap.blk (fun l : List UInt8 => Value.string ⟨l.toArray⟩) D.bool (GMap.empty : GMap (List UInt8) Bool), .box 3 [.d (.int 0)], .box 3 [.d (.int 0)]] [0, 1, 5, 6, 7] (.c4 I <| .c I .nil) I <| .seq <| .sr <| .p I (.mv I) <| .p I (.len I U23 I) <| .p I (.mv I) <| .nil <| .block <| .loopS [0, 5, 6, 7, 23, 24] (fun (v : (GMap (List UInt8) Bool) × Int × Int × Int) => [(25, .d (.int v.2.2.2))]) (fun (v : (GMap (List UInt8) Bool) × Int × Int × Int) => [(0, GMap.blk (fun l : List UInt8 => Value.string ⟨l.toArray⟩) D.bool v.1), (1, .box 3 [.d (.int v.2.1)]), (2, .box 3 [.d (.int v.2.2.1)])]) (.c4 I <| .c2 I .nil) h ⟨_, Fz8 I <| Fz2 I trivial⟩ (fun rec_41 v h => ?_)
    obtain ⟨m0_37, c1_0_38, c2_0_39, x25_40⟩ := v
    refine .sr <| .p I (.ls I) <| .nil <| .keep [GMap.blk (fun l : List UInt8 => Value.string ⟨l.toArray⟩) D.bool m0_37, .box 3 [.d (.int c1_0_38)], .box 3 [.d (.int c2_0_39)]] [0, 5, 6, 7, 23, 24, 25, 26] (.c8 I .nil) I <| .seq <| .condS I h (fun h => ?_) fun h => ?_
    · refine .skip <| .join [0, 5, 6, 7, 23, 24, 25] (fun (v : (GMap (List UInt8) Bool) × Int × Int) => []) (fun (v : (GMap (List UInt8) Bool) × Int × Int) => [(0, GMap.blk (fun l : List UInt8 => Value.string ⟨l.toArray⟩) D.bool v.1), (1, .box 3 [.d (.int v.2.1)]), (2, .box 3 [.d (.int v.2.2)])]) (.c4 I <| .c2 I <| .c I .nil) h (fun k_45 h => ?_) (fun v h => ?_)
      · refine .block <| .sr <| bK h fun x27_46 hx27_46 h => .p I (.ix I U23 S127 hx27_46) <| .p I (.ld Y127 I) <| .allocStore I I I I I I I I (by simp) I I Z127 <| .nil <| .seq <| .seq <| .draw 20 Hm (by kernel_rfl) (by kernel_rfl) <| .p I (.fa I (G127_0 _)) <| .p I (.ld Y9 I) <| bK h fun x31_47 hx31_47 h => .p I (.call I K143 I (lexer_Name_ok _ _ _ hx31_47)) <| .p I (.mv I) <| .p I (.fa I (G127_0 _)) <| .p I (.ld Y9 I) <| .p I (.mapGet I U167 KT9 I I I (z := (false : Bool)) (.val Zv4)) <| .p I (.nt I) <| .p I (.fa I (G127_1 _)) <| .p I (.ld Y3 I) <| bK h fun x39_48 hx39_48 h => .p I (.call I K144 I (cells_within_ok _ _ _ _ _ hx39_48)) <| .p I (.mv I) <| .p I (.fa I (G127_2 _)) <| .p I (.ld Y22 I) <| bK h fun x43_49 hx43_49 h => .p I (.call I K145 I (cells_columned_ok _ _ _ _ hx43_49)) <| .p I (.ld Y127 I) <| bK h fun x45_50 hx45_50 h => .p I (.call I K146 I (cells_ranged_ok _ _ _ hx45_50)) <| .p I (.buildSl [_, _, _, _, _] I I E144 I (fun _ => I) I (enc := D.bool)) <| bK h fun x47_51 hx47_51 h => .p I (.call I K141 I (cells_all_ok _ _ _ hx47_51)) <| .p I (.nt I) <| .nil <| .nil <| .keep [GMap.blk (fun l : List UInt8 => Value.string ⟨l.toArray⟩) D.bool m0_37, .box 3 [.d (.int c1_0_38)], .box 3 [.d (.int c2_0_39)]] [0, 5, 6, 7, 9, 23, 24, 25, 48] (.c8 I <| .c I .nil) I <| .condS I h (fun h => ?_) fun h => ?_
        · refine .sr <| .p I (.asg I) <| .nil <| .ret ?_
          cases h
          exact retOne I (.d _)
        · refine .skip <| .sr <| .p I (.mv I) <| .p I (.fa I (G127_0 _)) <| .p I (.ld Y9 I) <| .mapPut (k := x27_46.name) (v := true) I I I U167 KT9 I I I I <| .nil <| .sr <| .p I (.asg I) <| .nil <| .seq <| .sr <| .p I (.ld Y127 I) <| bK h fun x53_52 hx53_52 h => .p I (.call I K147 I (cells_isStrict_ok _ _ _ hx53_52)) <| .nil <| .condS I h (fun h => ?_) fun h => ?_
          · refine .region <| .p I (.asg I) <| .nil <| .seq <| .seq <| .draw 6 Hm (by kernel_rfl) (by kernel_rfl) <| .p I (.fa I (G127_4 _)) <| .p I (.ld Y3 I) <| .p I (.mv I) <| .p I (.nilCheck_loc I I I) <| .p I (.loadLoc1 I I I Y3 I) <| .p I (.ne I) <| .nil <| .nil <| .condS I h (fun h => ?_) fun h => ?_
            · refine .sr <| .p I (.asg I) <| .nil <| .ret ?_
              cases h
              exact retOne I (.d _)
            · refine .skip <| .draw 9 Hm (by kernel_rfl) (by kernel_rfl) <| .p I (.mv I) <| .p I (.nilCheck_loc I I I) <| .p I (.loadLoc1 I I I Y3 I) <| .p I (.mv I) <| .p I (.fa I (G127_2 _)) <| .p I (.ld Y22 I) <| bK h fun x66_53 hx66_53 h => .p I (.call I K148 I (cells_width_ok _ _ _ _ hx66_53)) <| .p I (.ad I) <| .p I (.nilCheck_loc I I I) <| .nil <| .store I I I I I I (.ofD I) C3 I (Nat.le_of_ble_eq_true I) <| .nil ?_
              exact ⟨_, h, ⟨_, Fz8 I <| Fz2 I trivial⟩⟩
          · refine .skip <| .seq <| .seq <| .draw 6 Hm (by kernel_rfl) (by kernel_rfl) <| .p I (.fa I (G127_4 _)) <| .p I (.ld Y3 I) <| .p I (.mv I) <| .p I (.nilCheck_loc I I I) <| .p I (.loadLoc1 I I I Y3 I) <| .p I (.ne I) <| .nil <| .nil <| .condS I h (fun h => ?_) fun h => ?_
            · refine .sr <| .p I (.asg I) <| .nil <| .ret ?_
              cases h
              exact retOne I (.d _)
            · refine .skip <| .draw 9 Hm (by kernel_rfl) (by kernel_rfl) <| .p I (.mv I) <| .p I (.nilCheck_loc I I I) <| .p I (.loadLoc1 I I I Y3 I) <| .p I (.mv I) <| .p I (.fa I (G127_2 _)) <| .p I (.ld Y22 I) <| bK h fun x66_54 hx66_54 h => .p I (.call I K148 I (cells_width_ok _ _ _ _ hx66_54)) <| .p I (.ad I) <| .p I (.nilCheck_loc I I I) <| .nil <| .store I I I I I I (.ofD I) C3 I (Nat.le_of_ble_eq_true I) <| .nil ?_
              exact ⟨_, h, ⟨_, Fz8 I <| Fz2 I trivial⟩⟩
      · obtain ⟨m0_42, c1_0_43, c2_0_44⟩ := v
        refine .region <| .p I (.ad I) <| .p I (.mv I) <| .nil ?_
        exact ⟨_, h, ⟨_, Fz8 I <| Fz2 I trivial⟩⟩
    · refine .exit <| .seq <| .plain 6 I <| .p I (.loadLoc1 I I I Y3 I) <| .p I (.le I) <| .p I (.mv I) <| .jAnd 2 (b2 := decide (c2_0_39 ≤ 64)) I I I I (.inl I) (fun _ _ _ h1 => by cases h1) I I (fun hb_55 => ?_) ?_
      · refine .q I (.loadLoc1 I I I Y3 I) <| .q I (.le I) ?_
        exact .nil I
      refine .nil <| .p I (.asg I) <| .nil <| .ret ?_
      cases h
      exact retOne I (.d _)
set_option maxHeartbeats 2000000 in
theorem model_distinct_ok (n : Nat) (t0 : List (List UInt8)) (r : Bool) (h : model_distinct n t0 = some r) : Pure Tryz.prog 95 [.sl 1 (List.map D.str t0)] (.bool r) := by
  refine Pure.ot Tryz.func95 I Tryz.ntmps95 I fun A w => .sr <| .p I (.asg I) <| .nil <| .sr <| .makeMap (fun l : List UInt8 => Value.string ⟨l.toArray⟩) D.bool I I I I <| .p I (.asg I) <| .nil <| .seq <| .sr <| .p I (.mv I) <| .p I (.len I U24 I) <| .p I (.mv I) <| .nil <| .block <| .loopS [3, 7, 8] (fun (v : (GMap (List UInt8) Bool) × Int) => [(9, .d (.int v.2))]) (fun (v : (GMap (List UInt8) Bool) × Int) => [(0, GMap.blk (fun l : List UInt8 => Value.string ⟨l.toArray⟩) D.bool v.1)]) (.c2 I <| .c I .nil) h ⟨_, Fz4 I <| Fz2 I <| Fz1 I trivial⟩ (fun rec_13 v h => ?_)
  obtain ⟨m0_11, x9_12⟩ := v
  refine .sr <| .p I (.ls I) <| .nil <| .keep [GMap.blk (fun l : List UInt8 => Value.string ⟨l.toArray⟩) D.bool m0_11] [3, 7, 8, 9, 10] (.c4 I <| .c I .nil) I <| .seq <| .condS I h (fun h => ?_) fun h => ?_
  · refine .skip <| .seq <| .block <| .sr <| bK h fun x11_14 hx11_14 h => .p I (.ix I U24 S9 hx11_14) <| .p I (.ld Y9 I) <| .p I (.asg I) <| .nil <| .seq <| .seq <| .plain 8 I <| .p I (.mv I) <| bK h fun x14_15 hx14_15 h => .p I (.call I K143 I (lexer_Name_ok _ _ _ hx14_15)) <| .p I (.nt I) <| .p I (.mv I) <| .jOr 3 (b2 := (m0_11.get? x11_14).getD false) I I I I (.inl I) (fun _ _ _ h1 => by cases h1) I I (fun hb_16 => ?_) ?_
    · refine .q I (.mv I) <| .q I (.mv I) <| .q I (.mapGet I U167 KT9 I I I (z := (false : Bool)) (.val Zv4)) ?_
      exact .nil I
    refine .nil <| .nil <| .condS I h (fun h => ?_) fun h => ?_
    · refine .sr <| .p I (.asg I) <| .nil <| .ret ?_
      cases h
      exact retOne I (.d _)
    · refine .skip <| .region <| .p I (.mv I) <| .p I (.mv I) <| .mapPut (k := x11_14) (v := true) I I I U167 KT9 I I I I <| .nil <| .region <| .p I (.ad I) <| .p I (.mv I) <| .nil ?_
      exact ⟨_, h, ⟨_, Fz4 I <| Fz2 I <| Fz1 I trivial⟩⟩
  · refine .exit <| .sr <| .p I (.asg I) <| .nil <| .ret ?_
    cases h
    exact retOne I (.d _)
set_option maxHeartbeats 2000000 in
theorem math_bits_Mul64_ok (n : Nat) (t0 : Int) (t1 : Int) (r : Int × Int) (h : math_bits_Mul64 n t0 t1 = some r) : Pure Tryz.prog 220 [.val (.int .u64 t0), .val (.int .u64 t1)] (.tup [.val (.int .u64 r.1), .val (.int .u64 r.2)]) := by
  refine Pure.ot Tryz.func220 I Tryz.ntmps220 I fun A w => .sr <| .p I (.asg I) <| .p I (.asg I) <| .nil <| .sr <| .p I (.mv I) <| .p I (.band I I I) <| .p I (.asg I) <| .nil <| .sr <| .p I (.mv I) <| bK h fun x17_1 hx17_1 h => .p I (.shr I I I hx17_1) <| .p I (.asg I) <| .nil <| .sr <| .p I (.mv I) <| .p I (.band I I I) <| .p I (.asg I) <| .nil <| .sr <| .p I (.mv I) <| bK h fun x21_2 hx21_2 h => .p I (.shr I I I hx21_2) <| .p I (.asg I) <| .nil <| .sr <| .p I (.mv I) <| .p I (.mv I) <| .p I (.mul I I I) <| .p I (.asg I) <| .nil <| .keep [] [0, 1, 6, 7, 8, 9, 10] (.c4 I <| .c2 I <| .c I .nil) I ?_
  refine .sr <| .p I (.mv I) <| .p I (.mv I) <| .p I (.mul I I I) <| .p I (.mv I) <| bK h fun x29_3 hx29_3 h => .p I (.shr I I I hx29_3) <| .p I (.add I I I) <| .p I (.asg I) <| .nil <| .sr <| .p I (.mv I) <| .p I (.band I I I) <| .p I (.asg I) <| .nil <| .sr <| .p I (.mv I) <| bK h fun x34_4 hx34_4 h => .p I (.shr I I I hx34_4) <| .p I (.asg I) <| .nil <| .sr <| .p I (.mv I) <| .p I (.mv I) <| .p I (.mv I) <| .p I (.mul I I I) <| .p I (.add I I I) <| .p I (.asg I) <| .nil <| .keep [] [0, 1, 7, 9, 12, 13] (.c4 I <| .c2 I .nil) I <| .sr <| .p I (.mv I) <| .p I (.mv I) <| .p I (.mul I I I) <| .p I (.mv I) ?_
  refine .p I (.add I I I) <| .p I (.mv I) <| bK h fun x46_5 hx46_5 h => .p I (.shr I I I hx46_5) <| .p I (.add I I I) <| .p I (.asg I) <| .nil <| .sr <| .p I (.mv I) <| .p I (.mv I) <| .p I (.mul I I I) <| .p I (.asg I) <| .nil <| .ret ?_
  cases h
  exact retTwo I I (.d _) (.d _)
theorem math_bits_Mul_ok (n : Nat) (t0 : Int) (t1 : Int) (r : Int × Int) (h : math_bits_Mul n t0 t1 = some r) : Pure Tryz.prog 195 [.val (.int .u64 t0), .val (.int .u64 t1)] (.tup [.val (.int .u64 r.1), .val (.int .u64 r.2)]) := by
  refine Pure.ot Tryz.func195 I Tryz.ntmps195 I fun A w => .sr <| .p I (.asg I) <| .p I (.asg I) <| .nil <| .seq <| .condF I <| .skip <| .sr <| .p I (.mv I) <| .p I (.mv I) <| bK h fun x25_1 hx25_1 h => .p I (.call I K220 I (math_bits_Mul64_ok _ _ _ _ hx25_1)) <| .p I (.mv I) <| .p I (.extract I I I) <| .p I (.extract I I I) <| .p I (.asg I) <| .p I (.asg I) <| .nil <| .sr <| .p I (.mv I) <| .p I (.mv I) <| .p I (.asg I) <| .p I (.asg I) <| .nil <| .ret ?_
  cases h
  exact retTwo I I (.d _) (.d _)
set_option maxHeartbeats 2000000 in
theorem slices_Repeat_LRange_api_Range_ok (n : Nat) (t0 : List Range) (t1 : Int) (r : List Range) (h : slices_Repeat_LRange_api_Range n t0 t1 = some r) : Pure Tryz.prog 149 [.sl 2 (List.map Range.enc t0), .int t1] (.sl 2 (List.map Range.enc r)) := by
  refine Pure.ot Tryz.func149 I Tryz.ntmps149 I fun A w => .sr <| .p I (.nilS 2 (α := Range) Range.enc I) <| .nil <| .seq <| .sr <| .p I (.mv I) <| .p I (.ls I) <| .nil <| .condS I h (fun h => ?_) fun h => ?_
  · refine .region ?_
    cases h
  · refine .skip <| .sr <| .p I (.mv I) <| .p I (.len I U48 I) <| .p I (.conv I U3 U210 I) <| .p I (.mv I) <| .p I (.conv I U3 U210 I) <| bK h fun x18_1 hx18_1 h => .p I (.call I K195 I (math_bits_Mul_ok _ _ _ _ hx18_1)) <| .p I (.mv I) <| .p I (.extract I I I) <| .p I (.extract I I I) <| .p I (.asg I) <| .p I (.asg I) <| .nil <| .seq <| .seq <| .plain 6 I <| .p I (.mv I) <| .p I (.gt I) <| .p I (.mv I) <| .jOr 2 (b2 := decide (9223372036854775807 < x18_1.2)) I I I I (.inl I) (fun _ _ _ h1 => by cases h1) I I (fun hb_2 => ?_) ?_
    · refine .q I (.mv I) <| .q I (.gt I) ?_
      exact .nil I
    refine .nil <| .nil <| .keep [] [0, 6, 26] (.c2 I <| .c I .nil) I <| .condS I h (fun h => ?_) fun h => ?_
    · refine .region ?_
      cases h
    · refine .skip <| .sr <| .p I (.mv I) <| .p I (.conv I U210 U3 I) <| bK h fun x30_3 hx30_3 h => .makeVec (enc := Range.enc) (z := (⟨0, 0⟩ : Range)) I I I I E48 I I I (.agg Zc87 (ds' := [.int 0, .int 0]) (.cons (.refl _) (.cons (.refl _) (.nil)))) hx30_3 <| .p I (.asg I) <| .nil <| .sr <| .p I (.mv I) <| .p I (.mv I) <| .asSub 31 I <| .copySub (enc := Range.enc) (l := x30_3) (ys := t0) I I I I E48 I I I (.d I) (fun _ => I) <| .relen 7 I (copyTo_lenW _ t0).symm <| .relen 30 I (copyTo_lenW _ t0).symm <| .p I (.asg I) <| .nil <| .seq <| .block <| .loopS [] (fun (v : (List Range) × Int) => [(7, .vec 0 (List.length v.1)), (8, .d (.int v.2))]) (fun (v : (List Range) × Int) => [(0, .vec 87 2 (List.map Range.enc v.1))]) (.nil) h ⟨_, Fz4 I <| Fz1 I trivial⟩ (fun rec_14 v h => ?_)
      obtain ⟨b0_12, x8_13⟩ := v
      refine .seq <| .sr <| .p I (.mv I) <| .p I (.mv I) <| .p I (.lenV I U48 I I I) <| .p I (.ls I) <| .nil <| .keep [.vec 87 2 (List.map Range.enc b0_12)] [7, 8, 37] (.c2 I <| .c I .nil) I <| .condS I h (fun h => ?_) fun h => ?_
      · refine .skip <| .block <| .drawF 7 [0] Hm (by kernel_rfl) (by kernel_rfl) <| .p I (.mv I) <| .p I (.mv I) <| .p I (.mv I) <| bK h fun x41_15 hx41_15 h => .p I (.subL I I I I I U48 S87 hx41_15) <| .p I (.mv I) <| .p I (.mv I) <| bK h fun x44_16 hx44_16 h => .p I (.subH I I I I I U48 S87 hx44_16) <| .nil ⟨.move I I (.nil), ?_⟩
        refine .copySub (enc := Range.enc) (l := b0_12) (ys := ((b0_12.drop 0).take (x8_13.toNat - 0))) I I I I E48 I I I (.sub I I I) (fun _ => I) <| .relen 7 I (copyTo_lenL hx41_15 ((b0_12.drop 0).take (x8_13.toNat - 0))).symm <| .relen 39 I (copyTo_lenL hx41_15 ((b0_12.drop 0).take (x8_13.toNat - 0))).symm <| .relen 42 I (copyTo_lenL hx41_15 ((b0_12.drop 0).take (x8_13.toNat - 0))).symm <| .p I (.ad I) <| .p I (.asg I) <| .nil ?_
        exact ⟨_, h, ⟨_, Fz4 I <| Fz1 I trivial⟩⟩
      · refine .exit <| .sr <| .p I (.mv I) <| .p I (.asg I) <| .nil <| .ret ?_
        cases h
        exact retOne I (.vec I (by simp))
set_option maxHeartbeats 2000000 in
theorem cells_Ranges_ok (n : Nat) (t0 : List Int) (t1 : List Table) (t2 : Bool) (r : List Range) (h : cells_Ranges n t0 t1 t2 = some r) : Pure Tryz.prog 96 [.sl 1 (List.map D.int t0), .sl 6 (List.map Table.enc t1), .bool t2] (.sl 2 (List.map Range.enc r)) := by
  refine Pure.ot Tryz.func96 I Tryz.ntmps96 I fun A w => .sr <| .p I (.nilS 2 (α := Range) Range.enc I) <| .nil <| .seq <| .sr <| .p I (.mv I) <| .p I (.mv I) <| bK h fun x12_1 hx12_1 h => .p I (.call I K94 I (cells_Valid_ok _ _ _ _ hx12_1)) <| .p I (.nt I) <| .nil <| .condS I h (fun h => ?_) fun h => ?_
  · refine .sr <| .p I (.nilS 2 (α := Range) Range.enc I) <| .nil <| .ret ?_
    cases h
    exact retOne I (.d _)
  · refine .skip <| .sr <| .p I (.asg I) <| .nilVec 7 2 87 I <| .nil <| .seq <| .sr <| .p I (.mv I) <| .p I (.len I U23 I) <| .p I (.mv I) <| .nil <| .block <| .loopS [0, 2, 14, 15] (fun (v : (List Range) × Int) => [(7, .vec 0 (List.length v.1)), (16, .d (.int v.2))]) (fun (v : (List Range) × Int) => [(0, .vec 87 2 (List.map Range.enc v.1))]) (.c4 I .nil) h ⟨_, Fz8 I <| Fz1 I trivial⟩ (fun rec_22 v h => ?_)
    obtain ⟨b0_20, x16_21⟩ := v
    refine .sr <| .p I (.ls I) <| .nil <| .keep [.vec 87 2 (List.map Range.enc b0_20)] [0, 2, 7, 14, 15, 16, 17] (.c4 I <| .c2 I <| .c I .nil) I <| .seq <| .condS I h (fun h => ?_) fun h => ?_
    · refine .skip <| .join [0, 2, 14, 15, 16] (fun (v : (List Range)) => [(7, .vec 0 (List.length v))]) (fun (v : (List Range)) => [(0, .vec 87 2 (List.map Range.enc v))]) (.c4 I <| .c I .nil) h (fun k_24 h => ?_) (fun b0_23 h => ?_)
      · refine .block <| .sr <| bK h fun x18_25 hx18_25 h => .p I (.ix I U23 S127 hx18_25) <| .p I (.ld Y127 I) <| .allocStore I I I I I I I I (by simp) I I Z127 <| .nil <| .sr <| .p I (.ld Y127 I) <| bK h fun x21_26 hx21_26 h => .p I (.call I K147 I (cells_isStrict_ok _ _ _ hx21_26)) <| .p I (.mv I) <| .p I (.beq I U4 I I) <| .nil <| .condS I h (fun h => ?_) fun h => ?_
        · refine .draw 9 Hm (by kernel_rfl) (by kernel_rfl) <| .p I (.mv I) <| .p I (.fa I (G127_3 _)) <| .p I (.ld Y87 I) <| .p I (.buildSl [_] I I E48 I (fun _ => I) I (enc := Range.enc)) <| .p I (.mv I) <| .p I (.fa I (G127_2 _)) <| .p I (.ld Y22 I) <| bK h fun x31_27 hx31_27 h => .p I (.call I K148 I (cells_width_ok _ _ _ _ hx31_27)) <| bK h fun x32_28 hx32_28 h => .p I (.call I K149 I (slices_Repeat_LRange_api_Range_ok _ _ _ _ hx32_28)) <| .nil <| bK h fun x33_29 hx33_29 h => .app I I I I I I I I E48 I (fun _ => I) hx33_29 <| .p I (.asg I) <| .nil ?_
          exact ⟨_, h, ⟨_, Fz8 I <| Fz1 I trivial⟩⟩
        · refine .skip ?_
          exact ⟨_, h, ⟨_, Fz8 I <| Fz1 I trivial⟩⟩
      · refine .region <| .p I (.ad I) <| .p I (.mv I) <| .nil ?_
        exact ⟨_, h, ⟨_, Fz8 I <| Fz1 I trivial⟩⟩
    · refine .exit <| .sr <| .p I (.mv I) <| .p I (.asg I) <| .nil <| .ret ?_
      cases h
      exact retOne I (.vec I (by simp))
theorem model_index_ok (n : Nat) (t0 : Int) (t1 : Int) (r : Bool) (h : model_index n t0 t1 = some r) : Pure Tryz.prog 150 [.int t0, .int t1] (.bool r) := by
  refine Pure.ot Tryz.func150 I Tryz.ntmps150 I fun A w => .sr <| .p I (.asg I) <| .nil <| .seq <| .plain 7 I <| .p I (.mv I) <| .p I (.ge I) <| .p I (.mv I) <| .jAnd 3 (b2 := decide (t0 < t1)) I I I I (.inl I) (fun _ _ _ h1 => by cases h1) I I (fun hb_1 => ?_) ?_
  · refine .q I (.mv I) <| .q I (.mv I) <| .q I (.ls I) ?_
    exact .nil I
  refine .nil <| .p I (.asg I) <| .nil <| .ret ?_
  cases h
  exact retOne I (.d _)
theorem model_around_ok (n : Nat) (t0 : Int) (t1 : Int) (r : Bool) (h : model_around n t0 t1 = some r) : Pure Tryz.prog 156 [.int t0, .int t1] (.bool r) := by
  refine Pure.ot Tryz.func156 I Tryz.ntmps156 I fun A w => .sr <| .p I (.asg I) <| .nil <| .seq <| .plain 9 I <| .p I (.mv I) <| .p I (.mv I) <| .p I (.neg6 I I) <| .p I (.ge I) <| .p I (.mv I) <| .jAnd 3 (b2 := decide (t0 ≤ t1)) I I I I (.inl I) (fun _ _ _ h1 => by cases h1) I I (fun hb_1 => ?_) ?_
  · refine .q I (.mv I) <| .q I (.mv I) <| .q I (.le I) ?_
    exact .nil I
  refine .nil <| .p I (.asg I) <| .nil <| .ret ?_
  cases h
  exact retOne I (.d _)
set_option maxHeartbeats 2000000 in
theorem model_judge_row_ok (n : Nat) (t0 : Judge) (t1 : Row) (r : Bool) (h : model_judge_row n t0 t1 = some r) : Pure Tryz.prog 151 [Judge.enc t0, Row.enc t1] (.bool r) := by
  refine Pure.ot Tryz.func151 I Tryz.ntmps151 I fun A w => .sr <| .p I (.bx I) <| .p I (.bx I) <| .p I (.asg I) <| .nil <| .sr <| .p I (.asg I) <| .nil <| .seq <| .sr <| .p I (.fa I (G33_0 _)) <| .p I (.ld Y31 I) <| .p I (.len I U31 I) <| .p I (.mv I) <| .nil <| .block <| .loopS [2, 3, 9, 10] (fun (v : Int × Int) => [(5, .d (.int v.1)), (11, .d (.int v.2))]) (fun (v : Int × Int) => []) (.c4 I .nil) h ⟨_, Fz8 I <| Fz1 I trivial⟩ (fun rec_17 v h => ?_)
  obtain ⟨x5_15, x11_16⟩ := v
  refine .sr <| .p I (.ls I) <| .nil <| .keep [] [2, 3, 5, 9, 10, 11, 12] (.c4 I <| .c2 I <| .c I .nil) I <| .seq <| .condS I h (fun h => ?_) fun h => ?_
  · refine .skip <| .seq <| .block <| .sr <| bK h fun x13_18 hx13_18 h => .p I (.ix I U31 S41 hx13_18) <| .p I (.ld Y41 I) <| .allocStore I I I I I I I I (by simp) I I Z41 <| .nil <| .seq <| .seq <| .plain 23 I <| .p I (.fa I (G41_0 _)) <| .p I (.ld Y3 I) <| .p I (.mv I) <| .p I (.le I) <| .p I (.mv I) <| .jOr 6 (b2 := decide ((t0.strict.length : Int) ≤ x13_18.cell)) I I I I (.inl I) (fun _ _ _ h1 => by cases h1) I I (fun hb_19 => ?_) ?_
    · refine .q I (.fa I (G41_0 _)) <| .q I (.ld Y3 I) <| .q I (.fa I (G136_1 _)) <| .q I (.ld Y48 I) <| .q I (.len I U48 I) <| .q I (.ge I) ?_
      exact .nil I
    refine .p I (.mv I) <| .jOr 3 (b2 := x13_18.factor == 0) I I I I (.inl I) (fun _ _ _ h1 => by cases h1) I I (fun hb_20 => ?_) ?_
    · refine .q I (.fa I (G41_1 _)) <| .q I (.ld Y3 I) <| .q I (.eq I) ?_
      exact .nil I
    refine .p I (.mv I) <| gK h fun hc_22 h => .jOr 4 (b2 := !((model_around n x13_18.factor 1000).getD default)) I I I I (.inl I) (fun _ _ _ h1 => by cases h1) I I (fun hb_21 => ?_) ?_
    · refine .q I (.fa I (G41_1 _)) <| .q I (.ld Y3 I) <| .q I (.call I K156 I (model_around_ok _ _ _ _ (someD (impF hc_22 hb_21)))) <| .q I (.nt I) ?_
      exact .nil I
    refine .nil <| .nil <| .keep [] [2, 3, 7, 9, 10, 11, 37] (.c4 I <| .c2 I <| .c I .nil) I <| .condS I h (fun h => ?_) fun h => ?_
    · refine .sr <| .p I (.asg I) <| .nil <| .ret ?_
      cases h
      exact retOne I (.d _)
    · refine .skip <| .region <| .p I (.fa I (G41_0 _)) <| .p I (.ld Y3 I) <| .p I (.asg I) <| .nil <| .region <| .p I (.ad I) <| .p I (.mv I) <| .nil ?_
      exact ⟨_, h, ⟨_, Fz8 I <| Fz1 I trivial⟩⟩
  · refine .exit <| .sr <| .p I (.fa I (G33_1 _)) <| .p I (.ld Y3 I) <| bK h fun x43_23 hx43_23 h => .p I (.call I K156 I (model_around_ok _ _ _ _ hx43_23)) <| .p I (.asg I) <| .nil <| .ret ?_
    cases h
    exact retOne I (.d _)
set_option maxHeartbeats 2000000 in
theorem model_judge_graph_1_ok (n : Nat) (t0 : Table) (t1 : Constraint) (t2 : Judge) (r : Bool) (h : model_judge_graph_1 n t0 t1 t2 = some r) : Pure Tryz.prog 197 [Table.enc t0, .ref (Constraint.enc t1), .ref (Judge.enc t2)] (.bool r) := by
  refine Pure.ot Tryz.func197 I Tryz.ntmps197 I fun A w => .sr <| .p I (.bx I) <| .p I (.asg I) <| .nil <| .seq <| .draw 42 Hm (by kernel_rfl) (by kernel_rfl) <| .p I (.fa I (G127_1 _)) <| .p I (.ld Y3 I) <| .p I (.eq I) <| .p I (.mv I) <| .jAnd 4 (b2 := (t0.columns.length : Int) == 2) I I I I (.inl I) (fun _ _ _ h1 => by cases h1) I I (fun hb_1 => ?_) ?_
  · refine .q I (.fa I (G127_2 _)) <| .q I (.ld Y22 I) <| .q I (.len I U22 I) <| .q I (.eq I) ?_
    exact .nil I
  refine .p I (.mv I) <| gK h fun hc_3 h => gK h fun hc_4 h => .jAnd 9 (b2 := ((idx t0.columns 0).getD default) == ((idx t0.columns 1).getD default)) I I I I (.inl I) (fun _ _ _ h1 => by cases h1) I I (fun hb_2 => ?_) ?_
  · refine .q I (.fa I (G127_2 _)) <| .q I (.ld Y22 I) <| .q I (.ix I U22 S3 (someD (impT hc_3 hb_2))) <| .q I (.ld Y3 I) <| .q I (.fa I (G127_2 _)) <| .q I (.ld Y22 I) <| .q I (.ix I U22 S3 (someD (impT hc_4 hb_2))) <| .q I (.ld Y3 I) <| .q I (.eq I) ?_
    exact .nil I
  refine .p I (.mv I) <| .jAnd 5 (b2 := t0.first == t1.first) I I I I (.inl I) (fun _ _ _ h1 => by cases h1) I I (fun hb_5 => ?_) ?_
  · refine .q I (.fa I (G127_4 _)) <| .q I (.ld Y3 I) <| .q I (.fa I (G78_3 _)) <| .q I (.ld Y3 I) <| .q I (.eq I) ?_
    exact .nil I
  refine .p I (.mv I) <| gK h fun hc_7 h => gK h fun hc_8 h => .jAnd 12 (b2 := ((idx t2.model.sorts ((idx t0.columns 0).getD default)).getD default) == t1.size) I I I I (.inl I) (fun _ _ _ h1 => by cases h1) I I (fun hb_6 => ?_) ?_
  · refine .q I (.fa I (G136_0 _)) <| .q I (.fa I (G30_0 _)) <| .q I (.ld Y22 I) <| .q I (.fa I (G127_2 _)) <| .q I (.ld Y22 I) <| .q I (.ix I U22 S3 (someD (impT hc_7 hb_6))) <| .q I (.ld Y3 I) <| .q I (.ix I U22 S3 (someD (impT hc_8 hb_6))) <| .q I (.ld Y3 I) <| .q I (.fa I (G78_4 _)) <| .q I (.ld Y3 I) <| .q I (.eq I) ?_
    exact .nil I
  refine .p I (.asg I) <| .nil <| .nil <| .keep [] [4] (.c I .nil) I <| .ret ?_
  cases h
  exact retOne I (.d _)
theorem slices_IndexFunc_LTable_api_Table_ok (n : Nat) (t0 : List Table) (t1 : Table → Option Bool) (F1 : D) (hF1 : ∀ (q0 : Table) (y : Bool), t1 q0 = some y → Dyn Tryz.prog F1 [Table.enc q0] (.bool y)) (r : Int) (h : slices_IndexFunc_LTable_api_Table n t0 t1 = some r) : Pure Tryz.prog 221 [.sl 6 (List.map Table.enc t0), F1] (.int r) := by
  refine Pure.ot Tryz.func221 I Tryz.ntmps221 I fun A w => .sr <| .p I (.asg I) <| .nil <| .seq <| .sr <| .p I (.mv I) <| .p I (.len I U23 I) <| .p I (.mv I) <| .nil <| .block <| .loopS [0, 1, 7] (fun (v : Int) => [(8, .d (.int v))]) (fun (v : Int) => []) (.c2 I <| .c I .nil) h ⟨_, Fz4 I <| Fz2 I <| Fz1 I trivial⟩ (fun rec_8 x8_7 h => ?_)
  refine .sr <| .p I (.ls I) <| .nil <| .keep [] [0, 1, 7, 8, 9] (.c4 I <| .c I .nil) I <| .seq <| .condS I h (fun h => ?_) fun h => ?_
  · refine .skip <| .seq <| .block <| .sr <| .p I (.mv I) <| .p I (.asg I) <| .nil <| .sr <| .p I (.mv I) <| .p I (.mv I) <| .p I (.mv I) <| bK h fun x14_9 hx14_9 h => .p I (.ix I U23 S127 hx14_9) <| .p I (.ld Y127 I) <| bK h fun x16_10 hx16_10 h => .p I (.dyn I I I (hF1 _ _ hx16_10)) <| .nil <| .condS I h (fun h => ?_) fun h => ?_
    · refine .sr <| .p I (.mv I) <| .p I (.asg I) <| .nil <| .ret ?_
      cases h
      exact retOne I (.d _)
    · refine .skip <| .region <| .p I (.ad I) <| .p I (.mv I) <| .nil ?_
      exact ⟨_, h, ⟨_, Fz4 I <| Fz2 I <| Fz1 I trivial⟩⟩
  · refine .exit <| .sr <| .p I (.asg I) <| .nil <| .ret ?_
    cases h
    exact retOne I (.d _)
theorem slices_ContainsFunc_LTable_api_Table_ok (n : Nat) (t0 : List Table) (t1 : Table → Option Bool) (F1 : D) (hF1 : ∀ (q0 : Table) (y : Bool), t1 q0 = some y → Dyn Tryz.prog F1 [Table.enc q0] (.bool y)) (r : Bool) (h : slices_ContainsFunc_LTable_api_Table n t0 t1 = some r) : Pure Tryz.prog 196 [.sl 6 (List.map Table.enc t0), F1] (.bool r) := by
  refine Pure.ot Tryz.func196 I Tryz.ntmps196 I fun A w => .sr <| .p I (.asg I) <| .nil <| .sr <| .p I (.mv I) <| .p I (.mv I) <| bK h fun x7_1 hx7_1 h => .p I (.call I K221 I (slices_IndexFunc_LTable_api_Table_ok _ _ _ _ hF1 _ hx7_1)) <| .p I (.ge I) <| .p I (.asg I) <| .nil <| .ret ?_
  cases h
  exact retOne I (.d _)
theorem model_judge_graph_ok (n : Nat) (t0 : Judge) (t1 : Constraint) (r : Bool) (h : model_judge_graph n t0 t1 = some r) : Pure Tryz.prog 152 [Judge.enc t0, Constraint.enc t1] (.bool r) := by
  refine Pure.ot Tryz.func152 I Tryz.ntmps152 I fun A w => .sr <| .p I (.bx I) <| .p I (.bx I) <| .p I (.asg I) <| .nil <| .seq <| .plain 18 I <| .p I (.fa I (G78_2 _)) <| .p I (.fa I (G33_0 _)) <| .p I (.ld Y31 I) <| .p I (.len I U31 I) <| .p I (.eq I) <| .p I (.mv I) <| .jAnd 4 (b2 := t1.row.bound == 0) I I I I (.inl I) (fun _ _ _ h1 => by cases h1) I I (fun hb_1 => ?_) ?_
  · refine .q I (.fa I (G78_2 _)) <| .q I (.fa I (G33_1 _)) <| .q I (.ld Y3 I) <| .q I (.eq I) ?_
    exact .nil I
  refine .p I (.mv I) <| gK h fun hc_3 h => .jAnd 5 (b2 := ((slices_ContainsFunc_LTable_api_Table n t0.model.tables (fun q0 => model_judge_graph_1 n q0 t1 t0)).getD default)) I I I I (.inl I) (fun _ _ _ h1 => by cases h1) I I (fun hb_2 => ?_) ?_
  · refine .q I (.fa I (G136_0 _)) <| .q I (.fa I (G30_1 _)) <| .q I (.ld Y23 I) <| .q I (.makeFunc I I) <| .q I (.call I K196 I (slices_ContainsFunc_LTable_api_Table_ok _ _ _ _ (fun q0 y hq => ⟨_, _, I, K197, model_judge_graph_1_ok _ q0 _ _ _ hq⟩) _ (someD (impT hc_3 hb_2)))) ?_
    exact .nil I
  refine .nil <| .p I (.asg I) <| .nil <| .keep [] [4] (.c I .nil) I <| .ret ?_
  cases h
  exact retOne I (.d _)
set_option maxHeartbeats 2000000 in
theorem slices_Equal_LTerm_api_Term_ok (n : Nat) (t0 : List Term) (t1 : List Term) (r : Bool) (h : slices_Equal_LTerm_api_Term n t0 t1 = some r) : Pure Tryz.prog 198 [.sl 2 (List.map Term.enc t0), .sl 2 (List.map Term.enc t1)] (.bool r) := by
  refine Pure.ot Tryz.func198 I Tryz.ntmps198 I fun A w => .sr <| .p I (.asg I) <| .nil <| .seq <| .sr <| .p I (.mv I) <| .p I (.len I U31 I) <| .p I (.mv I) <| .p I (.len I U31 I) <| .p I (.ne I) <| .nil <| .condS I h (fun h => ?_) fun h => ?_
  · refine .sr <| .p I (.asg I) <| .nil <| .ret ?_
    cases h
    exact retOne I (.d _)
  · refine .skip <| .seq <| .sr <| .p I (.mv I) <| .p I (.len I U31 I) <| .p I (.mv I) <| .nil <| .block <| .loopS [0, 1, 12] (fun (v : Int) => [(13, .d (.int v))]) (fun (v : Int) => []) (.c2 I <| .c I .nil) h ⟨_, Fz4 I <| Fz2 I <| Fz1 I trivial⟩ (fun rec_8 x13_7 h => ?_)
    refine .sr <| .p I (.ls I) <| .nil <| .keep [] [0, 1, 12, 13, 14] (.c4 I <| .c I .nil) I <| .seq <| .condS I h (fun h => ?_) fun h => ?_
    · refine .skip <| .seq <| .block <| .sr <| .p I (.mv I) <| .p I (.asg I) <| .nil <| .seq <| .draw 9 Hm (by kernel_rfl) (by kernel_rfl) <| .p I (.mv I) <| .p I (.mv I) <| bK h fun x18_9 hx18_9 h => .p I (.ix I U31 S41 hx18_9) <| .p I (.ld Y41 I) <| .p I (.mv I) <| .p I (.mv I) <| bK h fun x22_10 hx22_10 h => .p I (.ix I U31 S41 hx22_10) <| .p I (.ld Y41 I) <| .p I (.sneq I SE41 I I (xs := Term.vals _) (ys := Term.vals _) I I I I (SQ41 _ _)) <| .nil <| .nil <| .condS I h (fun h => ?_) fun h => ?_
      · refine .sr <| .p I (.asg I) <| .nil <| .ret ?_
        cases h
        exact retOne I (.d _)
      · refine .skip <| .region <| .p I (.ad I) <| .p I (.mv I) <| .nil ?_
        exact ⟨_, h, ⟨_, Fz4 I <| Fz2 I <| Fz1 I trivial⟩⟩
    · refine .exit <| .sr <| .p I (.asg I) <| .nil <| .ret ?_
      cases h
      exact retOne I (.d _)
theorem model_single_ok (n : Nat) (t0 : Row) (t1 : Int) (t2 : Int) (t3 : Int) (r : Bool) (h : model_single n t0 t1 t2 t3 = some r) : Pure Tryz.prog 153 [Row.enc t0, .int t1, .int t2, .int t3] (.bool r) := by
  refine Pure.ot Tryz.func153 I Tryz.ntmps153 I fun A w => .sr <| .p I (.bx I) <| .p I (.asg I) <| .nil <| .seq <| .plain 13 I <| .p I (.fa I (G33_0 _)) <| .p I (.ld Y31 I) <| .p I (.mv I) <| .p I (.mv I) <| .p I (.castD (Term.enc (⟨t1, t2⟩ : Term)) I (.build I Pl41 (.agg Zc41 (ds' := [_, _]) (.cons (.refl _) (.cons (.refl _) (.nil)))) I I)) <| .p I (.buildSl [_] I I E31 I (fun _ => I) I (enc := Term.enc)) <| bK h fun x15_1 hx15_1 h => .p I (.call I K198 I (slices_Equal_LTerm_api_Term_ok _ _ _ _ hx15_1)) <| .p I (.mv I) <| .jAnd 4 (b2 := t0.bound == t3) I I I I (.inl I) (fun _ _ _ h1 => by cases h1) I I (fun hb_2 => ?_) ?_
  · refine .q I (.fa I (G33_1 _)) <| .q I (.ld Y3 I) <| .q I (.mv I) <| .q I (.eq I) ?_
    exact .nil I
  refine .nil <| .p I (.asg I) <| .nil <| .keep [] [8] (.c I .nil) I <| .ret ?_
  cases h
  exact retOne I (.d _)
set_option maxHeartbeats 2000000 in
theorem model_judge_constraints_ok (n : Nat) (t0 : Judge) (r : Bool) (h : model_judge_constraints n t0 = some r) : Pure Tryz.prog 97 [Judge.enc t0] (.bool r) := by
  refine Pure.ot Tryz.func97 I Tryz.ntmps97 I fun A w => .sr <| .p I (.bx I) <| .p I (.asg I) <| .nil <| .seq <| .seq <| .plain 16 I <| .p I (.fa I (G136_0 _)) <| .p I (.fa I (G30_3 _)) <| .p I (.ld Y25 I) <| .p I (.len I U25 I) <| .p I (.gt I) <| .p I (.mv I) <| .jOr 9 (b2 := decide ((t0.model.constraints.length : Int) < mul64 2 (t0.strict.length : Int))) I I I I (.inl I) (fun _ _ _ h1 => by cases h1) I I (fun hb_1 => ?_) ?_
  · refine .q I (.fa I (G136_0 _)) <| .q I (.fa I (G30_3 _)) <| .q I (.ld Y25 I) <| .q I (.len I U25 I) <| .q I (.fa I (G136_1 _)) <| .q I (.ld Y48 I) <| .q I (.len I U48 I) <| .q I (.ml I) <| .q I (.ls I) ?_
    exact .nil I
  refine .nil <| .nil <| .keep [] [1, 23] (.c2 I .nil) I <| .condS I h (fun h => ?_) fun h => ?_
  · refine .sr <| .p I (.asg I) <| .nil <| .ret ?_
    cases h
    exact retOne I (.d _)
  · refine .skip <| .seq <| .sr <| .p I (.fa I (G136_0 _)) <| .p I (.fa I (G30_3 _)) <| .p I (.ld Y25 I) <| .p I (.len I U25 I) <| .p I (.mv I) <| .nil <| .block <| .loopS [1, 26, 27] (fun (v : Int) => [(28, .d (.int v))]) (fun (v : Int) => []) (.c2 I <| .c I .nil) h ⟨_, Fz4 I <| Fz2 I <| Fz1 I trivial⟩ (fun rec_43 x28_42 h => ?_)
    refine .sr <| .p I (.ls I) <| .nil <| .keep [] [1, 26, 27, 28, 29] (.c4 I <| .c I .nil) I <| .seq <| .condS I h (fun h => ?_) fun h => ?_
    · refine .skip <| .join [1, 26, 27, 28] (fun (v : Unit) => []) (fun (v : Unit) => []) (.c4 I .nil) h (fun k_44 h => ?_) (fun v h => ?_)
      · refine .block <| .sr <| .p I (.mv I) <| bK h fun x31_45 hx31_45 h => .p I (.ix I U25 S78 hx31_45) <| .p I (.ld Y78 I) <| .allocZ I I I I (.agg Zc78 (ds' := [.int 0, .int 0, .sl 2 (List.map Term.enc []), .int 0, .int 0, .int 0]) (.cons (.refl _) (.cons (.refl _) (.cons (.nil _) (.cons (.refl _) (.cons (.refl _) (.cons (.refl _) (.nil)))))))) I <| .p I (.asg I) <| .store I I I I I I (.ofD I) C78 I (Nat.le_of_ble_eq_true I) <| .nil <| .join [1, 3, 4, 26, 27, 28] (fun (v : Unit) => []) (fun (v : Unit) => []) (.c4 I <| .c2 I .nil) h (fun k_46 h => ?_) (fun v h => ?_)
        · refine .block <| .sr <| .p I (.fieldAddrLoc I I I F78_1) <| .p I (.loadLoc1 I I I Y3 I) <| .p I (.fa I (G136_0 _)) <| .p I (.fa I (G30_2 _)) <| .p I (.ld Y24 I) <| .p I (.len I U24 I) <| bK h fun x40_47 hx40_47 h => .p I (.call I K150 I (model_index_ok _ _ _ _ hx40_47)) <| .p I (.nt I) <| .p I (.asg I) <| .nil <| .condS I h (fun h => ?_) fun h => ?_
          · refine .sr <| .p I (.asg I) <| .nil <| .keep [.box 78 [.d (.int x31_45.kind), .d (.int x31_45.family), .d (.sl 2 (List.map Term.enc x31_45.row.terms)), .d (.int x31_45.row.bound), .d (.int x31_45.first), .d (.int x31_45.size)]] [2] (.c I .nil) I <| .ret ?_
            cases h
            exact retOne I (.d _)
          · refine .sr <| .p I (.fieldAddrLoc I I I F78_0) <| .p I (.loadLoc1 I I I Y3 I) <| .p I (.eq I) <| .p I (.asg I) <| .nil <| .keep [.box 78 [.d (.int x31_45.kind), .d (.int x31_45.family), .d (.sl 2 (List.map Term.enc x31_45.row.terms)), .d (.int x31_45.row.bound), .d (.int x31_45.first), .d (.int x31_45.size)]] [1, 3, 4, 26, 27, 28, 42] (.c4 I <| .c2 I <| .c I .nil) I <| .condS I h (fun h => ?_) fun h => ?_
            · refine .seq <| .plain 15 I <| .p I (.fieldAddrLoc I I I F78_3) <| .p I (.loadLoc1 I I I Y3 I) <| .p I (.ne I) <| .p I (.mv I) <| .jOr 3 (b2 := x31_45.size != 0) I I I I (.inl I) (fun _ _ _ h1 => by cases h1) I I (fun hb_48 => ?_) ?_
              · refine .q I (.fieldAddrLoc I I I F78_4) <| .q I (.loadLoc1 I I I Y3 I) <| .q I (.ne I) ?_
                exact .nil I
              refine .p I (.mv I) <| gK h fun hc_50 h => .jOr 5 (b2 := !((model_judge_row n t0 x31_45.row).getD default)) I I I I (.inl I) (fun _ _ _ h1 => by cases h1) I I (fun hb_49 => ?_) ?_
              · refine .q I (.ld Y136 I) <| .q I (.fieldAddrLoc I I I F78_2) <| .q I (.loadLoc I I I Y33 (Nat.le_of_ble_eq_true I) (v := .d (Row.enc x31_45.row)) I) <| .q I (.call I K151 I (model_judge_row_ok _ _ _ _ (someD (impF hc_50 hb_49)))) <| .q I (.nt I) ?_
                exact .nil I
              refine .nil <| .nil <| .condS I h (fun h => ?_) fun h => ?_
              · refine .sr <| .p I (.asg I) <| .nil <| .keep [.box 78 [.d (.int x31_45.kind), .d (.int x31_45.family), .d (.sl 2 (List.map Term.enc x31_45.row.terms)), .d (.int x31_45.row.bound), .d (.int x31_45.first), .d (.int x31_45.size)]] [2] (.c I .nil) I <| .ret ?_
                cases h
                exact retOne I (.d _)
              · refine .skip ?_
                exact ⟨_, h, ⟨_, Fz8 I <| Fz1 I trivial⟩⟩
            · refine .seq <| .plain 9 I <| .p I (.fieldAddrLoc I I I F78_0) <| .p I (.loadLoc1 I I I Y3 I) <| .p I (.ne I) <| .p I (.mv I) <| gK h fun hc_52 h => .jOr 4 (b2 := !((model_judge_graph n t0 x31_45).getD default)) I I I I (.inl I) (fun _ _ _ h1 => by cases h1) I I (fun hb_51 => ?_) ?_
              · refine .q I (.ld Y136 I) <| .q I (.loadLoc I I I Y78 (Nat.le_of_ble_eq_true I) (v := .d (Constraint.enc x31_45)) I) <| .q I (.call I K152 I (model_judge_graph_ok _ _ _ _ (someD (impF hc_52 hb_51)))) <| .q I (.nt I) ?_
                exact .nil I
              refine .nil <| .p I (.asg I) <| .nil <| .condS I h (fun h => ?_) fun h => ?_
              · refine .sr <| .p I (.asg I) <| .nil <| .ret ?_
                cases h
                exact retOne I (.d _)
              · refine .skip ?_
                exact ⟨_, h, ⟨_, Fz8 I <| Fz1 I trivial⟩⟩
        · refine .sr <| .p I (.mv I) <| bK h fun x72_53 hx72_53 h => .p I (.quo6 I I I hx72_53) <| .p I (.fa I (G136_1 _)) <| .p I (.ld Y48 I) <| .p I (.len I U48 I) <| .p I (.ls I) <| .nil <| .keep [.box 78 [.d (.int x31_45.kind), .d (.int x31_45.family), .d (.sl 2 (List.map Term.enc x31_45.row.terms)), .d (.int x31_45.row.bound), .d (.int x31_45.first), .d (.int x31_45.size)]] [1, 3, 4, 26, 27, 28, 76] (.c4 I <| .c2 I <| .c I .nil) I <| .condS I h (fun h => ?_) fun h => ?_
          · refine .sr <| .p I (.fa I (G136_1 _)) <| .p I (.ld Y48 I) <| .p I (.mv I) <| bK h fun x80_54 hx80_54 h => .p I (.quo6 I I I hx80_54) <| bK h fun x81_55 hx81_55 h => .p I (.ix I U48 S87 hx81_55) <| .p I (.ld Y87 I) <| .allocStore I I I I I I I I (by simp) I I Z87 <| .p I (.asg I) <| .p I (.asg I) <| .nil <| .join [1, 3, 4, 26, 27, 28] (fun (v : Int × Int) => [(6, .d (.int v.1)), (7, .d (.int v.2))]) (fun (v : Int × Int) => []) (.c4 I <| .c2 I .nil) h (fun k_58 h => ?_) (fun v h => ?_)
            · refine .sr <| .p I (.fa I (G87_1 _)) <| .p I (.ld Y3 I) <| .p I (.asg I) <| .nil <| .sr <| .p I (.mv I) <| bK h fun x86_59 hx86_59 h => .p I (.rem6 I I I hx86_59) <| .p I (.eq I) <| .nil <| .keep [.box 78 [.d (.int x31_45.kind), .d (.int x31_45.family), .d (.sl 2 (List.map Term.enc x31_45.row.terms)), .d (.int x31_45.row.bound), .d (.int x31_45.first), .d (.int x31_45.size)]] [1, 3, 4, 5, 6, 7, 26, 27, 28, 87] (.c8 I <| .c2 I .nil) I <| .condS I h (fun h => ?_) fun h => ?_
              · refine .draw 5 Hm (by kernel_rfl) (by kernel_rfl) <| .p I (.fa I (G87_0 _)) <| .p I (.ld Y3 I) <| .p I (.neg6 I I) <| .p I (.asg I) <| .p I (.asg I) <| .nil <| .nil ?_
                exact ⟨_, h, ⟨_, Fz8 I <| Fz2 I <| Fz1 I trivial⟩⟩
              · refine .skip ?_
                exact ⟨_, h, ⟨_, Fz8 I <| Fz2 I <| Fz1 I trivial⟩⟩
            · obtain ⟨x6_56, x7_57⟩ := v
              refine .seq <| .plain 13 I <| .p I (.fieldAddrLoc I I I F78_0) <| .p I (.loadLoc1 I I I Y3 I) <| .p I (.ne I) <| .p I (.mv I) <| gK h fun hc_61 h => gK h fun hc_62 h => .jOr 8 (b2 := !((model_single n x31_45.row ((quo64 x28_42 2).getD default) x6_56 x7_57).getD default)) I I I I (.inl I) (fun _ _ _ h1 => by cases h1) I I (fun hb_60 => ?_) ?_
              · refine .q I (.fieldAddrLoc I I I F78_2) <| .q I (.loadLoc I I I Y33 (Nat.le_of_ble_eq_true I) (v := .d (Row.enc x31_45.row)) I) <| .q I (.mv I) <| .q I (.quo6 I I I (someD (impF hc_61 hb_60))) <| .q I (.mv I) <| .q I (.mv I) <| .q I (.call I K153 I (model_single_ok _ _ _ _ _ _ (someD (impF hc_62 hb_60)))) <| .q I (.nt I) ?_
                exact .nil I
              refine .nil <| .nil <| .keep [.box 78 [.d (.int x31_45.kind), .d (.int x31_45.family), .d (.sl 2 (List.map Term.enc x31_45.row.terms)), .d (.int x31_45.row.bound), .d (.int x31_45.first), .d (.int x31_45.size)]] [1, 26, 27, 28, 103] (.c4 I <| .c I .nil) I <| .condS I h (fun h => ?_) fun h => ?_
              · refine .sr <| .p I (.asg I) <| .nil <| .ret ?_
                cases h
                exact retOne I (.d _)
              · refine .skip ?_
                exact ⟨_, h, ⟨_, Fz4 I <| Fz2 I <| Fz1 I trivial⟩⟩
          · refine .skip ?_
            exact ⟨_, h, ⟨_, Fz4 I <| Fz2 I <| Fz1 I trivial⟩⟩
      · refine .region <| .p I (.ad I) <| .p I (.mv I) <| .nil ?_
        exact ⟨_, h, ⟨_, Fz4 I <| Fz2 I <| Fz1 I trivial⟩⟩
    · refine .exit <| .sr <| .p I (.asg I) <| .nil <| .ret ?_
      cases h
      exact retOne I (.d _)
theorem model_judge_operations_1_ok (n : Nat) (t0 : Int) (t1 : Judge) (r : Bool) (h : model_judge_operations_1 n t0 t1 = some r) : Pure Tryz.prog 155 [.int t0, .ref (Judge.enc t1)] (.bool r) := by
  refine Pure.ot Tryz.func155 I Tryz.ntmps155 I fun A w => .sr <| .p I (.asg I) <| .nil <| .seq <| .plain 10 I <| .p I (.mv I) <| .p I (.ls I) <| .p I (.mv I) <| .jOr 6 (b2 := decide ((t1.model.sorts.length : Int) ≤ t0)) I I I I (.inl I) (fun _ _ _ h1 => by cases h1) I I (fun hb_1 => ?_) ?_
  · refine .q I (.mv I) <| .q I (.fa I (G136_0 _)) <| .q I (.fa I (G30_0 _)) <| .q I (.ld Y22 I) <| .q I (.len I U22 I) <| .q I (.ge I) ?_
    exact .nil I
  refine .nil <| .p I (.asg I) <| .nil <| .ret ?_
  cases h
  exact retOne I (.d _)
set_option maxHeartbeats 2000000 in
theorem model_judge_operations_ok (n : Nat) (t0 : Judge) (r : Bool) (h : model_judge_operations n t0 = some r) : Pure Tryz.prog 98 [Judge.enc t0] (.bool r) := by
  refine Pure.ot Tryz.func98 I Tryz.ntmps98 I fun A w => .sr <| .p I (.bx I) <| .p I (.asg I) <| .nil <| .sr <| .p I (.asg I) <| .nilVec 3 1 9 I <| .nil <| .seq <| .sr <| .p I (.fa I (G136_0 _)) <| .p I (.fa I (G30_4 _)) <| .p I (.ld Y26 I) <| .p I (.len I U26 I) <| .p I (.mv I) <| .nil <| .block <| .loopS [1, 8, 9] (fun (v : (List (List UInt8)) × Int) => [(3, .vec 0 (List.length v.1)), (10, .d (.int v.2))]) (fun (v : (List (List UInt8)) × Int) => [(0, .vec 9 1 (List.map D.str v.1))]) (.c2 I <| .c I .nil) h ⟨_, Fz8 I trivial⟩ (fun rec_15 v h => ?_)
  obtain ⟨b0_13, x10_14⟩ := v
  refine .sr <| .p I (.ls I) <| .nil <| .keep [.vec 9 1 (List.map D.str b0_13)] [1, 3, 8, 9, 10, 11] (.c4 I <| .c2 I .nil) I <| .seq <| .condS I h (fun h => ?_) fun h => ?_
  · refine .skip <| .seq <| .block <| .sr <| bK h fun x12_16 hx12_16 h => .p I (.ix I U26 S129 hx12_16) <| .p I (.ld Y129 I) <| .allocStore I I I I I I I I (by simp) I I Z129 <| .nil <| .sr <| .p I (.mv I) <| .p I (.fa I (G129_0 _)) <| .p I (.ld Y9 I) <| .p I (.buildSl [_] I I E24 I (fun _ => I) I (enc := D.str)) <| bK h fun x18_17 hx18_17 h => .app I I I I I I I I E24 I (fun _ => I) hx18_17 <| .p I (.asg I) <| .nil <| .seq <| .plain 10 I <| .p I (.fa I (G129_2 _)) <| .p I (.ld Y22 I) <| .p I (.len I U22 I) <| .p I (.gt I) <| .p I (.mv I) <| gK h fun hc_19 h => .jOr 4 (b2 := ((slices_ContainsFunc_Lint_int n x12_16.sorts (fun q0 => model_judge_operations_1 n q0 t0)).getD default)) I I I I (.inl I) (fun _ _ _ h1 => by cases h1) I I (fun hb_18 => ?_) ?_
    · refine .q I (.fa I (G129_2 _)) <| .q I (.ld Y22 I) <| .q I (.makeFunc I I) <| .q I (.call I K154 I (slices_ContainsFunc_Lint_int_ok _ _ _ _ (fun q0 y hq => ⟨_, _, I, K155, model_judge_operations_1_ok _ q0 _ _ hq⟩) _ (someD (impF hc_19 hb_18)))) ?_
      exact .nil I
    refine .nil <| .nil <| .keep [.vec 9 1 (List.map D.str x18_17)] [1, 3, 8, 9, 10, 28] (.c4 I <| .c2 I .nil) I <| .condS I h (fun h => ?_) fun h => ?_
    · refine .sr <| .p I (.asg I) <| .nil <| .ret ?_
      cases h
      exact retOne I (.d _)
    · refine .skip <| .region <| .p I (.ad I) <| .p I (.mv I) <| .nil ?_
      exact ⟨_, h, ⟨_, Fz8 I trivial⟩⟩
  · refine .exit <| .seq <| .plain 7 I <| .p I (.mv I) <| .p I (.lenV I U24 I I I) <| .p I (.le I) <| .p I (.mv I) <| gK h fun hc_21 h => .jAnd 2 (b2 := ((model_distinct n b0_13).getD default)) I I I I (.inl I) (fun _ _ _ h1 => by cases h1) I I (fun hb_20 => ?_) ?_
    · refine .q I (.mv I) <| .q I (.callB I K95 (.cons I (.vec I (by simp)) (.nil)) I (model_distinct_ok _ _ _ (someD (impT hc_21 hb_20)))) ?_
      exact .nil I
    refine .nil <| .p I (.asg I) <| .nil <| .ret ?_
    cases h
    exact retOne I (.d _)
theorem cmp_isNaN_int_ok (n : Nat) (t0 : Int) (r : Bool) (h : cmp_isNaN_int n t0 = some r) : Pure Tryz.prog 222 [.int t0] (.bool r) := by
  refine Pure.ot Tryz.func222 I Tryz.ntmps222 I fun A w => .sr <| .p I (.asg I) <| .nil <| .sr <| .p I (.mv I) <| .p I (.mv I) <| .p I (.ne I) <| .p I (.asg I) <| .nil <| .ret ?_
  cases h
  exact retOne I (.d _)
set_option maxHeartbeats 2000000 in
theorem cmp_Compare_int_ok (n : Nat) (t0 : Int) (t1 : Int) (r : Int) (h : cmp_Compare_int n t0 t1 = some r) : Pure Tryz.prog 200 [.int t0, .int t1] (.int r) := by
  refine Pure.ot Tryz.func200 I Tryz.ntmps200 I fun A w => .sr <| .p I (.asg I) <| .nil <| .sr <| .p I (.mv I) <| bK h fun x8_1 hx8_1 h => .p I (.call I K222 I (cmp_isNaN_int_ok _ _ _ hx8_1)) <| .p I (.asg I) <| .nil <| .sr <| .p I (.mv I) <| bK h fun x10_2 hx10_2 h => .p I (.call I K222 I (cmp_isNaN_int_ok _ _ _ hx10_2)) <| .p I (.asg I) <| .nil <| .seq <| .sr <| .p I (.mv I) <| .nil <| .condS I h (fun h => ?_) fun h => ?_
  · refine .seq <| .sr <| .p I (.mv I) <| .nil <| .condS I h (fun h => ?_) fun h => ?_
    · refine .sr <| .p I (.asg I) <| .nil <| .ret ?_
      cases h
      exact retOne I (.d _)
    · refine .skip <| .sr <| .p I (.asg I) <| .nil <| .ret ?_
      cases h
      exact retOne I (.d _)
  · refine .skip <| .seq <| .sr <| .p I (.mv I) <| .nil <| .condS I h (fun h => ?_) fun h => ?_
    · refine .sr <| .p I (.asg I) <| .nil <| .ret ?_
      cases h
      exact retOne I (.d _)
    · refine .skip <| .seq <| .sr <| .p I (.mv I) <| .p I (.mv I) <| .p I (.ls I) <| .nil <| .condS I h (fun h => ?_) fun h => ?_
      · refine .sr <| .p I (.asg I) <| .nil <| .ret ?_
        cases h
        exact retOne I (.d _)
      · refine .skip <| .seq <| .sr <| .p I (.mv I) <| .p I (.mv I) <| .p I (.gt I) <| .nil <| .condS I h (fun h => ?_) fun h => ?_
        · refine .sr <| .p I (.asg I) <| .nil <| .keep [] [4] (.c I .nil) I <| .ret ?_
          cases h
          exact retOne I (.d _)
        · refine .skip <| .sr <| .p I (.asg I) <| .nil <| .keep [] [4] (.c I .nil) I <| .ret ?_
          cases h
          exact retOne I (.d _)
set_option maxHeartbeats 2000000 in
theorem slices_Compare_Lint_int_ok (n : Nat) (t0 : List Int) (t1 : List Int) (r : Int) (h : slices_Compare_Lint_int n t0 t1 = some r) : Pure Tryz.prog 157 [.sl 1 (List.map D.int t0), .sl 1 (List.map D.int t1)] (.int r) := by
  refine Pure.ot Tryz.func157 I Tryz.ntmps157 I fun A w => .sr <| .p I (.asg I) <| .nil <| .seq <| .sr <| .p I (.mv I) <| .p I (.len I U22 I) <| .p I (.mv I) <| .nil <| .block <| .loopS [0, 1, 9, 10] (fun (v : Int) => [(11, .d (.int v))]) (fun (v : Int) => []) (.c4 I .nil) h ⟨_, Fz8 I trivial⟩ (fun rec_10 x11_9 h => ?_)
  refine .sr <| .p I (.ls I) <| .nil <| .keep [] [0, 1, 9, 10, 11, 12] (.c4 I <| .c2 I .nil) I <| .seq <| .condS I h (fun h => ?_) fun h => ?_
  · refine .skip <| .seq <| .block <| .sr <| .p I (.mv I) <| bK h fun x14_11 hx14_11 h => .p I (.ix I U22 S3 hx14_11) <| .p I (.ld Y3 I) <| .p I (.asg I) <| .p I (.asg I) <| .nil <| .seq <| .sr <| .p I (.mv I) <| .p I (.mv I) <| .p I (.len I U22 I) <| .p I (.ge I) <| .nil <| .condS I h (fun h => ?_) fun h => ?_
    · refine .sr <| .p I (.asg I) <| .nil <| .ret ?_
      cases h
      exact retOne I (.d _)
    · refine .skip <| .sr <| .p I (.mv I) <| .p I (.mv I) <| bK h fun x22_12 hx22_12 h => .p I (.ix I U22 S3 hx22_12) <| .p I (.ld Y3 I) <| .p I (.asg I) <| .nil <| .sr <| .p I (.mv I) <| .p I (.mv I) <| bK h fun x26_13 hx26_13 h => .p I (.call I K200 I (cmp_Compare_int_ok _ _ _ _ hx26_13)) <| .p I (.asg I) <| .nil <| .keep [] [0, 1, 8, 9, 10, 11] (.c4 I <| .c2 I .nil) I <| .sr <| .p I (.mv I) <| .p I (.ne I) <| .nil <| .condS I h (fun h => ?_) fun h => ?_
      · refine .sr <| .p I (.mv I) <| .p I (.asg I) <| .nil <| .ret ?_
        cases h
        exact retOne I (.d _)
      · refine .skip <| .region <| .p I (.ad I) <| .p I (.mv I) <| .nil ?_
        exact ⟨_, h, ⟨_, Fz8 I trivial⟩⟩
  · refine .exit <| .seq <| .sr <| .p I (.mv I) <| .p I (.len I U22 I) <| .p I (.mv I) <| .p I (.len I U22 I) <| .p I (.ls I) <| .nil <| .condS I h (fun h => ?_) fun h => ?_
    · refine .sr <| .p I (.asg I) <| .nil <| .ret ?_
      cases h
      exact retOne I (.d _)
    · refine .skip <| .sr <| .p I (.asg I) <| .nil <| .ret ?_
      cases h
      exact retOne I (.d _)
set_option maxHeartbeats 2000000 in
theorem cells_Tuple_ok (n : Nat) (t0 : List Int) (t1 : List Table) (t2 : Bool) (t3 : Int) (r : Int × (List Int) × Bool) (h : cells_Tuple n t0 t1 t2 t3 = some r) : Pure Tryz.prog 223 [.sl 1 (List.map D.int t0), .sl 6 (List.map Table.enc t1), .bool t2, .int t3] (.tup [.int r.1, .sl 1 (List.map D.int r.2.1), .bool r.2.2]) := by
  refine Pure.ot Tryz.func223 I Tryz.ntmps223 I fun A w => .sr <| .p I (.asg I) <| .p I (.nilS 1 (α := Int) D.int I) <| .p I (.asg I) <| .nil <| .seq <| .seq <| .plain 8 I <| .p I (.mv I) <| .p I (.mv I) <| bK h fun x19_1 hx19_1 h => .p I (.call I K94 I (cells_Valid_ok _ _ _ _ hx19_1)) <| .p I (.nt I) <| .p I (.mv I) <| .jOr 2 (b2 := decide (t3 < 0)) I I I I (.inl I) (fun _ _ _ h1 => by cases h1) I I (fun hb_2 => ?_) ?_
  · refine .q I (.mv I) <| .q I (.ls I) ?_
    exact .nil I
  refine .nil <| .nil <| .condS I h (fun h => ?_) fun h => ?_
  · refine .sr <| .p I (.asg I) <| .p I (.nilS 1 (α := Int) D.int I) <| .p I (.asg I) <| .nil <| .ret ?_
    cases h
    exact retThree I I I (.d _) (.d _) (.d _)
  · refine .skip <| .seq <| .sr <| .p I (.mv I) <| .p I (.len I U23 I) <| .p I (.mv I) <| .nil <| .block <| .loopS [0, 2, 3, 25, 26] (fun (v : Int) => [(27, .d (.int v))]) (fun (v : Int) => []) (.c4 I <| .c I .nil) h ⟨_, Fz8 I <| Fz1 I trivial⟩ (fun rec_74 x27_73 h => ?_)
    refine .sr <| .p I (.ls I) <| .nil <| .keep [] [0, 2, 3, 25, 26, 27, 28] (.c4 I <| .c2 I <| .c I .nil) I <| .seq <| .condS I h (fun h => ?_) fun h => ?_
    · refine .skip <| .seq <| .block <| .sr <| .p I (.mv I) <| bK h fun x30_75 hx30_75 h => .p I (.ix I U23 S127 hx30_75) <| .p I (.ld Y127 I) <| .allocZ I I I I (.agg Zc127 (ds' := [.str [], .int 0, .sl 1 (List.map D.int []), .int 0, .int 0, .int 0]) (.cons (.refl _) (.cons (.refl _) (.cons (.nil _) (.cons (.refl _) (.cons (.refl _) (.cons (.refl _) (.nil)))))))) I <| .p I (.asg I) <| .store I I I I I I (.ofD I) C127 I (Nat.le_of_ble_eq_true I) <| .nil <| .sr <| .p I (.mv I) <| .p I (.fieldAddrLoc I I I F127_4) <| .p I (.loadLoc1 I I I Y3 I) <| .p I (.sb I) <| .p I (.asg I) <| .nil <| .seq <| .seq <| .plain 16 I <| .p I (.loadLoc I I I Y127 (Nat.le_of_ble_eq_true I) (v := .d (Table.enc x30_75)) I) <| bK h fun x37_76 hx37_76 h => .p I (.call I K147 I (cells_isStrict_ok _ _ _ hx37_76)) <| .p I (.mv I) <| .p I (.bne I U4 I I) <| .p I (.mv I) <| .jOr 2 (b2 := decide (sub64 t3 x30_75.first < 0)) I I I I (.inl I) (fun _ _ _ h1 => by cases h1) I I (fun hb_77 => ?_) ?_
      · refine .q I (.mv I) <| .q I (.ls I) ?_
        exact .nil I
      refine .p I (.mv I) <| gK h fun hc_79 h => .jOr 6 (b2 := decide (((cells_width n t0 x30_75.columns).getD default) ≤ sub64 t3 x30_75.first)) I I I I (.inl I) (fun _ _ _ h1 => by cases h1) I I (fun hb_78 => ?_) ?_
      · refine .q I (.mv I) <| .q I (.mv I) <| .q I (.fieldAddrLoc I I I F127_2) <| .q I (.loadLoc1 I I I Y22 I) <| .q I (.call I K148 I (cells_width_ok _ _ _ _ (someD (impF hc_79 hb_78)))) <| .q I (.ge I) ?_
        exact .nil I
      refine .nil <| .nil <| .keep [.box 127 [.d (.str x30_75.name), .d (.int x30_75.kind), .d (.sl 1 (List.map D.int x30_75.columns)), .d (.int x30_75.range.lo), .d (.int x30_75.range.hi), .d (.int x30_75.first)]] [0, 2, 3, 11, 12, 13, 25, 26, 27, 51] (.c8 I <| .c2 I .nil) I <| .condS I h (fun h => ?_) fun h => ?_
      · refine .exit <| .region <| .p I (.ad I) <| .p I (.mv I) <| .nil ?_
        exact ⟨_, h, ⟨_, Fz8 I <| Fz1 I trivial⟩⟩
      · refine .skip <| .sr <| .p I (.fieldAddrLoc I I I F127_2) <| .p I (.loadLoc1 I I I Y22 I) <| .p I (.len I U22 I) <| bK h fun x55_80 hx55_80 h => .makeVec (enc := D.int) (z := (0 : Int)) I I I I E22 I I I (.val Zv3) hx55_80 <| .p I (.asg I) <| .nil <| .seq <| .sr <| .p I (.mv I) <| .p I (.lenV I U22 I I I) <| .p I (.sb I) <| .p I (.asg I) <| .nil <| .block <| .loopS [0, 11, 12] (fun (v : (List Int) × Int × Int) => [(13, .d (.int v.2.1)), (14, .vec 1 (List.length v.1)), (15, .d (.int v.2.2))]) (fun (v : (List Int) × Int × Int) => [(1, .vec 3 1 (List.map D.int v.1))]) (.c2 I <| .c I .nil) h ⟨_, Fz8 I <| Fz1 I trivial⟩ (fun rec_102 v h => ?_)
        obtain ⟨b1_99, x13_100, x15_101⟩ := v
        refine .seq <| .sr <| .p I (.mv I) <| .p I (.ge I) <| .nil <| .keep [.box 127 [.d (.str x30_75.name), .d (.int x30_75.kind), .d (.sl 1 (List.map D.int x30_75.columns)), .d (.int x30_75.range.lo), .d (.int x30_75.range.hi), .d (.int x30_75.first)], .vec 3 1 (List.map D.int b1_99)] [0, 11, 12, 13, 14, 15, 60] (.c4 I <| .c2 I <| .c I .nil) I <| .condS I h (fun h => ?_) fun h => ?_
        · refine .skip <| .seq <| .block <| .sr <| .p I (.mv I) <| .p I (.fieldAddrLoc I I I F127_2) <| .p I (.loadLoc1 I I I Y22 I) <| .p I (.mv I) <| bK h fun x67_103 hx67_103 h => .p I (.ix I U22 S3 hx67_103) <| .p I (.ld Y3 I) <| bK h fun x69_104 hx69_104 h => .p I (.ix I U22 S3 hx69_104) <| .p I (.ld Y3 I) <| .p I (.asg I) <| .nil <| .drawF 9 [5, 6, 7] Hm (by kernel_rfl) (by kernel_rfl) <| .p I (.mv I) <| .p I (.mv I) <| .p I (.mv I) <| .p I (.mv I) <| bK h fun x75_105 hx75_105 h => .p I (.rem6 I I I hx75_105) <| .p I (.mv I) <| .p I (.mv I) <| bK h fun x78_106 hx78_106 h => .p I (.quo6 I I I hx78_106) <| bK h fun x79_107 hx79_107 h => .p I (.idxV I I I I I U22 S3 hx79_107) <| .nil ⟨.move I I (.move I I (.ints I I I I (.nil))), ?_⟩
          refine bK h fun b1_108 hb1_108 h => .storeEl (enc := D.int) I I I I I I I I I C3 hb1_108 <| .relen 14 I (sto_len hb1_108) <| .relen 71 I (sto_len hb1_108) <| .p I (.asg I) <| .nil <| .keep [.box 127 [.d (.str x30_75.name), .d (.int x30_75.kind), .d (.sl 1 (List.map D.int x30_75.columns)), .d (.int x30_75.range.lo), .d (.int x30_75.range.hi), .d (.int x30_75.first)], .vec 3 1 (List.map D.int b1_108)] [0, 11, 12, 13, 14, 15] (.c4 I <| .c2 I .nil) I <| .region <| .p I (.mv I) <| .p I (.sb I) <| .p I (.asg I) <| .nil ?_
          exact ⟨_, h, ⟨_, Fz8 I <| Fz1 I trivial⟩⟩
        · refine .exit <| .sr <| .p I (.mv I) <| .p I (.mv I) <| .p I (.asg I) <| .p I (.asg I) <| .p I (.asg I) <| .nil <| .ret ?_
          cases h
          exact retThree I I I (.d _) (.vec I (by simp)) (.d _)
    · refine .exit <| .sr <| .p I (.asg I) <| .p I (.nilS 1 (α := Int) D.int I) <| .p I (.asg I) <| .nil <| .ret ?_
      cases h
      exact retThree I I I (.d _) (.d _) (.d _)
set_option maxHeartbeats 2000000 in
theorem model_judge_update_ok (n : Nat) (t0 : Judge) (t1 : Update) (r : Bool) (h : model_judge_update n t0 t1 = some r) : Pure Tryz.prog 201 [Judge.enc t0, Update.enc t1] (.bool r) := by
  refine Pure.ot Tryz.func201 I Tryz.ntmps201 I fun A w => .sr <| .p I (.bx I) <| .p I (.bx I) <| .p I (.asg I) <| .nil <| .sr <| .p I (.fa I (G136_0 _)) <| .p I (.fa I (G30_0 _)) <| .p I (.ld Y22 I) <| .p I (.fa I (G136_0 _)) <| .p I (.fa I (G30_1 _)) <| .p I (.ld Y23 I) <| .p I (.fa I (G218_1 _)) <| .p I (.ld Y3 I) <| bK h fun x18_1 hx18_1 h => .p I (.call I K223 I (cells_Tuple_ok _ _ _ _ _ _ hx18_1)) <| .p I (.mv I) <| .p I (.extract I I I) <| .p I (.extract I I I) <| .p I (.extract I I I) <| .p I (.asg I) <| .p I (.asg I) <| .p I (.asg I) <| .nil <| .keep [] [2, 3, 5, 7] (.c4 I .nil) I <| .seq <| .sr <| .p I (.mv I) <| .p I (.nt I) <| .nil <| .condS I h (fun h => ?_) fun h => ?_
  · refine .sr <| .p I (.asg I) <| .nil <| .ret ?_
    cases h
    exact retOne I (.d _)
  · refine .skip <| .sr <| .p I (.fa I (G136_0 _)) <| .p I (.fa I (G30_1 _)) <| .p I (.ld Y23 I) <| .p I (.mv I) <| bK h fun x28_2 hx28_2 h => .p I (.ix I U23 S127 hx28_2) <| .p I (.ld Y127 I) <| .allocStore I I I I I I I I (by simp) I I Z127 <| .nil <| .sr <| .p I (.fa I (G127_1 _)) <| .p I (.ld Y3 I) <| .nil <| .block <| .join [3, 8] (fun (v : Bool) => [(51, .d (.bool v))]) (fun (v : Bool) => []) (.c2 I .nil) h (fun k_4 h => ?_) (fun x51_3 h => ?_)
    · refine .sr <| .p I (.eq I) <| .p I (.asg I) <| .nil <| .condS I h (fun h => ?_) fun h => ?_
      · refine .skip ?_
        exact ⟨_, h, ⟨_, Fz4 I <| Fz2 I trivial⟩⟩
      · refine .region <| .p I (.eq I) <| .p I (.asg I) <| .nil ?_
        exact ⟨_, h, ⟨_, Fz4 I <| Fz2 I trivial⟩⟩
    · refine .condS I h (fun h => ?_) fun h => ?_
      · refine .seq <| .plain 13 I <| .p I (.fa I (G218_0 _)) <| .p I (.ld Y3 I) <| .p I (.eq I) <| .p I (.mv I) <| .jOr 3 (b2 := t1.kind == 1) I I I I (.inl I) (fun _ _ _ h1 => by cases h1) I I (fun hb_5 => ?_) ?_
        · refine .q I (.fa I (G218_0 _)) <| .q I (.ld Y3 I) <| .q I (.eq I) ?_
          exact .nil I
        refine .p I (.mv I) <| .jAnd 3 (b2 := t1.value == 0) I I I I (.inl I) (fun _ _ _ h1 => by cases h1) I I (fun hb_6 => ?_) ?_
        · refine .q I (.fa I (G218_2 _)) <| .q I (.ld Y3 I) <| .q I (.eq I) ?_
          exact .nil I
        refine .nil <| .p I (.asg I) <| .nil <| .keep [] [4] (.c I .nil) I <| .ret ?_
        cases h
        exact retOne I (.d _)
      · refine .seq <| .plain 19 I <| .p I (.fa I (G218_0 _)) <| .p I (.ld Y3 I) <| .p I (.eq I) <| .p I (.mv I) <| .jAnd 6 (b2 := decide (x28_2.range.lo ≤ t1.value)) I I I I (.inl I) (fun _ _ _ h1 => by cases h1) I I (fun hb_7 => ?_) ?_
        · refine .q I (.fa I (G218_2 _)) <| .q I (.ld Y3 I) <| .q I (.fa I (G127_3 _)) <| .q I (.fa I (G87_0 _)) <| .q I (.ld Y3 I) <| .q I (.ge I) ?_
          exact .nil I
        refine .p I (.mv I) <| .jAnd 6 (b2 := decide (t1.value ≤ x28_2.range.hi)) I I I I (.inl I) (fun _ _ _ h1 => by cases h1) I I (fun hb_8 => ?_) ?_
        · refine .q I (.fa I (G218_2 _)) <| .q I (.ld Y3 I) <| .q I (.fa I (G127_3 _)) <| .q I (.fa I (G87_1 _)) <| .q I (.ld Y3 I) <| .q I (.le I) ?_
          exact .nil I
        refine .nil <| .p I (.asg I) <| .nil <| .keep [] [4] (.c I .nil) I <| .ret ?_
        cases h
        exact retOne I (.d _)
theorem model_judge_effect_1_ok (n : Nat) (t0 : Row) (t1 : Judge) (r : Bool) (h : model_judge_effect_1 n t0 t1 = some r) : Pure Tryz.prog 202 [Row.enc t0, .ref (Judge.enc t1)] (.bool r) := by
  refine Pure.ot Tryz.func202 I Tryz.ntmps202 I fun A w => .sr <| .p I (.bx I) <| .p I (.asg I) <| .nil <| .sr <| .p I (.ld Y136 I) <| .p I (.ld Y33 I) <| bK h fun x6_1 hx6_1 h => .p I (.call I K151 I (model_judge_row_ok _ _ _ _ hx6_1)) <| .p I (.nt I) <| .p I (.asg I) <| .nil <| .ret ?_
  cases h
  exact retOne I (.d _)
theorem slices_IndexFunc_LRow_api_Row_ok (n : Nat) (t0 : List Row) (t1 : Row → Option Bool) (F1 : D) (hF1 : ∀ (q0 : Row) (y : Bool), t1 q0 = some y → Dyn Tryz.prog F1 [Row.enc q0] (.bool y)) (r : Int) (h : slices_IndexFunc_LRow_api_Row n t0 t1 = some r) : Pure Tryz.prog 213 [.sl 2 (List.map Row.enc t0), F1] (.int r) := by
  refine Pure.ot Tryz.func213 I Tryz.ntmps213 I fun A w => .sr <| .p I (.asg I) <| .nil <| .seq <| .sr <| .p I (.mv I) <| .p I (.len I U49 I) <| .p I (.mv I) <| .nil <| .block <| .loopS [0, 1, 7] (fun (v : Int) => [(8, .d (.int v))]) (fun (v : Int) => []) (.c2 I <| .c I .nil) h ⟨_, Fz4 I <| Fz2 I <| Fz1 I trivial⟩ (fun rec_8 x8_7 h => ?_)
  refine .sr <| .p I (.ls I) <| .nil <| .keep [] [0, 1, 7, 8, 9] (.c4 I <| .c I .nil) I <| .seq <| .condS I h (fun h => ?_) fun h => ?_
  · refine .skip <| .seq <| .block <| .sr <| .p I (.mv I) <| .p I (.asg I) <| .nil <| .sr <| .p I (.mv I) <| .p I (.mv I) <| .p I (.mv I) <| bK h fun x14_9 hx14_9 h => .p I (.ix I U49 S33 hx14_9) <| .p I (.ld Y33 I) <| bK h fun x16_10 hx16_10 h => .p I (.dyn I I I (hF1 _ _ hx16_10)) <| .nil <| .condS I h (fun h => ?_) fun h => ?_
    · refine .sr <| .p I (.mv I) <| .p I (.asg I) <| .nil <| .ret ?_
      cases h
      exact retOne I (.d _)
    · refine .skip <| .region <| .p I (.ad I) <| .p I (.mv I) <| .nil ?_
      exact ⟨_, h, ⟨_, Fz4 I <| Fz2 I <| Fz1 I trivial⟩⟩
  · refine .exit <| .sr <| .p I (.asg I) <| .nil <| .ret ?_
    cases h
    exact retOne I (.d _)
theorem slices_ContainsFunc_LRow_api_Row_ok (n : Nat) (t0 : List Row) (t1 : Row → Option Bool) (F1 : D) (hF1 : ∀ (q0 : Row) (y : Bool), t1 q0 = some y → Dyn Tryz.prog F1 [Row.enc q0] (.bool y)) (r : Bool) (h : slices_ContainsFunc_LRow_api_Row n t0 t1 = some r) : Pure Tryz.prog 176 [.sl 2 (List.map Row.enc t0), F1] (.bool r) := by
  refine Pure.ot Tryz.func176 I Tryz.ntmps176 I fun A w => .sr <| .p I (.asg I) <| .nil <| .sr <| .p I (.mv I) <| .p I (.mv I) <| bK h fun x7_1 hx7_1 h => .p I (.call I K213 I (slices_IndexFunc_LRow_api_Row_ok _ _ _ _ hF1 _ hx7_1)) <| .p I (.ge I) <| .p I (.asg I) <| .nil <| .ret ?_
  cases h
  exact retOne I (.d _)
set_option maxHeartbeats 2000000 in
theorem model_judge_effect_ok (n : Nat) (t0 : Judge) (t1 : Effect) (r : Bool) (h : model_judge_effect n t0 t1 = some r) : Pure Tryz.prog 158 [Judge.enc t0, Effect.enc t1] (.bool r) := by
  refine Pure.ot Tryz.func158 I Tryz.ntmps158 I fun A w => .sr <| .p I (.bx I) <| .p I (.bx I) <| .p I (.asg I) <| .nil <| .sr <| .p I (.asg I) <| .nil <| .seq <| .sr <| .p I (.fa I (G82_0 _)) <| .p I (.ld Y79 I) <| .p I (.len I U79 I) <| .p I (.mv I) <| .nil <| .block <| .loopS [2, 3, 11, 12] (fun (v : Int × Int) => [(5, .d (.int v.1)), (13, .d (.int v.2))]) (fun (v : Int × Int) => []) (.c4 I .nil) h ⟨_, Fz8 I <| Fz1 I trivial⟩ (fun rec_17 v h => ?_)
  obtain ⟨x5_15, x13_16⟩ := v
  refine .sr <| .p I (.ls I) <| .nil <| .keep [] [2, 3, 5, 11, 12, 13, 14] (.c4 I <| .c2 I <| .c I .nil) I <| .seq <| .condS I h (fun h => ?_) fun h => ?_
  · refine .skip <| .seq <| .block <| .sr <| bK h fun x15_18 hx15_18 h => .p I (.ix I U79 S131 hx15_18) <| .p I (.ld Y131 I) <| .allocStore I I I I I I I I (by simp) I I Z131 <| .nil <| .seq <| .seq <| .plain 23 I <| .p I (.fa I (G131_0 _)) <| .p I (.ld Y3 I) <| .p I (.mv I) <| .p I (.le I) <| .p I (.mv I) <| .jOr 6 (b2 := decide ((t0.strict.length : Int) ≤ x15_18.cell)) I I I I (.inl I) (fun _ _ _ h1 => by cases h1) I I (fun hb_19 => ?_) ?_
    · refine .q I (.fa I (G131_0 _)) <| .q I (.ld Y3 I) <| .q I (.fa I (G136_1 _)) <| .q I (.ld Y48 I) <| .q I (.len I U48 I) <| .q I (.ge I) ?_
      exact .nil I
    refine .p I (.mv I) <| .jOr 3 (b2 := x15_18.add == 0) I I I I (.inl I) (fun _ _ _ h1 => by cases h1) I I (fun hb_20 => ?_) ?_
    · refine .q I (.fa I (G131_1 _)) <| .q I (.ld Y3 I) <| .q I (.eq I) ?_
      exact .nil I
    refine .p I (.mv I) <| gK h fun hc_22 h => .jOr 4 (b2 := !((model_around n x15_18.add 1000000000).getD default)) I I I I (.inl I) (fun _ _ _ h1 => by cases h1) I I (fun hb_21 => ?_) ?_
    · refine .q I (.fa I (G131_1 _)) <| .q I (.ld Y3 I) <| .q I (.call I K156 I (model_around_ok _ _ _ _ (someD (impF hc_22 hb_21)))) <| .q I (.nt I) ?_
      exact .nil I
    refine .nil <| .nil <| .keep [] [2, 3, 7, 11, 12, 13, 39] (.c4 I <| .c2 I <| .c I .nil) I <| .condS I h (fun h => ?_) fun h => ?_
    · refine .sr <| .p I (.asg I) <| .nil <| .ret ?_
      cases h
      exact retOne I (.d _)
    · refine .skip <| .region <| .p I (.fa I (G131_0 _)) <| .p I (.ld Y3 I) <| .p I (.asg I) <| .nil <| .region <| .p I (.ad I) <| .p I (.mv I) <| .nil ?_
      exact ⟨_, h, ⟨_, Fz8 I <| Fz1 I trivial⟩⟩
  · refine .exit <| .sr <| .p I (.asg I) <| .nil <| .seq <| .sr <| .p I (.fa I (G82_2 _)) <| .p I (.ld Y80 I) <| .p I (.len I U80 I) <| .p I (.mv I) <| .nil <| .block <| .loopS [2, 3, 44, 45] (fun (v : Int × Int) => [(5, .d (.int v.1)), (46, .d (.int v.2))]) (fun (v : Int × Int) => []) (.c4 I .nil) h ⟨_, Fz8 I <| Fz1 I trivial⟩ (fun rec_35 v h => ?_)
    obtain ⟨x5_33, x46_34⟩ := v
    refine .sr <| .p I (.ls I) <| .nil <| .keep [] [2, 3, 5, 44, 45, 46, 47] (.c4 I <| .c2 I <| .c I .nil) I <| .seq <| .condS I h (fun h => ?_) fun h => ?_
    · refine .skip <| .seq <| .block <| .sr <| bK h fun x48_36 hx48_36 h => .p I (.ix I U80 S218 hx48_36) <| .p I (.ld Y218 I) <| .allocStore I I I I I I I I (by simp) I I Z218 <| .nil <| .seq <| .seq <| .plain 10 I <| .p I (.fa I (G218_1 _)) <| .p I (.ld Y3 I) <| .p I (.mv I) <| .p I (.le I) <| .p I (.mv I) <| gK h fun hc_38 h => .jOr 4 (b2 := !((model_judge_update n t0 x48_36).getD default)) I I I I (.inl I) (fun _ _ _ h1 => by cases h1) I I (fun hb_37 => ?_) ?_
      · refine .q I (.ld Y136 I) <| .q I (.ld Y218 I) <| .q I (.call I K201 I (model_judge_update_ok _ _ _ _ (someD (impF hc_38 hb_37)))) <| .q I (.nt I) ?_
        exact .nil I
      refine .nil <| .nil <| .condS I h (fun h => ?_) fun h => ?_
      · refine .sr <| .p I (.asg I) <| .nil <| .ret ?_
        cases h
        exact retOne I (.d _)
      · refine .skip <| .region <| .p I (.fa I (G218_1 _)) <| .p I (.ld Y3 I) <| .p I (.asg I) <| .nil <| .keep [] [2, 3, 5, 44, 45, 46] (.c4 I <| .c2 I .nil) I <| .region <| .p I (.ad I) <| .p I (.mv I) <| .nil ?_
        exact ⟨_, h, ⟨_, Fz8 I <| Fz1 I trivial⟩⟩
    · refine .exit <| .seq <| .plain 17 I <| .p I (.fa I (G82_1 _)) <| .p I (.ld Y49 I) <| .p I (.len I U49 I) <| .p I (.le I) <| .p I (.mv I) <| .jAnd 4 (b2 := decide ((t1.updates.length : Int) ≤ 32)) I I I I (.inl I) (fun _ _ _ h1 => by cases h1) I I (fun hb_39 => ?_) ?_
      · refine .q I (.fa I (G82_2 _)) <| .q I (.ld Y80 I) <| .q I (.len I U80 I) <| .q I (.le I) ?_
        exact .nil I
      refine .p I (.mv I) <| gK h fun hc_41 h => .jAnd 5 (b2 := !((slices_ContainsFunc_LRow_api_Row n t1.hold (fun q0 => model_judge_effect_1 n q0 t0)).getD default)) I I I I (.inl I) (fun _ _ _ h1 => by cases h1) I I (fun hb_40 => ?_) ?_
      · refine .q I (.fa I (G82_1 _)) <| .q I (.ld Y49 I) <| .q I (.makeFunc I I) <| .q I (.call I K176 I (slices_ContainsFunc_LRow_api_Row_ok _ _ _ _ (fun q0 y hq => ⟨_, _, I, K202, model_judge_effect_1_ok _ q0 _ _ hq⟩) _ (someD (impT hc_41 hb_40)))) <| .q I (.nt I) ?_
        exact .nil I
      refine .nil <| .p I (.asg I) <| .nil <| .keep [] [4] (.c I .nil) I <| .ret ?_
      cases h
      exact retOne I (.d _)
set_option maxHeartbeats 2000000 in
theorem model_judge_actions_ok (n : Nat) (t0 : Judge) (r : Bool) (h : model_judge_actions n t0 = some r) : Pure Tryz.prog 99 [Judge.enc t0] (.bool r) := by
  refine Pure.ot Tryz.func99 I Tryz.ntmps99 I fun A w => .sr <| .p I (.bx I) <| .p I (.asg I) <| .nil <| .seq <| .sr <| .p I (.fa I (G136_0 _)) <| .p I (.fa I (G30_5 _)) <| .p I (.ld Y27 I) <| .p I (.len I U27 I) <| .p I (.gt I) <| .nil <| .condS I h (fun h => ?_) fun h => ?_
  · refine .sr <| .p I (.asg I) <| .nil <| .ret ?_
    cases h
    exact retOne I (.d _)
  · refine .skip <| .seq <| .sr <| .p I (.fa I (G136_0 _)) <| .p I (.fa I (G30_5 _)) <| .p I (.ld Y27 I) <| .p I (.len I U27 I) <| .p I (.mv I) <| .nil <| .block <| .loopS [1, 16, 17] (fun (v : Int) => [(18, .d (.int v))]) (fun (v : Int) => []) (.c2 I <| .c I .nil) h ⟨_, Fz4 I <| Fz2 I <| Fz1 I trivial⟩ (fun rec_82 x18_81 h => ?_)
    refine .sr <| .p I (.ls I) <| .nil <| .keep [] [1, 16, 17, 18, 19] (.c4 I <| .c I .nil) I <| .seq <| .condS I h (fun h => ?_) fun h => ?_
    · refine .skip <| .seq <| .block <| .sr <| .p I (.mv I) <| bK h fun x21_83 hx21_83 h => .p I (.ix I U27 S84 hx21_83) <| .p I (.ld Y84 I) <| .allocZ I I I I (.agg Zc84 (ds' := [.int 0, .sl 1 (List.map D.int []), .sl 2 (List.map Change.enc []), .sl 2 (List.map Row.enc []), .sl 3 (List.map Update.enc [])]) (.cons (.refl _) (.cons (.nil _) (.cons (.nil _) (.cons (.nil _) (.cons (.nil _) (.nil))))))) I <| .p I (.asg I) <| .store I I I I I I (.ofD I) C84 I (Nat.le_of_ble_eq_true I) <| .nil <| .seq <| .seq <| .draw 23 Hm (by kernel_rfl) (by kernel_rfl) <| .p I (.fieldAddrLoc I I I F84_0) <| .p I (.loadLoc1 I I I Y3 I) <| .p I (.fa I (G136_0 _)) <| .p I (.fa I (G30_4 _)) <| .p I (.ld Y26 I) <| .p I (.len I U26 I) <| bK h fun x29_84 hx29_84 h => .p I (.call I K150 I (model_index_ok _ _ _ _ hx29_84)) <| .p I (.nt I) <| .p I (.mv I) <| gK h fun hc_86 h => .jOr 13 (b2 := (x21_83.arguments.length : Int) != ((((idx t0.model.operations x21_83.operation).getD default).sorts).length : Int)) I I I I (.inl I) (fun _ _ _ h1 => by cases h1) I I (fun hb_85 => ?_) ?_
      · refine .q I (.fieldAddrLoc I I I F84_1) <| .q I (.loadLoc1 I I I Y22 I) <| .q I (.len I U22 I) <| .q I (.fa I (G136_0 _)) <| .q I (.fa I (G30_4 _)) <| .q I (.ld Y26 I) <| .q I (.fieldAddrLoc I I I F84_0) <| .q I (.loadLoc1 I I I Y3 I) <| .q I (.ix I U26 S129 (someD (impF hc_86 hb_85))) <| .q I (.fa I (G129_2 _)) <| .q I (.ld Y22 I) <| .q I (.len I U22 I) <| .q I (.ne I) ?_
        exact .nil I
      refine .nil <| .nil <| .keep [.box 84 [.d (.int x21_83.operation), .d (.sl 1 (List.map D.int x21_83.arguments)), .d (.sl 2 (List.map Change.enc x21_83.effect.delta)), .d (.sl 2 (List.map Row.enc x21_83.effect.hold)), .d (.sl 3 (List.map Update.enc x21_83.effect.updates))]] [1, 3, 4, 16, 17, 18, 45] (.c4 I <| .c2 I <| .c I .nil) I <| .condS I h (fun h => ?_) fun h => ?_
      · refine .sr <| .p I (.asg I) <| .nil <| .ret ?_
        cases h
        exact retOne I (.d _)
      · refine .skip <| .seq <| .sr <| .p I (.fa I (G136_0 _)) <| .p I (.fa I (G30_4 _)) <| .p I (.ld Y26 I) <| .p I (.fieldAddrLoc I I I F84_0) <| .p I (.loadLoc1 I I I Y3 I) <| bK h fun x51_87 hx51_87 h => .p I (.ix I U26 S129 hx51_87) <| .p I (.fa I (G129_2 _)) <| .p I (.ld Y22 I) <| .p I (.len I U22 I) <| .p I (.mv I) <| .nil <| .block <| .loopS [1, 3, 4, 16, 17, 18, 53, 54] (fun (v : Int) => [(55, .d (.int v))]) (fun (v : Int) => []) (.c8 I .nil) h ⟨_, Fz8 I <| Fz4 I trivial⟩ (fun rec_107 x55_106 h => ?_)
        refine .sr <| .p I (.ls I) <| .nil <| .keep [.box 84 [.d (.int x21_83.operation), .d (.sl 1 (List.map D.int x21_83.arguments)), .d (.sl 2 (List.map Change.enc x21_83.effect.delta)), .d (.sl 2 (List.map Row.enc x21_83.effect.hold)), .d (.sl 3 (List.map Update.enc x21_83.effect.updates))]] [1, 3, 4, 16, 17, 18, 53, 54, 55, 56] (.c8 I <| .c2 I .nil) I <| .seq <| .condS I h (fun h => ?_) fun h => ?_
        · refine .skip <| .seq <| .block <| .sr <| .p I (.mv I) <| bK h fun x58_108 hx58_108 h => .p I (.ix I U22 S3 hx58_108) <| .p I (.ld Y3 I) <| .p I (.asg I) <| .p I (.asg I) <| .nil <| .sr <| .p I (.fieldAddrLoc I I I F84_1) <| .p I (.loadLoc1 I I I Y22 I) <| .p I (.mv I) <| bK h fun x63_109 hx63_109 h => .p I (.ix I U22 S3 hx63_109) <| .p I (.ld Y3 I) <| .p I (.asg I) <| .nil <| .seq <| .plain 22 I <| .p I (.mv I) <| .p I (.ls I) <| .p I (.mv I) <| gK h fun hc_111 h => .jAnd 3 (b2 := !((model_around n x63_109 9999).getD default)) I I I I (.inl I) (fun _ _ _ h1 => by cases h1) I I (fun hb_110 => ?_) ?_
          · refine .q I (.mv I) <| .q I (.call I K156 I (model_around_ok _ _ _ _ (someD (impT hc_111 hb_110)))) <| .q I (.nt I) ?_
            exact .nil I
          refine .p I (.mv I) <| gK h fun hc_114 h => gK h fun hc_115 h => .jOr 13 (b2 := (decide (0 ≤ x58_108)) && (!((model_index n x63_109 ((idx t0.model.sorts x58_108).getD default)).getD default))) I I I I (.inl I) (fun _ _ _ h1 => by cases h1) I I (fun hb_112 => ?_) ?_
          · refine .q I (.mv I) <| .q I (.ge I) <| .q I (.mv I) <| .jAnd 9 (b2 := !((model_index n x63_109 ((idx t0.model.sorts x58_108).getD default)).getD default)) I I I I (.inr ⟨_, _, _, I, I, I⟩) (fun _ _ _ h1 h2 => by cases h1; cases h2; decide) I I (fun hb_113 => ?_) ?_
            · refine .q I (.mv I) <| .q I (.fa I (G136_0 _)) <| .q I (.fa I (G30_0 _)) <| .q I (.ld Y22 I) <| .q I (.mv I) <| .q I (.ix I U22 S3 (someD (impT (impF hc_114 hb_112) hb_113))) <| .q I (.ld Y3 I) <| .q I (.call I K150 I (model_index_ok _ _ _ _ (someD (impT (impF hc_115 hb_112) hb_113)))) <| .q I (.nt I) ?_
              exact .nil I
            exact .nil I
          refine .nil <| .nil <| .keep [.box 84 [.d (.int x21_83.operation), .d (.sl 1 (List.map D.int x21_83.arguments)), .d (.sl 2 (List.map Change.enc x21_83.effect.delta)), .d (.sl 2 (List.map Row.enc x21_83.effect.hold)), .d (.sl 3 (List.map Update.enc x21_83.effect.updates))]] [1, 3, 4, 16, 17, 18, 53, 54, 55, 86] (.c8 I <| .c2 I .nil) I <| .condS I h (fun h => ?_) fun h => ?_
          · refine .sr <| .p I (.asg I) <| .nil <| .ret ?_
            cases h
            exact retOne I (.d _)
          · refine .skip <| .region <| .p I (.ad I) <| .p I (.mv I) <| .nil ?_
            exact ⟨_, h, ⟨_, Fz8 I <| Fz4 I trivial⟩⟩
        · refine .exit <| .join [1, 4, 16, 17, 18] (fun (v : Unit) => []) (fun (v : Unit) => []) (.c4 I <| .c I .nil) h (fun k_116 h => ?_) (fun v h => ?_)
          · refine .sr <| .p I (.mv I) <| .p I (.gt I) <| .nil <| .condS I h (fun h => ?_) fun h => ?_
            · refine .sr <| .p I (.fa I (G136_0 _)) <| .p I (.fa I (G30_5 _)) <| .p I (.ld Y27 I) <| .p I (.mv I) <| .p I (.sb I) <| bK h fun x95_117 hx95_117 h => .p I (.ix I U27 S84 hx95_117) <| .p I (.ld Y84 I) <| .allocStore I I I I I I I I (by simp) I I Z84 <| .nil <| .seq <| .plain 20 I <| .p I (.fa I (G84_0 _)) <| .p I (.ld Y3 I) <| .p I (.fieldAddrLoc I I I F84_0) <| .p I (.loadLoc1 I I I Y3 I) <| .p I (.gt I) <| .p I (.mv I) <| gK h fun hc_120 h => .jOr 13 (b2 := (x95_117.operation == x21_83.operation) && (decide (0 ≤ ((slices_Compare_Lint_int n x95_117.arguments x21_83.arguments).getD default)))) I I I I (.inl I) (fun _ _ _ h1 => by cases h1) I I (fun hb_118 => ?_) ?_
              · refine .q I (.fa I (G84_0 _)) <| .q I (.ld Y3 I) <| .q I (.fieldAddrLoc I I I F84_0) <| .q I (.loadLoc1 I I I Y3 I) <| .q I (.eq I) <| .q I (.mv I) <| .jAnd 6 (b2 := decide (0 ≤ ((slices_Compare_Lint_int n x95_117.arguments x21_83.arguments).getD default))) I I I I (.inr ⟨_, _, _, I, I, I⟩) (fun _ _ _ h1 h2 => by cases h1; cases h2; decide) I I (fun hb_119 => ?_) ?_
                · refine .q I (.fa I (G84_1 _)) <| .q I (.ld Y22 I) <| .q I (.fieldAddrLoc I I I F84_1) <| .q I (.loadLoc1 I I I Y22 I) <| .q I (.call I K157 I (slices_Compare_Lint_int_ok _ _ _ _ (someD (impT (impF hc_120 hb_118) hb_119)))) <| .q I (.ge I) ?_
                  exact .nil I
                exact .nil I
              refine .nil <| .nil <| .keep [.box 84 [.d (.int x21_83.operation), .d (.sl 1 (List.map D.int x21_83.arguments)), .d (.sl 2 (List.map Change.enc x21_83.effect.delta)), .d (.sl 2 (List.map Row.enc x21_83.effect.hold)), .d (.sl 3 (List.map Update.enc x21_83.effect.updates))]] [1, 4, 16, 17, 18, 116] (.c4 I <| .c2 I .nil) I <| .condS I h (fun h => ?_) fun h => ?_
              · refine .sr <| .p I (.asg I) <| .nil <| .ret ?_
                cases h
                exact retOne I (.d _)
              · refine .skip ?_
                exact ⟨_, h, ⟨_, Fz8 I trivial⟩⟩
            · refine .skip ?_
              exact ⟨_, h, ⟨_, Fz8 I trivial⟩⟩
          · refine .sr <| .p I (.ld Y136 I) <| .p I (.fieldAddrLoc I I I F84_2) <| .p I (.loadLoc I I I Y82 (Nat.le_of_ble_eq_true I) (v := .d (Effect.enc x21_83.effect)) I) <| bK h fun x120_121 hx120_121 h => .p I (.call I K158 I (model_judge_effect_ok _ _ _ _ hx120_121)) <| .p I (.nt I) <| .nil <| .keep [.box 84 [.d (.int x21_83.operation), .d (.sl 1 (List.map D.int x21_83.arguments)), .d (.sl 2 (List.map Change.enc x21_83.effect.delta)), .d (.sl 2 (List.map Row.enc x21_83.effect.hold)), .d (.sl 3 (List.map Update.enc x21_83.effect.updates))]] [1, 16, 17, 18, 121] (.c4 I <| .c I .nil) I <| .condS I h (fun h => ?_) fun h => ?_
            · refine .sr <| .p I (.asg I) <| .nil <| .ret ?_
              cases h
              exact retOne I (.d _)
            · refine .skip <| .region <| .p I (.ad I) <| .p I (.mv I) <| .nil ?_
              exact ⟨_, h, ⟨_, Fz4 I <| Fz2 I <| Fz1 I trivial⟩⟩
    · refine .exit <| .sr <| .p I (.asg I) <| .nil <| .ret ?_
      cases h
      exact retOne I (.d _)
theorem model_judge_hidden_1_ok (n : Nat) (t0 : Hide) (t1 : Int) (t2 : GMap Int Bool) (r : Bool) (h : model_judge_hidden_1 n t0 t1 t2 = some r) : Pure Tryz.prog 160 [Hide.enc t0, .ref (.int t1), .ref (GMap.dat (fun n : Int => Value.int .i64 n) D.bool t2)] (.bool r) := by
  refine Pure.ot Tryz.func160 I Tryz.ntmps160 I fun A w => .sr <| .p I (.bx I) <| .p I (.asg I) <| .nil <| .seq <| .plain 10 I <| .p I (.fa I (G179_0 _)) <| .p I (.ld Y3 I) <| .p I (.ld Y3 I) <| .p I (.eq I) <| .p I (.mv I) <| .jAnd 4 (b2 := (t2.get? t0.to).getD false) I I I I (.inl I) (fun _ _ _ h1 => by cases h1) I I (fun hb_1 => ?_) ?_
  · refine .q I (.ld Y180 I) <| .q I (.fa I (G179_2 _)) <| .q I (.ld Y3 I) <| .q I (.mapGetD (ke := (fun n : Int => Value.int .i64 n)) (ve := D.bool) I U180 KT3 I I (z := (false : Bool)) (.val Zv4)) ?_
    exact .nil I
  refine .nil <| .p I (.asg I) <| .nil <| .ret ?_
  cases h
  exact retOne I (.d _)
theorem slices_IndexFunc_LHide_api_Hide_ok (n : Nat) (t0 : List Hide) (t1 : Hide → Option Bool) (F1 : D) (hF1 : ∀ (q0 : Hide) (y : Bool), t1 q0 = some y → Dyn Tryz.prog F1 [Hide.enc q0] (.bool y)) (r : Int) (h : slices_IndexFunc_LHide_api_Hide n t0 t1 = some r) : Pure Tryz.prog 203 [.sl 3 (List.map Hide.enc t0), F1] (.int r) := by
  refine Pure.ot Tryz.func203 I Tryz.ntmps203 I fun A w => .sr <| .p I (.asg I) <| .nil <| .seq <| .sr <| .p I (.mv I) <| .p I (.len I U28 I) <| .p I (.mv I) <| .nil <| .block <| .loopS [0, 1, 7] (fun (v : Int) => [(8, .d (.int v))]) (fun (v : Int) => []) (.c2 I <| .c I .nil) h ⟨_, Fz4 I <| Fz2 I <| Fz1 I trivial⟩ (fun rec_8 x8_7 h => ?_)
  refine .sr <| .p I (.ls I) <| .nil <| .keep [] [0, 1, 7, 8, 9] (.c4 I <| .c I .nil) I <| .seq <| .condS I h (fun h => ?_) fun h => ?_
  · refine .skip <| .seq <| .block <| .sr <| .p I (.mv I) <| .p I (.asg I) <| .nil <| .sr <| .p I (.mv I) <| .p I (.mv I) <| .p I (.mv I) <| bK h fun x14_9 hx14_9 h => .p I (.ix I U28 S179 hx14_9) <| .p I (.ld Y179 I) <| bK h fun x16_10 hx16_10 h => .p I (.dyn I I I (hF1 _ _ hx16_10)) <| .nil <| .condS I h (fun h => ?_) fun h => ?_
    · refine .sr <| .p I (.mv I) <| .p I (.asg I) <| .nil <| .ret ?_
      cases h
      exact retOne I (.d _)
    · refine .skip <| .region <| .p I (.ad I) <| .p I (.mv I) <| .nil ?_
      exact ⟨_, h, ⟨_, Fz4 I <| Fz2 I <| Fz1 I trivial⟩⟩
  · refine .exit <| .sr <| .p I (.asg I) <| .nil <| .ret ?_
    cases h
    exact retOne I (.d _)
theorem slices_ContainsFunc_LHide_api_Hide_ok (n : Nat) (t0 : List Hide) (t1 : Hide → Option Bool) (F1 : D) (hF1 : ∀ (q0 : Hide) (y : Bool), t1 q0 = some y → Dyn Tryz.prog F1 [Hide.enc q0] (.bool y)) (r : Bool) (h : slices_ContainsFunc_LHide_api_Hide n t0 t1 = some r) : Pure Tryz.prog 159 [.sl 3 (List.map Hide.enc t0), F1] (.bool r) := by
  refine Pure.ot Tryz.func159 I Tryz.ntmps159 I fun A w => .sr <| .p I (.asg I) <| .nil <| .sr <| .p I (.mv I) <| .p I (.mv I) <| bK h fun x7_1 hx7_1 h => .p I (.call I K203 I (slices_IndexFunc_LHide_api_Hide_ok _ _ _ _ hF1 _ hx7_1)) <| .p I (.ge I) <| .p I (.asg I) <| .nil <| .ret ?_
  cases h
  exact retOne I (.d _)
set_option maxHeartbeats 2000000 in
theorem model_judge_hidden_ok (n : Nat) (t0 : Judge) (r : Bool) (h : model_judge_hidden n t0 = some r) : Pure Tryz.prog 100 [Judge.enc t0] (.bool r) := by
  refine Pure.ot Tryz.func100 I Tryz.ntmps100 I fun A w => .sr <| .p I (.bx I) <| .p I (.asg I) <| .nil <| .seq <| .sr <| .p I (.fa I (G136_0 _)) <| .p I (.fa I (G30_6 _)) <| .p I (.ld Y28 I) <| .p I (.len I U28 I) <| .p I (.gt I) <| .nil <| .condS I h (fun h => ?_) fun h => ?_
  · refine .sr <| .p I (.asg I) <| .nil <| .ret ?_
    cases h
    exact retOne I (.d _)
  · refine .skip <| .seq <| .sr <| .p I (.fa I (G136_0 _)) <| .p I (.fa I (G30_6 _)) <| .p I (.ld Y28 I) <| .p I (.len I U28 I) <| .p I (.mv I) <| .nil <| .block <| .loopS [1, 18, 19] (fun (v : Int) => [(20, .d (.int v))]) (fun (v : Int) => []) (.c2 I <| .c I .nil) h ⟨_, Fz4 I <| Fz2 I <| Fz1 I trivial⟩ (fun rec_32 x20_31 h => ?_)
    refine .sr <| .p I (.ls I) <| .nil <| .keep [] [1, 18, 19, 20, 21] (.c4 I <| .c I .nil) I <| .seq <| .condS I h (fun h => ?_) fun h => ?_
    · refine .skip <| .seq <| .block <| .sr <| bK h fun x22_33 hx22_33 h => .p I (.ix I U28 S179 hx22_33) <| .p I (.ld Y179 I) <| .allocStore I I I I I I I I (by simp) I I Z179 <| .nil <| .seq <| .seq <| .plain 25 I <| .p I (.fa I (G179_0 _)) <| .p I (.ld Y3 I) <| .p I (.fa I (G136_0 _)) <| .p I (.fa I (G30_1 _)) <| .p I (.ld Y23 I) <| .p I (.len I U23 I) <| bK h fun x30_34 hx30_34 h => .p I (.call I K150 I (model_index_ok _ _ _ _ hx30_34)) <| .p I (.nt I) <| .p I (.mv I) <| gK h fun hc_36 h => .jOr 8 (b2 := !((model_index n x22_33.to (t0.model.tables.length : Int)).getD default)) I I I I (.inl I) (fun _ _ _ h1 => by cases h1) I I (fun hb_35 => ?_) ?_
      · refine .q I (.fa I (G179_2 _)) <| .q I (.ld Y3 I) <| .q I (.fa I (G136_0 _)) <| .q I (.fa I (G30_1 _)) <| .q I (.ld Y23 I) <| .q I (.len I U23 I) <| .q I (.call I K150 I (model_index_ok _ _ _ _ (someD (impF hc_36 hb_35)))) <| .q I (.nt I) ?_
        exact .nil I
      refine .p I (.mv I) <| .jOr 5 (b2 := x22_33.table == x22_33.to) I I I I (.inl I) (fun _ _ _ h1 => by cases h1) I I (fun hb_37 => ?_) ?_
      · refine .q I (.fa I (G179_0 _)) <| .q I (.ld Y3 I) <| .q I (.fa I (G179_2 _)) <| .q I (.ld Y3 I) <| .q I (.eq I) ?_
        exact .nil I
      refine .nil <| .nil <| .keep [] [1, 4, 18, 19, 20, 48] (.c4 I <| .c2 I .nil) I <| .condS I h (fun h => ?_) fun h => ?_
      · refine .sr <| .p I (.asg I) <| .nil <| .ret ?_
        cases h
        exact retOne I (.d _)
      · refine .skip <| .seq <| .draw 18 Hm (by kernel_rfl) (by kernel_rfl) <| .p I (.fa I (G136_0 _)) <| .p I (.fa I (G30_1 _)) <| .p I (.ld Y23 I) <| .p I (.fa I (G179_0 _)) <| .p I (.ld Y3 I) <| bK h fun x54_38 hx54_38 h => .p I (.ix I U23 S127 hx54_38) <| .p I (.ld Y127 I) <| .p I (.fa I (G136_0 _)) <| .p I (.fa I (G30_1 _)) <| .p I (.ld Y23 I) <| .p I (.fa I (G179_2 _)) <| .p I (.ld Y3 I) <| bK h fun x61_39 hx61_39 h => .p I (.ix I U23 S127 hx61_39) <| .p I (.ld Y127 I) <| .alloc I I I I ZZ127 <| .alloc I I I I ZZ127 <| .store I I I I I I Z127 <| .store I I I I I I Z127 <| .nil <| .freezes [0, 1] (.cons (t := 5) (d := .ref (Table.enc x54_38)) I (.loc (inIds I) I (.cons (.d _) (.cons (.d _) (.cons (.d _) (.cons (.d _) (.cons (.d _) (.cons (.d _) (.nil)))))))) (.cons (t := 6) (d := .ref (Table.enc x61_39)) I (.loc (inIds I) I (.cons (.d _) (.cons (.d _) (.cons (.d _) (.cons (.d _) (.cons (.d _) (.cons (.d _) (.nil)))))))) (.nil))) <| .nil <| .keep [.dead, .dead] [1, 4, 5, 6, 18, 19, 20] (.c4 I <| .c2 I <| .c I .nil) I <| .seq <| .draw 36 Hm (by kernel_rfl) (by kernel_rfl) <| .p I (.fa I (G127_1 _)) <| .p I (.ld Y3 I) <| .p I (.ne I) <| .p I (.mv I) <| .jOr 3 (b2 := x61_39.kind != 0) I I I I (.inl I) (fun _ _ _ h1 => by cases h1) I I (fun hb_40 => ?_) ?_
        · refine .q I (.fa I (G127_1 _)) <| .q I (.ld Y3 I) <| .q I (.ne I) ?_
          exact .nil I
        refine .p I (.mv I) <| gK h fun hc_42 h => .jOr 7 (b2 := !((model_index n x22_33.column (x54_38.columns.length : Int)).getD default)) I I I I (.inl I) (fun _ _ _ h1 => by cases h1) I I (fun hb_41 => ?_) ?_
        · refine .q I (.fa I (G179_1 _)) <| .q I (.ld Y3 I) <| .q I (.fa I (G127_2 _)) <| .q I (.ld Y22 I) <| .q I (.len I U22 I) <| .q I (.call I K150 I (model_index_ok _ _ _ _ (someD (impF hc_42 hb_41)))) <| .q I (.nt I) ?_
          exact .nil I
        refine .p I (.mv I) <| .jOr 4 (b2 := (x61_39.columns.length : Int) != 1) I I I I (.inl I) (fun _ _ _ h1 => by cases h1) I I (fun hb_43 => ?_) ?_
        · refine .q I (.fa I (G127_2 _)) <| .q I (.ld Y22 I) <| .q I (.len I U22 I) <| .q I (.ne I) ?_
          exact .nil I
        refine .p I (.mv I) <| gK h fun hc_45 h => gK h fun hc_46 h => .jOr 11 (b2 := ((idx x61_39.columns 0).getD default) != ((idx x54_38.columns x22_33.column).getD default)) I I I I (.inl I) (fun _ _ _ h1 => by cases h1) I I (fun hb_44 => ?_) ?_
        · refine .q I (.fa I (G127_2 _)) <| .q I (.ld Y22 I) <| .q I (.ix I U22 S3 (someD (impF hc_45 hb_44))) <| .q I (.ld Y3 I) <| .q I (.fa I (G127_2 _)) <| .q I (.ld Y22 I) <| .q I (.fa I (G179_1 _)) <| .q I (.ld Y3 I) <| .q I (.ix I U22 S3 (someD (impF hc_46 hb_44))) <| .q I (.ld Y3 I) <| .q I (.ne I) ?_
          exact .nil I
        refine .nil <| .nil <| .keep [.dead, .dead] [1, 18, 19, 20, 98] (.c4 I <| .c I .nil) I <| .condS I h (fun h => ?_) fun h => ?_
        · refine .sr <| .p I (.asg I) <| .nil <| .ret ?_
          cases h
          exact retOne I (.d _)
        · refine .skip <| .region <| .p I (.ad I) <| .p I (.mv I) <| .nil ?_
          exact ⟨_, h, ⟨_, Fz4 I <| Fz2 I <| Fz1 I trivial⟩⟩
    · refine .exit <| .sr <| .makeMap (fun n : Int => Value.int .i64 n) D.bool I I I I <| .allocZ I I I I (.val Zv180) I <| .store I I I I I I (.cons (.mp I) .nil) C180 I (Nat.le_of_ble_eq_true I) <| .nil <| .seq <| .sr <| .p I (.fa I (G136_0 _)) <| .p I (.fa I (G30_6 _)) <| .p I (.ld Y28 I) <| .p I (.len I U28 I) <| .p I (.mv I) <| .nil <| .block <| .loopS [1, 7, 103, 104] (fun (v : (GMap Int Bool) × Int) => [(105, .d (.int v.2))]) (fun (v : (GMap Int Bool) × Int) => [(0, GMap.blk (fun n : Int => Value.int .i64 n) D.bool v.1)]) (.c4 I .nil) h ⟨_, Fz8 I trivial⟩ (fun rec_55 v h => ?_)
      obtain ⟨m0_53, x105_54⟩ := v
      refine .sr <| .p I (.ls I) <| .nil <| .keep [GMap.blk (fun n : Int => Value.int .i64 n) D.bool m0_53, .box 180 [.mp 0]] [1, 7, 103, 104, 105, 106] (.c4 I <| .c2 I .nil) I <| .seq <| .condS I h (fun h => ?_) fun h => ?_
      · refine .skip <| .seq <| .block <| .sr <| bK h fun x107_56 hx107_56 h => .p I (.ix I U28 S179 hx107_56) <| .p I (.ld Y179 I) <| .allocStore I I I I I I I I (by simp) I I Z179 <| .nil <| .region <| .p I (.loadLoc1 I I I Y180 I) <| .p I (.fa I (G179_0 _)) <| .p I (.ld Y3 I) <| .mapPut (k := x107_56.table) (v := true) I I I U180 KT3 I I I I <| .nil <| .region <| .p I (.ad I) <| .p I (.mv I) <| .nil ?_
        exact ⟨_, h, ⟨_, Fz8 I trivial⟩⟩
      · refine .exit <| .seq <| .sr <| .p I (.fa I (G136_0 _)) <| .p I (.fa I (G30_6 _)) <| .p I (.ld Y28 I) <| .p I (.len I U28 I) <| .p I (.mv I) <| .nil <| .block <| .loopS [1, 7, 116] (fun (v : (GMap Int Bool) × Int) => [(117, .d (.int v.2))]) (fun (v : (GMap Int Bool) × Int) => [(0, GMap.blk (fun n : Int => Value.int .i64 n) D.bool v.1)]) (.c2 I <| .c I .nil) h ⟨_, Fz4 I <| Fz2 I <| Fz1 I trivial⟩ (fun rec_141 v h => ?_)
        obtain ⟨m0_139, x117_140⟩ := v
        refine .sr <| .p I (.ls I) <| .nil <| .keep [GMap.blk (fun n : Int => Value.int .i64 n) D.bool m0_139, .box 180 [.mp 0]] [1, 7, 116, 117, 118] (.c4 I <| .c I .nil) I <| .seq <| .condS I h (fun h => ?_) fun h => ?_
        · refine .skip <| .seq <| .block <| .sr <| .p I (.loadLoc1 I I I Y180 I) <| .mapRange I I I I U180 I I <| .nil <| .block <| .loopS [1, 7, 116, 117, 120] (fun (v : (GMap Int Bool) × (List Nat) × Nat) => []) (fun (v : (GMap Int Bool) × (List Nat) × Nat) => [(0, GMap.blk (fun n : Int => Value.int .i64 n) D.bool v.1), (2, .it 0 m0_139.clock v.2.1 v.2.2)]) (.c4 I <| .c I .nil) h ⟨_, Fz8 I trivial⟩ (fun rec_174 v h => ?_)
          obtain ⟨m0_171, m2_172, m2_173⟩ := v
          refine .seq <| .region ?_
          obtain ⟨hold_176, hend_177, hstep_178⟩ := stepM_S h
          refine .mapNext I I I I I I I hold_176 (fun hz => ?_) (fun en_175 hen_175 => ?_)
          · have h := hend_177 hz
            refine .p I (.extract I I I) <| .nil <| .keep [GMap.blk (fun n : Int => Value.int .i64 n) D.bool m0_171, .box 180 [.mp 0], .it 0 m0_139.clock m2_172 m2_173] [1, 7, 116, 117, 120, 122] (.c4 I <| .c2 I .nil) I <| .seq <| .condF I <| .exit <| .region <| .p I (.ad I) <| .p I (.mv I) <| .nil ?_
            exact ⟨_, h, ⟨_, Fz4 I <| Fz2 I <| Fz1 I trivial⟩⟩
          · have h := hstep_178 en_175 hen_175
            refine .p I (.extract I I I) <| .nil <| .keep [GMap.blk (fun n : Int => Value.int .i64 n) D.bool m0_171, .box 180 [.mp 0], .it 0 m0_139.clock (m2_172 ++ [en_175.1]) m0_171.clock] [1, 7, 116, 117, 120, 122] (.c4 I <| .c2 I .nil) I <| .seq <| .condT I <| .skip <| .block <| .sr <| gK h fun hn_179 h => .p I (.entry I I I I (List.mem_filter.1 hen_175).1 (of_decide_eq_true hn_179)) <| .p I (.extract I I I) <| .allocStore I I I I I I I I (by simp) I I Z3 <| .nil <| .sr <| .p I (.fa I (G136_0 _)) <| .p I (.fa I (G30_6 _)) <| .p I (.ld Y28 I) <| .p I (.makeFuncV I I) <| bK h fun x129_180 hx129_180 h => .p I (.callB I K159 (.cons I (.d _) (.cons I (.fn .nil (.cons (.d _) (.cons (.loc1 I (.mp I) I) (.nil)))) (.nil))) I (slices_ContainsFunc_LHide_api_Hide_ok _ _ _ _ (fun q0 y hq => ⟨_, _, I, K160, model_judge_hidden_1_ok _ q0 _ _ _ hq⟩) _ hx129_180)) <| .p I (.nt I) <| .nil <| .condS I h (fun h => ?_) fun h => ?_
            · refine .region <| .p I (.loadLoc1 I I I Y180 I) <| .p I (.ld Y3 I) <| .mapDel (k := en_175.2.1) I I I U180 KT3 I I I <| .nil ?_
              exact ⟨_, h, ⟨_, Fz8 I trivial⟩⟩
            · refine .skip ?_
              exact ⟨_, h, ⟨_, Fz8 I trivial⟩⟩
        · refine .exit <| .sr <| .p I (.loadLoc1 I I I Y180 I) <| .p I (.mapLen I U180 I I) <| .p I (.eq I) <| .p I (.asg I) <| .nil <| .ret ?_
          cases h
          exact retOne I (.d _)
set_option maxHeartbeats 2000000 in
theorem model_Valid_ok (n : Nat) (t0 : Model) (r : Bool) (h : model_Valid n t0 = some r) : Pure Tryz.prog 39 [Model.enc t0] (.bool r) := by
  refine Pure.ot Tryz.func39 I Tryz.ntmps39 I fun A w => .sr <| .p I (.bx I) <| .p I (.asg I) <| .nil <| .seq <| .seq <| .plain 18 I <| .p I (.fa I (G30_0 _)) <| .p I (.ld Y22 I) <| .p I (.fa I (G30_1 _)) <| .p I (.ld Y23 I) <| bK h fun x8_1 hx8_1 h => .p I (.call I K94 I (cells_Valid_ok _ _ _ _ hx8_1)) <| .p I (.nt I) <| .p I (.mv I) <| .jOr 4 (b2 := decide (24 < (t0.families.length : Int))) I I I I (.inl I) (fun _ _ _ h1 => by cases h1) I I (fun hb_2 => ?_) ?_
  · refine .q I (.fa I (G30_2 _)) <| .q I (.ld Y24 I) <| .q I (.len I U24 I) <| .q I (.gt I) ?_
    exact .nil I
  refine .p I (.mv I) <| gK h fun hc_4 h => .jOr 4 (b2 := !((model_distinct n t0.families).getD default)) I I I I (.inl I) (fun _ _ _ h1 => by cases h1) I I (fun hb_3 => ?_) ?_
  · refine .q I (.fa I (G30_2 _)) <| .q I (.ld Y24 I) <| .q I (.call I K95 I (model_distinct_ok _ _ _ (someD (impF hc_4 hb_3)))) <| .q I (.nt I) ?_
    exact .nil I
  refine .nil <| .nil <| .keep [] [1, 21] (.c2 I .nil) I <| .condS I h (fun h => ?_) fun h => ?_
  · refine .sr <| .p I (.asg I) <| .nil <| .ret ?_
    cases h
    exact retOne I (.d _)
  · refine .skip <| .seq <| .draw 9 Hm (by kernel_rfl) (by kernel_rfl) <| .p I (.ld Y30 I) <| .p I (.fa I (G30_0 _)) <| .p I (.ld Y22 I) <| .p I (.fa I (G30_1 _)) <| .p I (.ld Y23 I) <| bK h fun x27_5 hx27_5 h => .p I (.call I K96 I (cells_Ranges_ok _ _ _ _ _ hx27_5)) <| .p I (.castD (Judge.enc (⟨t0, x27_5⟩ : Judge)) I (.build I Pl136 (.agg Zc136 (ds' := [_, _, _, _, _, _, _, _]) (.cons (.refl _) (.cons (.refl _) (.cons (.refl _) (.cons (.refl _) (.cons (.refl _) (.cons (.refl _) (.cons (.refl _) (.cons (.refl _) (.nil)))))))))) I I)) <| .alloc I I I I ZZ136 <| .store I I I I I I Z136 <| .nil <| .freezes [0] (.cons (t := 3) (d := .ref (Judge.enc (⟨t0, x27_5⟩ : Judge))) I (.loc (inIds I) I (.cons (.d _) (.cons (.d _) (.cons (.d _) (.cons (.d _) (.cons (.d _) (.cons (.d _) (.cons (.d _) (.cons (.d _) (.nil)))))))))) (.nil)) <| .nil <| .seq <| .plain 14 I <| .p I (.ld Y136 I) <| bK h fun x30_6 hx30_6 h => .p I (.call I K97 I (model_judge_constraints_ok _ _ _ hx30_6)) <| .p I (.mv I) <| gK h fun hc_8 h => .jAnd 2 (b2 := ((model_judge_operations n (⟨t0, x27_5⟩ : Judge)).getD default)) I I I I (.inl I) (fun _ _ _ h1 => by cases h1) I I (fun hb_7 => ?_) ?_
    · refine .q I (.ld Y136 I) <| .q I (.call I K98 I (model_judge_operations_ok _ _ _ (someD (impT hc_8 hb_7)))) ?_
      exact .nil I
    refine .p I (.mv I) <| gK h fun hc_10 h => .jAnd 2 (b2 := ((model_judge_actions n (⟨t0, x27_5⟩ : Judge)).getD default)) I I I I (.inl I) (fun _ _ _ h1 => by cases h1) I I (fun hb_9 => ?_) ?_
    · refine .q I (.ld Y136 I) <| .q I (.call I K99 I (model_judge_actions_ok _ _ _ (someD (impT hc_10 hb_9)))) ?_
      exact .nil I
    refine .p I (.mv I) <| gK h fun hc_12 h => .jAnd 2 (b2 := ((model_judge_hidden n (⟨t0, x27_5⟩ : Judge)).getD default)) I I I I (.inl I) (fun _ _ _ h1 => by cases h1) I I (fun hb_11 => ?_) ?_
    · refine .q I (.ld Y136 I) <| .q I (.call I K100 I (model_judge_hidden_ok _ _ _ (someD (impT hc_12 hb_11)))) ?_
      exact .nil I
    refine .nil <| .p I (.asg I) <| .nil <| .keep [.dead] [2] (.c I .nil) I <| .ret ?_
    cases h
    exact retOne I (.d _)
set_option maxHeartbeats 2000000 in
theorem symmetry_open_ok (n : Nat) (t0 : Model) (r : (Option Layout) × Bool) (h : symmetry_open n t0 = some r) : Pure Tryz.prog 107 [Model.enc t0] (.tup [optD Layout.enc r.1, .bool r.2]) := by
  refine Pure.ot Tryz.func107 I Tryz.ntmps107 I fun A w => .sr <| .p I (.bx I) <| .p I (.asg I) <| .p I (.asg I) <| .nil <| .seq <| .sr <| .p I (.ld Y30 I) <| bK h fun x17_1 hx17_1 h => .p I (.call I K39 I (model_Valid_ok _ _ _ hx17_1)) <| .p I (.nt I) <| .nil <| .condS I h (fun h => ?_) fun h => ?_
  · refine .sr <| .p I (.asg I) <| .p I (.asg I) <| .nil <| .ret ?_
    cases h
    exact retTwo I I (.d _) (.d _)
  · refine .skip <| .sr <| .p I (.ld Y30 I) <| .p I (.build I Pl190 (.agg Zc190 (ds' := [_, _, _, _, _, _, _, .val (.slice none 0 0), .val (.slice none 0 0)]) (.cons (.refl _) (.cons (.refl _) (.cons (.refl _) (.cons (.refl _) (.cons (.refl _) (.cons (.refl _) (.cons (.refl _) (.cons (.refl _) (.cons (.refl _) (.nil))))))))))) I I) <| .box I I I I I (.ofD I) <| .nilCell 0 7 2 192 I I <| .nilCell 0 8 2 192 I I <| .p I (.asg I) <| .nil <| .seq <| .sr <| .p I (.fa I (G30_1 _)) <| .p I (.ld Y23 I) <| .p I (.len I U23 I) <| .p I (.mv I) <| .nil <| .block <| .loopS [1, 4, 23, 24] (fun (v : (List Place) × (List Place) × Int) => [(25, .d (.int v.2.2))]) (fun (v : (List Place) × (List Place) × Int) => [(0, .box 190 [.d (.sl 1 (List.map D.int t0.sorts)), .d (.sl 6 (List.map Table.enc t0.tables)), .d (.sl 1 (List.map D.str t0.families)), .d (.sl 6 (List.map Constraint.enc t0.constraints)), .d (.sl 3 (List.map Operation.enc t0.operations)), .d (.sl 5 (List.map Action.enc t0.actions)), .d (.sl 3 (List.map Hide.enc t0.hides)), .vec 1 (List.length v.1), .vec 2 (List.length v.2.1)]), (1, .vec 192 2 (List.map Place.enc v.1)), (2, .vec 192 2 (List.map Place.enc v.2.1))]) (.c4 I .nil) h ⟨_, Fz8 I trivial⟩ (fun rec_455 v h => ?_)
    obtain ⟨b1_452, b2_453, x25_454⟩ := v
    refine .sr <| .p I (.ls I) <| .nil <| .keep [.box 190 [.d (.sl 1 (List.map D.int t0.sorts)), .d (.sl 6 (List.map Table.enc t0.tables)), .d (.sl 1 (List.map D.str t0.families)), .d (.sl 6 (List.map Constraint.enc t0.constraints)), .d (.sl 3 (List.map Operation.enc t0.operations)), .d (.sl 5 (List.map Action.enc t0.actions)), .d (.sl 3 (List.map Hide.enc t0.hides)), .vec 1 (List.length b1_452), .vec 2 (List.length b2_453)], .vec 192 2 (List.map Place.enc b1_452), .vec 192 2 (List.map Place.enc b2_453)] [1, 4, 23, 24, 25, 26] (.c4 I <| .c2 I .nil) I <| .seq <| .condS I h (fun h => ?_) fun h => ?_
    · refine .skip <| .seq <| .block <| .sr <| .p I (.mv I) <| bK h fun x28_456 hx28_456 h => .p I (.ix I U23 S127 hx28_456) <| .p I (.ld Y127 I) <| .allocZ I I I I (.agg Zc127 (ds' := [.str [], .int 0, .sl 1 (List.map D.int []), .int 0, .int 0, .int 0]) (.cons (.refl _) (.cons (.refl _) (.cons (.nil _) (.cons (.refl _) (.cons (.refl _) (.cons (.refl _) (.nil)))))))) I <| .p I (.asg I) <| .store I I I I I I (.ofD I) C127 I (Nat.le_of_ble_eq_true I) <| .nil <| .sr <| .p I (.buildSlLe [[]] I I E145 I (.cons (.nil _) (.nil)) (fun _ => I) I (enc := (fun l => D.sl 1 (List.map D.int l)))) <| .p I (.asg I) <| .nil <| .seq <| .sr <| .p I (.fieldAddrLoc I I I F127_2) <| .p I (.loadLoc1 I I I Y22 I) <| .p I (.len I U22 I) <| .p I (.mv I) <| .nil <| .block <| .loopS [1, 4, 5, 6, 23, 24, 25, 32, 33] (fun (v : (List (List Int)) × Int) => [(7, .d (.sl 1 (List.map (fun l => D.sl 1 (List.map D.int l)) v.1))), (34, .d (.int v.2))]) (fun (v : (List (List Int)) × Int) => []) (.c8 I <| .c I .nil) h ⟨_, Fz8 I <| Fz4 I <| Fz2 I trivial⟩ (fun rec_587 v h => ?_)
      obtain ⟨x7_585, x34_586⟩ := v
      refine .sr <| .p I (.ls I) <| .nil <| .keep [.box 190 [.d (.sl 1 (List.map D.int t0.sorts)), .d (.sl 6 (List.map Table.enc t0.tables)), .d (.sl 1 (List.map D.str t0.families)), .d (.sl 6 (List.map Constraint.enc t0.constraints)), .d (.sl 3 (List.map Operation.enc t0.operations)), .d (.sl 5 (List.map Action.enc t0.actions)), .d (.sl 3 (List.map Hide.enc t0.hides)), .vec 1 (List.length b1_452), .vec 2 (List.length b2_453)], .vec 192 2 (List.map Place.enc b1_452), .vec 192 2 (List.map Place.enc b2_453), .box 127 [.d (.str x28_456.name), .d (.int x28_456.kind), .d (.sl 1 (List.map D.int x28_456.columns)), .d (.int x28_456.range.lo), .d (.int x28_456.range.hi), .d (.int x28_456.first)]] [1, 4, 5, 6, 7, 23, 24, 25, 32, 33, 34, 35] (.c8 I <| .c4 I .nil) I <| .seq <| .condS I h (fun h => ?_) fun h => ?_
      · refine .skip <| .seq <| .block <| .sr <| bK h fun x36_588 hx36_588 h => .p I (.ix I U22 S3 hx36_588) <| .p I (.ld Y3 I) <| .p I (.asg I) <| .nil <| .sr <| .p I (.asg I) <| .nilVec 10 1 22 I <| .nil <| .seq <| .sr <| .p I (.mv I) <| .p I (.len I U145 I) <| .p I (.mv I) <| .nil <| .block <| .loopS [1, 4, 5, 6, 9, 23, 24, 25, 32, 33, 34, 38, 39] (fun (v : (List (List Int)) × Int) => [(10, .vec 4 (List.length v.1)), (40, .d (.int v.2))]) (fun (v : (List (List Int)) × Int) => [(4, .vec 22 1 (List.map (fun l => D.sl 1 (List.map D.int l)) v.1))]) (.c8 I <| .c4 I <| .c I .nil) h ⟨_, Fz8 I <| Fz8 I <| Fz2 I trivial⟩ (fun rec_631 v h => ?_)
        obtain ⟨b4_629, x40_630⟩ := v
        refine .sr <| .p I (.ls I) <| .nil <| .keep [.box 190 [.d (.sl 1 (List.map D.int t0.sorts)), .d (.sl 6 (List.map Table.enc t0.tables)), .d (.sl 1 (List.map D.str t0.families)), .d (.sl 6 (List.map Constraint.enc t0.constraints)), .d (.sl 3 (List.map Operation.enc t0.operations)), .d (.sl 5 (List.map Action.enc t0.actions)), .d (.sl 3 (List.map Hide.enc t0.hides)), .vec 1 (List.length b1_452), .vec 2 (List.length b2_453)], .vec 192 2 (List.map Place.enc b1_452), .vec 192 2 (List.map Place.enc b2_453), .box 127 [.d (.str x28_456.name), .d (.int x28_456.kind), .d (.sl 1 (List.map D.int x28_456.columns)), .d (.int x28_456.range.lo), .d (.int x28_456.range.hi), .d (.int x28_456.first)], .vec 22 1 (List.map (fun l => D.sl 1 (List.map D.int l)) b4_629)] [1, 4, 5, 6, 9, 10, 23, 24, 25, 32, 33, 34, 38, 39, 40, 41] (.c8 I <| .c8 I .nil) I <| .seq <| .condS I h (fun h => ?_) fun h => ?_
        · refine .skip <| .seq <| .block <| .sr <| bK h fun x42_632 hx42_632 h => .p I (.ix I U145 S22 hx42_632) <| .p I (.ld Y22 I) <| .p I (.asg I) <| .nil <| .sr <| .p I (.fa I (G30_0 _)) <| .p I (.ld Y22 I) <| .p I (.mv I) <| bK h fun x47_633 hx47_633 h => .p I (.ix I U22 S3 hx47_633) <| .p I (.ld Y3 I) <| .p I (.mv I) <| .nil <| .block <| .loopS [1, 4, 5, 6, 9, 12, 23, 24, 25, 32, 33, 34, 38, 39, 40, 48] (fun (v : (List (List Int)) × Int) => [(10, .vec 4 (List.length v.1)), (49, .d (.int v.2))]) (fun (v : (List (List Int)) × Int) => [(4, .vec 22 1 (List.map (fun l => D.sl 1 (List.map D.int l)) v.1))]) (.c8 I <| .c8 I .nil) h ⟨_, Fz8 I <| Fz8 I <| Fz4 I <| Fz1 I trivial⟩ (fun rec_646 v h => ?_)
          obtain ⟨b4_644, x49_645⟩ := v
          refine .sr <| .p I (.ls I) <| .nil <| .keep [.box 190 [.d (.sl 1 (List.map D.int t0.sorts)), .d (.sl 6 (List.map Table.enc t0.tables)), .d (.sl 1 (List.map D.str t0.families)), .d (.sl 6 (List.map Constraint.enc t0.constraints)), .d (.sl 3 (List.map Operation.enc t0.operations)), .d (.sl 5 (List.map Action.enc t0.actions)), .d (.sl 3 (List.map Hide.enc t0.hides)), .vec 1 (List.length b1_452), .vec 2 (List.length b2_453)], .vec 192 2 (List.map Place.enc b1_452), .vec 192 2 (List.map Place.enc b2_453), .box 127 [.d (.str x28_456.name), .d (.int x28_456.kind), .d (.sl 1 (List.map D.int x28_456.columns)), .d (.int x28_456.range.lo), .d (.int x28_456.range.hi), .d (.int x28_456.first)], .vec 22 1 (List.map (fun l => D.sl 1 (List.map D.int l)) b4_644)] [1, 4, 5, 6, 9, 10, 12, 23, 24, 25, 32, 33, 34, 38, 39, 40, 48, 49, 50] (.c8 I <| .c8 I <| .c2 I <| .c I .nil) I <| .seq <| .condS I h (fun h => ?_) fun h => ?_
          · refine .skip <| .seq <| .block <| .sr <| .p I (.mv I) <| .p I (.asg I) <| .nil <| .region <| .p I (.mv I) <| .p I (.mv I) <| bK h fun x54_647 hx54_647 h => .clone (enc := D.int) I I I I K29 Tryz.func29 I I I I E22 I (fun _ => I) (fun _ => I) hx54_647 I I <| .p I (.mv I) <| .p I (.buildSl [_] I I E22 I (fun _ => I) I (enc := D.int)) <| bK h fun x57_648 hx57_648 h => .app I I I I I I I I E22 I (fun _ => I) hx57_648 <| .freezes [5] (.cons (t := 57) I (.vec (inIds I) I (by simp)) (.nil)) <| .p I (.buildSl [_] I I E145 I (fun _ => I) I (enc := (fun l => D.sl 1 (List.map D.int l)))) <| bK h fun x59_649 hx59_649 h => .app I I I I I I I I E145 I (fun _ => I) hx59_649 <| .p I (.asg I) <| .nil <| .region <| .p I (.ad I) <| .p I (.mv I) <| .nil ?_
            exact ⟨_, h, ⟨_, Fz8 I <| Fz8 I <| Fz4 I <| Fz1 I trivial⟩⟩
          · refine .exit <| .region <| .p I (.ad I) <| .p I (.mv I) <| .nil ?_
            exact ⟨_, h, ⟨_, Fz8 I <| Fz8 I <| Fz2 I trivial⟩⟩
        · refine .exit <| .region <| .p I (.mv I) <| .freezes [4] (.cons (t := 62) I (.vec (inIds I) I (by simp)) (.nil)) <| .p I (.asg I) <| .nil <| .region <| .p I (.ad I) <| .p I (.mv I) <| .nil ?_
          exact ⟨_, h, ⟨_, Fz8 I <| Fz4 I <| Fz2 I trivial⟩⟩
      · refine .exit <| .sr <| .p I (.mv I) <| .p I (.len I U145 I) <| .p I (.mv I) <| .nil <| .block <| .loopS [1, 4, 5, 6, 23, 24, 25, 64, 65] (fun (v : (List Place) × (List Place) × Int) => [(66, .d (.int v.2.2))]) (fun (v : (List Place) × (List Place) × Int) => [(0, .box 190 [.d (.sl 1 (List.map D.int t0.sorts)), .d (.sl 6 (List.map Table.enc t0.tables)), .d (.sl 1 (List.map D.str t0.families)), .d (.sl 6 (List.map Constraint.enc t0.constraints)), .d (.sl 3 (List.map Operation.enc t0.operations)), .d (.sl 5 (List.map Action.enc t0.actions)), .d (.sl 3 (List.map Hide.enc t0.hides)), .vec 1 (List.length v.1), .vec 2 (List.length v.2.1)]), (1, .vec 192 2 (List.map Place.enc v.1)), (2, .vec 192 2 (List.map Place.enc v.2.1))]) (.c8 I <| .c I .nil) h ⟨_, Fz8 I <| Fz4 I <| Fz1 I trivial⟩ (fun rec_671 v h => ?_)
        obtain ⟨b1_668, b2_669, x66_670⟩ := v
        refine .sr <| .p I (.ls I) <| .nil <| .keep [.box 190 [.d (.sl 1 (List.map D.int t0.sorts)), .d (.sl 6 (List.map Table.enc t0.tables)), .d (.sl 1 (List.map D.str t0.families)), .d (.sl 6 (List.map Constraint.enc t0.constraints)), .d (.sl 3 (List.map Operation.enc t0.operations)), .d (.sl 5 (List.map Action.enc t0.actions)), .d (.sl 3 (List.map Hide.enc t0.hides)), .vec 1 (List.length b1_668), .vec 2 (List.length b2_669)], .vec 192 2 (List.map Place.enc b1_668), .vec 192 2 (List.map Place.enc b2_669), .box 127 [.d (.str x28_456.name), .d (.int x28_456.kind), .d (.sl 1 (List.map D.int x28_456.columns)), .d (.int x28_456.range.lo), .d (.int x28_456.range.hi), .d (.int x28_456.first)]] [1, 4, 5, 6, 23, 24, 25, 64, 65, 66, 67] (.c8 I <| .c2 I <| .c I .nil) I <| .seq <| .condS I h (fun h => ?_) fun h => ?_
        · refine .skip <| .join [1, 4, 5, 6, 23, 24, 25, 64, 65, 66] (fun (v : (List Place) × (List Place)) => []) (fun (v : (List Place) × (List Place)) => [(0, .box 190 [.d (.sl 1 (List.map D.int t0.sorts)), .d (.sl 6 (List.map Table.enc t0.tables)), .d (.sl 1 (List.map D.str t0.families)), .d (.sl 6 (List.map Constraint.enc t0.constraints)), .d (.sl 3 (List.map Operation.enc t0.operations)), .d (.sl 5 (List.map Action.enc t0.actions)), .d (.sl 3 (List.map Hide.enc t0.hides)), .vec 1 (List.length v.1), .vec 2 (List.length v.2)]), (1, .vec 192 2 (List.map Place.enc v.1)), (2, .vec 192 2 (List.map Place.enc v.2))]) (.c8 I <| .c2 I .nil) h (fun k_674 h => ?_) (fun v h => ?_)
          · refine .block <| .sr <| bK h fun x68_675 hx68_675 h => .p I (.ix I U145 S22 hx68_675) <| .p I (.ld Y22 I) <| .p I (.asg I) <| .nil <| .sr <| .p I (.fieldAddrLoc I I I F127_1) <| .p I (.loadLoc1 I I I Y3 I) <| .p I (.le I) <| .nil <| .condS I h (fun h => ?_) fun h => ?_
            · refine .region <| .p I (.mv I) <| .p I (.mv I) <| .p I (.nilCheck_loc I I I) <| .p I (.fieldAddrLoc I I I F190_1) <| .p I (.loadLoc1 I I I Y188 I) <| .p I (.mv I) <| .p I (.mv I) <| .p I (.castD (Place.enc (⟨x25_454, x68_675⟩ : Place)) I (.build I Pl192 (.agg Zc192 (ds' := [_, _]) (.cons (.refl _) (.cons (.refl _) (.nil)))) I I)) <| .p I (.buildSl [_] I I E188 I (fun _ => I) I (enc := Place.enc)) <| bK h fun x82_676 hx82_676 h => .app I I I I I I I I E188 I (fun _ => I) hx82_676 <| .p I (.nilCheck_loc I I I) <| .p I (.fieldAddrLoc I I I F190_1) <| .store I I I I I I (.cons (.vec I (by simp)) .nil) C188 I (Nat.le_of_ble_eq_true I) <| .nil ?_
              exact ⟨_, h, ⟨_, Fz8 I <| Fz4 I <| Fz1 I trivial⟩⟩
            · refine .region <| .p I (.mv I) <| .p I (.mv I) <| .p I (.nilCheck_loc I I I) <| .p I (.fieldAddrLoc I I I F190_2) <| .p I (.loadLoc1 I I I Y188 I) <| .p I (.mv I) <| .p I (.mv I) <| .p I (.castD (Place.enc (⟨x25_454, x68_675⟩ : Place)) I (.build I Pl192 (.agg Zc192 (ds' := [_, _]) (.cons (.refl _) (.cons (.refl _) (.nil)))) I I)) <| .p I (.buildSl [_] I I E188 I (fun _ => I) I (enc := Place.enc)) <| bK h fun x94_677 hx94_677 h => .app I I I I I I I I E188 I (fun _ => I) hx94_677 <| .p I (.nilCheck_loc I I I) <| .p I (.fieldAddrLoc I I I F190_2) <| .store I I I I I I (.cons (.vec I (by simp)) .nil) C188 I (Nat.le_of_ble_eq_true I) <| .nil ?_
              exact ⟨_, h, ⟨_, Fz8 I <| Fz4 I <| Fz1 I trivial⟩⟩
          · obtain ⟨b1_672, b2_673⟩ := v
            refine .region <| .p I (.ad I) <| .p I (.mv I) <| .nil ?_
            exact ⟨_, h, ⟨_, Fz8 I <| Fz4 I <| Fz1 I trivial⟩⟩
        · refine .exit <| .region <| .p I (.ad I) <| .p I (.mv I) <| .nil ?_
          exact ⟨_, h, ⟨_, Fz8 I trivial⟩⟩
    · refine .exit <| .sr <| .p I (.mv I) <| .p I (.asg I) <| .p I (.asg I) <| .nil <| .ret ?_
      cases h
      exact retTwo I I (.loc I (.cons (.d _) (.cons (.d _) (.cons (.d _) (.cons (.d _) (.cons (.d _) (.cons (.d _) (.cons (.d _) (.cons (.vec I (by simp)) (.cons (.vec I (by simp)) (.nil))))))))))) (.d _)
set_option maxHeartbeats 2000000 in
theorem symmetry_layout_valid_ok (n : Nat) (t0 : Layout) (t1 : Question) (r : Bool) (h : symmetry_layout_valid n t0 t1 = some r) : Pure Tryz.prog 108 [.ref (Layout.enc t0), Question.enc t1] (.bool r) := by
  refine Pure.ot Tryz.func108 I Tryz.ntmps108 I fun A w => .sr <| .p I (.bx I) <| .p I (.asg I) <| .nil <| .sr <| .p I (.mv I) <| .p I (.nilCheck_ref I I) <| .p I (.fa I (G190_0 _)) <| .p I (.fa I (G30_5 _)) <| .p I (.ld Y27 I) <| .p I (.len I U27 I) <| .p I (.asg I) <| .nil <| .seq <| .seq <| .plain 26 I <| .p I (.fa I (G37_0 _)) <| .p I (.ld Y3 I) <| .p I (.ls I) <| .p I (.mv I) <| .jOr 3 (b2 := decide (t1.f < 0)) I I I I (.inl I) (fun _ _ _ h1 => by cases h1) I I (fun hb_1 => ?_) ?_
  · refine .q I (.fa I (G37_1 _)) <| .q I (.ld Y3 I) <| .q I (.ls I) ?_
    exact .nil I
  refine .p I (.mv I) <| .jOr 4 (b2 := decide ((t0.m.actions.length : Int) ≤ t1.e)) I I I I (.inl I) (fun _ _ _ h1 => by cases h1) I I (fun hb_2 => ?_) ?_
  · refine .q I (.fa I (G37_0 _)) <| .q I (.ld Y3 I) <| .q I (.mv I) <| .q I (.ge I) ?_
    exact .nil I
  refine .p I (.mv I) <| .jOr 4 (b2 := decide ((t0.m.actions.length : Int) ≤ t1.f)) I I I I (.inl I) (fun _ _ _ h1 => by cases h1) I I (fun hb_3 => ?_) ?_
  · refine .q I (.fa I (G37_1 _)) <| .q I (.ld Y3 I) <| .q I (.mv I) <| .q I (.ge I) ?_
    exact .nil I
  refine .p I (.mv I) <| .jOr 4 (b2 := decide (t1.target.index < 0)) I I I I (.inl I) (fun _ _ _ h1 => by cases h1) I I (fun hb_4 => ?_) ?_
  · refine .q I (.fa I (G37_2 _)) <| .q I (.fa I (G35_1 _)) <| .q I (.ld Y3 I) <| .q I (.ls I) ?_
    exact .nil I
  refine .nil <| .nil <| .keep [] [0, 3, 37] (.c2 I <| .c I .nil) I <| .condS I h (fun h => ?_) fun h => ?_
  · refine .sr <| .p I (.asg I) <| .nil <| .ret ?_
    cases h
    exact retOne I (.d _)
  · refine .skip <| .seq <| .sr <| .p I (.fa I (G37_2 _)) <| .p I (.fa I (G35_0 _)) <| .p I (.ld Y4 I) <| .nil <| .condS I h (fun h => ?_) fun h => ?_
    · refine .seq <| .draw 17 Hm (by kernel_rfl) (by kernel_rfl) <| .p I (.fa I (G37_2 _)) <| .p I (.fa I (G35_1 _)) <| .p I (.ld Y3 I) <| .p I (.mv I) <| .p I (.nilCheck_ref I I) <| .p I (.fa I (G190_0 _)) <| .p I (.fa I (G30_5 _)) <| .p I (.ld Y27 I) <| .p I (.fa I (G37_0 _)) <| .p I (.ld Y3 I) <| bK h fun x51_5 hx51_5 h => .p I (.ix I U27 S84 hx51_5) <| .p I (.fa I (G84_2 _)) <| .p I (.fa I (G82_1 _)) <| .p I (.ld Y49 I) <| .p I (.len I U49 I) <| .p I (.ls I) <| .p I (.asg I) <| .nil <| .nil <| .keep [] [4] (.c I .nil) I <| .ret ?_
      cases h
      exact retOne I (.d _)
    · refine .skip <| .seq <| .draw 18 Hm (by kernel_rfl) (by kernel_rfl) <| .p I (.fa I (G37_0 _)) <| .p I (.ld Y3 I) <| .p I (.fa I (G37_1 _)) <| .p I (.ld Y3 I) <| .p I (.le I) <| .p I (.mv I) <| .jAnd 10 (b2 := decide (t1.target.index < (t0.m.constraints.length : Int))) I I I I (.inl I) (fun _ _ _ h1 => by cases h1) I I (fun hb_6 => ?_) ?_
      · refine .q I (.fa I (G37_2 _)) <| .q I (.fa I (G35_1 _)) <| .q I (.ld Y3 I) <| .q I (.mv I) <| .q I (.nilCheck_ref I I) <| .q I (.fa I (G190_0 _)) <| .q I (.fa I (G30_3 _)) <| .q I (.ld Y25 I) <| .q I (.len I U25 I) <| .q I (.ls I) ?_
        exact .nil I
      refine .p I (.asg I) <| .nil <| .nil <| .keep [] [4] (.c I .nil) I <| .ret ?_
      cases h
      exact retOne I (.d _)
theorem symmetry_Valid_ok (n : Nat) (t0 : Model) (t1 : Question) (r : Bool) (h : symmetry_Valid n t0 t1 = some r) : Pure Tryz.prog 43 [Model.enc t0, Question.enc t1] (.bool r) := by
  refine Pure.ot Tryz.func43 I Tryz.ntmps43 I fun A w => .sr <| .p I (.bx I) <| .p I (.bx I) <| .p I (.asg I) <| .nil <| .sr <| .p I (.ld Y30 I) <| bK h fun x9_1 hx9_1 h => .p I (.call I K107 I (symmetry_open_ok _ _ _ hx9_1)) <| .p I (.mv I) <| .p I (.extract I I I) <| .p I (.extract I I I) <| .p I (.asg I) <| .p I (.asg I) <| .nil <| .seq <| .plain 6 I <| .p I (.mv I) <| .p I (.mv I) <| gK h fun hc_3 h => gK h fun hc_4 h => .jAnd 3 (b2 := ((symmetry_layout_valid n ((x9_1.1).getD default) t1).getD default)) I I I I (.inl I) (fun _ _ _ h1 => by cases h1) I I (fun hb_2 => ?_) ?_
  · refine .q I (.mv I) <| .q I (.ld Y37 I) <| .q I (.callLe I K108 I (.cons (.ofEq (optD_of (someD (impT hc_3 hb_2)))) (.cons (.refl _) (.nil))) (symmetry_layout_valid_ok _ _ _ _ (someD (impT hc_4 hb_2)))) ?_
    exact .nil I
  refine .nil <| .p I (.asg I) <| .nil <| .keep [] [4] (.c I .nil) I <| .ret ?_
  cases h
  exact retOne I (.d _)
theorem model_ranges_ok (n : Nat) (t0 : Model) (t1 : Bool) (r : List Range) (h : model_ranges n t0 t1 = some r) : Pure Tryz.prog 110 [Model.enc t0, .bool t1] (.sl 2 (List.map Range.enc r)) := by
  refine Pure.ot Tryz.func110 I Tryz.ntmps110 I fun A w => .sr <| .p I (.bx I) <| .p I (.nilS 2 (α := Range) Range.enc I) <| .nil <| .seq <| .sr <| .p I (.ld Y30 I) <| bK h fun x6_1 hx6_1 h => .p I (.call I K39 I (model_Valid_ok _ _ _ hx6_1)) <| .p I (.nt I) <| .nil <| .condS I h (fun h => ?_) fun h => ?_
  · refine .sr <| .p I (.nilS 2 (α := Range) Range.enc I) <| .nil <| .ret ?_
    cases h
    exact retOne I (.d _)
  · refine .skip <| .sr <| .p I (.fa I (G30_0 _)) <| .p I (.ld Y22 I) <| .p I (.fa I (G30_1 _)) <| .p I (.ld Y23 I) <| .p I (.mv I) <| bK h fun x13_2 hx13_2 h => .p I (.call I K96 I (cells_Ranges_ok _ _ _ _ _ hx13_2)) <| .p I (.asg I) <| .nil <| .ret ?_
    cases h
    exact retOne I (.d _)
theorem model_Strict_ok (n : Nat) (t0 : Model) (r : List Range) (h : model_Strict n t0 = some r) : Pure Tryz.prog 48 [Model.enc t0] (.sl 2 (List.map Range.enc r)) := by
  refine Pure.ot Tryz.func48 I Tryz.ntmps48 I fun A w => .sr <| .p I (.bx I) <| .p I (.nilS 2 (α := Range) Range.enc I) <| .nil <| .sr <| .p I (.ld Y30 I) <| bK h fun x4_1 hx4_1 h => .p I (.call I K110 I (model_ranges_ok _ _ _ _ hx4_1)) <| .p I (.asg I) <| .nil <| .ret ?_
  cases h
  exact retOne I (.d _)
theorem condition_added_ok (n : Nat) (t0 : Action) (t1 : Int) (r : Int) (h : condition_added n t0 t1 = some r) : Pure Tryz.prog 61 [Action.enc t0, .int t1] (.int r) := by
  refine Pure.ot Tryz.func61 I Tryz.ntmps61 I fun A w => .sr <| .p I (.bx I) <| .p I (.asg I) <| .nil <| .seq <| .sr <| .p I (.fa I (G84_2 _)) <| .p I (.fa I (G82_0 _)) <| .p I (.ld Y79 I) <| .p I (.len I U79 I) <| .p I (.mv I) <| .nil <| .block <| .loopS [1, 9, 10] (fun (v : Int) => [(11, .d (.int v))]) (fun (v : Int) => []) (.c2 I <| .c I .nil) h ⟨_, Fz4 I <| Fz2 I <| Fz1 I trivial⟩ (fun rec_6 x11_5 h => ?_)
  refine .sr <| .p I (.ls I) <| .nil <| .keep [] [1, 9, 10, 11, 12] (.c4 I <| .c I .nil) I <| .seq <| .condS I h (fun h => ?_) fun h => ?_
  · refine .skip <| .seq <| .block <| .sr <| bK h fun x13_7 hx13_7 h => .p I (.ix I U79 S131 hx13_7) <| .p I (.ld Y131 I) <| .allocStore I I I I I I I I (by simp) I I Z131 <| .nil <| .sr <| .p I (.fa I (G131_0 _)) <| .p I (.ld Y3 I) <| .p I (.mv I) <| .p I (.eq I) <| .nil <| .condS I h (fun h => ?_) fun h => ?_
    · refine .sr <| .p I (.fa I (G131_1 _)) <| .p I (.ld Y3 I) <| .p I (.asg I) <| .nil <| .ret ?_
      cases h
      exact retOne I (.d _)
    · refine .skip <| .region <| .p I (.ad I) <| .p I (.mv I) <| .nil ?_
      exact ⟨_, h, ⟨_, Fz4 I <| Fz2 I <| Fz1 I trivial⟩⟩
  · refine .exit <| .sr <| .p I (.asg I) <| .nil <| .ret ?_
    cases h
    exact retOne I (.d _)
theorem condition_change_ok (n : Nat) (t0 : Action) (t1 : Row) (r : Int) (h : condition_change n t0 t1 = some r) : Pure Tryz.prog 40 [Action.enc t0, Row.enc t1] (.int r) := by
  refine Pure.ot Tryz.func40 I Tryz.ntmps40 I fun A w => .sr <| .p I (.bx I) <| .p I (.bx I) <| .p I (.asg I) <| .nil <| .sr <| .p I (.asg I) <| .nil <| .seq <| .sr <| .p I (.fa I (G33_0 _)) <| .p I (.ld Y31 I) <| .p I (.len I U31 I) <| .p I (.mv I) <| .nil <| .block <| .loopS [2, 9, 10] (fun (v : Int × Int) => [(5, .d (.int v.1)), (11, .d (.int v.2))]) (fun (v : Int × Int) => []) (.c2 I <| .c I .nil) h ⟨_, Fz8 I trivial⟩ (fun rec_11 v h => ?_)
  obtain ⟨x5_9, x11_10⟩ := v
  refine .sr <| .p I (.ls I) <| .nil <| .keep [] [2, 5, 9, 10, 11, 12] (.c4 I <| .c2 I .nil) I <| .seq <| .condS I h (fun h => ?_) fun h => ?_
  · refine .skip <| .seq <| .block <| .sr <| bK h fun x13_12 hx13_12 h => .p I (.ix I U31 S41 hx13_12) <| .p I (.ld Y41 I) <| .allocStore I I I I I I I I (by simp) I I Z41 <| .nil <| .draw 10 Hm (by kernel_rfl) (by kernel_rfl) <| .p I (.mv I) <| .p I (.fa I (G41_1 _)) <| .p I (.ld Y3 I) <| .p I (.ld Y84 I) <| .p I (.fa I (G41_0 _)) <| .p I (.ld Y3 I) <| bK h fun x21_13 hx21_13 h => .p I (.call I K61 I (condition_added_ok _ _ _ _ hx21_13)) <| .p I (.ml I) <| .p I (.ad I) <| .p I (.asg I) <| .nil <| .nil <| .region <| .p I (.ad I) <| .p I (.mv I) <| .nil ?_
    exact ⟨_, h, ⟨_, Fz8 I trivial⟩⟩
  · refine .exit <| .sr <| .p I (.mv I) <| .p I (.asg I) <| .nil <| .ret ?_
    cases h
    exact retOne I (.d _)
theorem slices_Index_Lint_int_ok (n : Nat) (t0 : List Int) (t1 : Int) (r : Int) (h : slices_Index_Lint_int n t0 t1 = some r) : Pure Tryz.prog 111 [.sl 1 (List.map D.int t0), .int t1] (.int r) := by
  refine Pure.ot Tryz.func111 I Tryz.ntmps111 I fun A w => .sr <| .p I (.asg I) <| .nil <| .seq <| .sr <| .p I (.mv I) <| .p I (.len I U22 I) <| .p I (.mv I) <| .nil <| .block <| .loopS [0, 1, 7] (fun (v : Int) => [(8, .d (.int v))]) (fun (v : Int) => []) (.c2 I <| .c I .nil) h ⟨_, Fz4 I <| Fz2 I <| Fz1 I trivial⟩ (fun rec_6 x8_5 h => ?_)
  refine .sr <| .p I (.ls I) <| .nil <| .keep [] [0, 1, 7, 8, 9] (.c4 I <| .c I .nil) I <| .seq <| .condS I h (fun h => ?_) fun h => ?_
  · refine .skip <| .seq <| .block <| .sr <| .p I (.mv I) <| .p I (.asg I) <| .nil <| .sr <| .p I (.mv I) <| .p I (.mv I) <| .p I (.mv I) <| bK h fun x14_7 hx14_7 h => .p I (.ix I U22 S3 hx14_7) <| .p I (.ld Y3 I) <| .p I (.eq I) <| .nil <| .condS I h (fun h => ?_) fun h => ?_
    · refine .sr <| .p I (.mv I) <| .p I (.asg I) <| .nil <| .ret ?_
      cases h
      exact retOne I (.d _)
    · refine .skip <| .region <| .p I (.ad I) <| .p I (.mv I) <| .nil ?_
      exact ⟨_, h, ⟨_, Fz4 I <| Fz2 I <| Fz1 I trivial⟩⟩
  · refine .exit <| .sr <| .p I (.asg I) <| .nil <| .ret ?_
    cases h
    exact retOne I (.d _)
theorem slices_Contains_Lint_int_ok (n : Nat) (t0 : List Int) (t1 : Int) (r : Bool) (h : slices_Contains_Lint_int n t0 t1 = some r) : Pure Tryz.prog 49 [.sl 1 (List.map D.int t0), .int t1] (.bool r) := by
  refine Pure.ot Tryz.func49 I Tryz.ntmps49 I fun A w => .sr <| .p I (.asg I) <| .nil <| .sr <| .p I (.mv I) <| .p I (.mv I) <| bK h fun x7_1 hx7_1 h => .p I (.call I K111 I (slices_Index_Lint_int_ok _ _ _ _ hx7_1)) <| .p I (.ge I) <| .p I (.asg I) <| .nil <| .ret ?_
  cases h
  exact retOne I (.d _)
theorem condition_less_1_ok (n : Nat) (t0 : Int) (t1 : Int) (r : Int) (h : condition_less_1 n t0 t1 = some r) : Pure Tryz.prog 112 [.int t0, .ref (.int t1)] (.int r) := by
  refine Pure.ot Tryz.func112 I Tryz.ntmps112 I fun A w => .sr <| .p I (.asg I) <| .nil <| .sr <| .p I (.mv I) <| .p I (.ld Y3 I) <| .p I (.sb I) <| .p I (.asg I) <| .nil <| .ret ?_
  cases h
  exact retOne I (.d _)
theorem condition_less_fn (n : Nat) (t0 : Int) : Pure Tryz.prog 52 [.int t0] (.fn (.func 112) [] [.ref (.int t0)]) := by
  refine Pure.ot Tryz.func52 I Tryz.ntmps52 I fun A w => .sr <| .p I (.bx I) <| .p I (.asg I) <| .nil <| .sr <| .p I (.makeFunc I I) <| .p I (.asg I) <| .nil <| .ret ?_
  exact retOne I (.d _)
set_option maxHeartbeats 2000000 in
theorem condition_changed_ok (n : Nat) (t0 : Row) (t1 : Int → Option Int) (t2 : Int → Option Int) (F1 : D) (hF1 : ∀ (q0 : Int) (y : Int), t1 q0 = some y → Dyn Tryz.prog F1 [.int q0] (.int y)) (F2 : D) (hF2 : ∀ (q0 : Int) (y : Int), t2 q0 = some y → Dyn Tryz.prog F2 [.int q0] (.int y)) (r : Row) (h : condition_changed n t0 t1 t2 = some r) : Pure Tryz.prog 50 [Row.enc t0, F1, F2] (Row.enc r) := by
  refine Pure.ot Tryz.func50 I Tryz.ntmps50 I fun A w => .sr <| .p I (.bx I) <| .allocZ I I I I (.agg Zc33 (ds' := [.sl 2 (List.map Term.enc []), .int 0]) (.cons (.nil _) (.cons (.refl _) (.nil)))) I <| .nil <| .sr <| .p I (.mv I) <| .p I (.fa I (G33_1 _)) <| .p I (.ld Y3 I) <| bK h fun x13_1 hx13_1 h => .p I (.dyn I I I (hF2 _ _ hx13_1)) <| .p I (.build I Pl33 (.agg Zc33 (ds' := [.val (.slice none 0 0), _]) (.cons (.refl _) (.cons (.refl _) (.nil)))) I I) <| .allocZ I I I I (.agg Zc33 (ds' := [.val (.slice none 0 0), .int 0]) (.cons (.refl _) (.cons (.refl _) (.nil)))) I <| .nilCell 1 0 2 41 I I <| .store I I I I I I (.ofD I) C33 I (Nat.le_of_ble_eq_true I) <| .nilCell 1 0 2 41 I I <| .nil <| .seq <| .sr <| .p I (.fa I (G33_0 _)) <| .p I (.ld Y31 I) <| .p I (.len I U31 I) <| .p I (.mv I) <| .nil <| .block <| .loopS [1, 6, 7, 16, 17] (fun (v : (List Term) × Int) => [(18, .d (.int v.2))]) (fun (v : (List Term) × Int) => [(1, .box 33 [.vec 3 (List.length v.1), .d (.int x13_1)]), (3, .vec 41 2 (List.map Term.enc v.1))]) (.c4 I <| .c I .nil) h ⟨_, Fz8 I <| Fz1 I trivial⟩ (fun rec_14 v h => ?_)
  obtain ⟨b3_12, x18_13⟩ := v
  refine .sr <| .p I (.ls I) <| .nil <| .keep [.box 33 [.d (.sl 2 (List.map Term.enc [])), .d (.int 0)], .box 33 [.vec 3 (List.length b3_12), .d (.int x13_1)], .vec 41 2 (List.map Term.enc ([] : List Term)), .vec 41 2 (List.map Term.enc b3_12)] [1, 6, 7, 16, 17, 18, 19] (.c4 I <| .c2 I <| .c I .nil) I <| .seq <| .condS I h (fun h => ?_) fun h => ?_
  · refine .skip <| .seq <| .block <| .sr <| bK h fun x20_15 hx20_15 h => .p I (.ix I U31 S41 hx20_15) <| .p I (.ld Y41 I) <| .allocStore I I I I I I I I (by simp) I I Z41 <| .nil <| .draw 10 Hm (by kernel_rfl) (by kernel_rfl) <| .p I (.fieldAddrLoc I I I F33_0) <| .p I (.loadLoc1 I I I Y31 I) <| .p I (.fa I (G41_0 _)) <| .p I (.ld Y3 I) <| .p I (.mv I) <| .p I (.fa I (G41_1 _)) <| .p I (.ld Y3 I) <| bK h fun x29_16 hx29_16 h => .p I (.dyn I I I (hF1 _ _ hx29_16)) <| .p I (.castD (Term.enc (⟨x20_15.cell, x29_16⟩ : Term)) I (.build I Pl41 (.agg Zc41 (ds' := [_, _]) (.cons (.refl _) (.cons (.refl _) (.nil)))) I I)) <| .p I (.buildSl [_] I I E31 I (fun _ => I) I (enc := Term.enc)) <| .nil <| bK h fun x32_17 hx32_17 h => .app I I I I I I I I E31 I (fun _ => I) hx32_17 <| .p I (.fieldAddrLoc I I I F33_0) <| .store I I I I I I (.cons (.vec I (by simp)) .nil) C31 I (Nat.le_of_ble_eq_true I) <| .nil <| .keep [.box 33 [.d (.sl 2 (List.map Term.enc [])), .d (.int 0)], .box 33 [.vec 3 (List.length x32_17), .d (.int x13_1)], .vec 41 2 (List.map Term.enc ([] : List Term)), .vec 41 2 (List.map Term.enc x32_17)] [1, 6, 7, 16, 17, 18] (.c4 I <| .c2 I .nil) I <| .region <| .p I (.ad I) <| .p I (.mv I) <| .nil ?_
    exact ⟨_, h, ⟨_, Fz8 I <| Fz1 I trivial⟩⟩
  · refine .exit <| .sr <| .p I (.loadLoc I I I Y33 (Nat.le_of_ble_eq_true I) I) <| .store I I I I I I (.cons (.vec I (by simp)) (.cons (.d I) (.nil))) C33 I (Nat.le_of_ble_eq_true I) <| .nil <| .ret ?_
    cases h
    exact retCell I I Y33 (.cons (.vec I (by simp)) (.cons (.d _) (.nil)))
theorem condition_same_ok (n : Nat) (t0 : Int) (r : Int) (h : condition_same n t0 = some r) : Pure Tryz.prog 51 [.int t0] (.int r) := by
  refine Pure.ot Tryz.func51 I Tryz.ntmps51 I fun A w => .sr <| .p I (.asg I) <| .nil <| .sr <| .p I (.mv I) <| .p I (.asg I) <| .nil <| .ret ?_
  cases h
  exact retOne I (.d _)
theorem condition_System_1_1_ok (n : Nat) (t0 : Int) (t1 : Int) (r : Int) (h : condition_System_1_1 n t0 t1 = some r) : Pure Tryz.prog 56 [.int t0, .ref (.int t1)] (.int r) := by
  refine Pure.ot Tryz.func56 I Tryz.ntmps56 I fun A w => .sr <| .p I (.asg I) <| .nil <| .sr <| .p I (.mv I) <| .p I (.neg6 I I) <| .p I (.ld Y3 I) <| .p I (.ad I) <| .p I (.sb I) <| .p I (.asg I) <| .nil <| .ret ?_
  cases h
  exact retOne I (.d _)
theorem condition_negated_ok (n : Nat) (t0 : Int) (r : Int) (h : condition_negated n t0 = some r) : Pure Tryz.prog 55 [.int t0] (.int r) := by
  refine Pure.ot Tryz.func55 I Tryz.ntmps55 I fun A w => .sr <| .p I (.asg I) <| .nil <| .sr <| .p I (.mv I) <| .p I (.neg6 I I) <| .p I (.asg I) <| .nil <| .ret ?_
  cases h
  exact retOne I (.d _)
set_option maxHeartbeats 2000000 in
theorem condition_graph_ok (n : Nat) (t0 : Constraint) (t1 : Int → Option Int) (F1 : D) (hF1 : ∀ (q0 : Int) (y : Int), t1 q0 = some y → Dyn Tryz.prog F1 [.int q0] (.int y)) (r : Graph) (h : condition_graph n t0 t1 = some r) : Pure Tryz.prog 57 [Constraint.enc t0, F1] (Graph.enc r) := by
  refine Pure.ot Tryz.func57 I Tryz.ntmps57 I fun A w => .sr <| .p I (.bx I) <| .allocZ I I I I (.agg Zc99 (ds' := [.int 0, .int 0, .sl 1 (List.map D.int [])]) (.cons (.refl _) (.cons (.refl _) (.cons (.nil _) (.nil))))) I <| .nil <| .sr <| .p I (.fa I (G78_3 _)) <| .p I (.ld Y3 I) <| .p I (.fa I (G78_4 _)) <| .p I (.ld Y3 I) <| .p I (.build I Pl99 (.agg Zc99 (ds' := [_, _, .val (.slice none 0 0)]) (.cons (.refl _) (.cons (.refl _) (.cons (.refl _) (.nil))))) I I) <| .allocZ I I I I (.agg Zc99 (ds' := [.int 0, .int 0, .val (.slice none 0 0)]) (.cons (.refl _) (.cons (.refl _) (.cons (.refl _) (.nil))))) I <| .nilCell 1 2 1 3 I I <| .store I I I I I I (.ofD I) C99 I (Nat.le_of_ble_eq_true I) <| .nilCell 1 2 1 3 I I <| .nil <| .seq <| .sr <| .p I (.fa I (G78_4 _)) <| .p I (.ld Y3 I) <| .p I (.fa I (G78_4 _)) <| .p I (.ld Y3 I) <| .p I (.ml I) <| .p I (.mv I) <| .nil <| .block <| .loopS [1, 2, 4, 5, 16] (fun (v : (List Int) × Int) => [(17, .d (.int v.2))]) (fun (v : (List Int) × Int) => [(1, .box 99 [.d (.int t0.first), .d (.int t0.size), .vec 3 (List.length v.1)]), (3, .vec 3 1 (List.map D.int v.1))]) (.c4 I <| .c I .nil) h ⟨_, Fz8 I <| Fz1 I trivial⟩ (fun rec_11 v h => ?_)
  obtain ⟨b3_9, x17_10⟩ := v
  refine .sr <| .p I (.ls I) <| .nil <| .keep [.box 99 [.d (.int 0), .d (.int 0), .d (.sl 1 (List.map D.int []))], .box 99 [.d (.int t0.first), .d (.int t0.size), .vec 3 (List.length b3_9)], .vec 3 1 (List.map D.int ([] : List Int)), .vec 3 1 (List.map D.int b3_9)] [1, 2, 4, 5, 16, 17, 18] (.c4 I <| .c2 I <| .c I .nil) I <| .seq <| .condS I h (fun h => ?_) fun h => ?_
  · refine .skip <| .seq <| .block <| .sr <| .p I (.mv I) <| .p I (.asg I) <| .nil <| .draw 10 Hm (by kernel_rfl) (by kernel_rfl) <| .p I (.fieldAddrLoc I I I F99_2) <| .p I (.loadLoc1 I I I Y22 I) <| .p I (.mv I) <| .p I (.fa I (G78_3 _)) <| .p I (.ld Y3 I) <| .p I (.mv I) <| .p I (.ad I) <| bK h fun x27_12 hx27_12 h => .p I (.dyn I I I (hF1 _ _ hx27_12)) <| .p I (.sb I) <| .p I (.buildSl [_] I I E22 I (fun _ => I) I (enc := D.int)) <| .nil <| bK h fun x30_13 hx30_13 h => .app I I I I I I I I E22 I (fun _ => I) hx30_13 <| .p I (.fieldAddrLoc I I I F99_2) <| .store I I I I I I (.cons (.vec I (by simp)) .nil) C22 I (Nat.le_of_ble_eq_true I) <| .nil <| .region <| .p I (.ad I) <| .p I (.mv I) <| .nil ?_
    exact ⟨_, h, ⟨_, Fz8 I <| Fz1 I trivial⟩⟩
  · refine .exit <| .sr <| .p I (.loadLoc I I I Y99 (Nat.le_of_ble_eq_true I) I) <| .store I I I I I I (.cons (.d I) (.cons (.d I) (.cons (.vec I (by simp)) (.nil)))) C99 I (Nat.le_of_ble_eq_true I) <| .nil <| .ret ?_
    cases h
    exact retCell I I Y99 (.cons (.d _) (.cons (.d _) (.cons (.vec I (by simp)) (.nil))))
theorem condition_System_2_ok (n : Nat) (t0 : Int) (r : Int) (h : condition_System_2 n t0 = some r) : Pure Tryz.prog 58 [.int t0] (.int r) := by
  refine Pure.ot Tryz.func58 I Tryz.ntmps58 I fun A w => .sr <| .p I (.asg I) <| .nil <| .sr <| .p I (.asg I) <| .nil <| .ret ?_
  cases h
  exact retOne I (.d _)
set_option maxHeartbeats 2000000 in
theorem condition_raised_ok (n : Nat) (t0 : Action) (t1 : Constraint) (r : List Int) (h : condition_raised n t0 t1 = some r) : Pure Tryz.prog 59 [Action.enc t0, Constraint.enc t1] (.sl 1 (List.map D.int r)) := by
  refine Pure.ot Tryz.func59 I Tryz.ntmps59 I fun A w => .sr <| .p I (.bx I) <| .p I (.bx I) <| .p I (.nilS 1 (α := Int) D.int I) <| .nil <| .sr <| .p I (.asg I) <| .nilVec 5 1 3 I <| .nil <| .seq <| .sr <| .p I (.fa I (G78_4 _)) <| .p I (.ld Y3 I) <| .p I (.fa I (G78_4 _)) <| .p I (.ld Y3 I) <| .p I (.ml I) <| .p I (.mv I) <| .nil <| .block <| .loopS [2, 3, 11] (fun (v : (List Int) × Int) => [(5, .vec 0 (List.length v.1)), (12, .d (.int v.2))]) (fun (v : (List Int) × Int) => [(0, .vec 3 1 (List.map D.int v.1))]) (.c2 I <| .c I .nil) h ⟨_, Fz8 I trivial⟩ (fun rec_15 v h => ?_)
  obtain ⟨b0_13, x12_14⟩ := v
  refine .sr <| .p I (.ls I) <| .nil <| .keep [.vec 3 1 (List.map D.int b0_13)] [2, 3, 5, 11, 12, 13] (.c4 I <| .c2 I .nil) I <| .seq <| .condS I h (fun h => ?_) fun h => ?_
  · refine .skip <| .join [2, 3, 11, 12] (fun (v : (List Int)) => [(5, .vec 0 (List.length v))]) (fun (v : (List Int)) => [(0, .vec 3 1 (List.map D.int v))]) (.c4 I .nil) h (fun k_17 h => ?_) (fun b0_16 h => ?_)
    · refine .block <| .sr <| .p I (.mv I) <| .p I (.asg I) <| .nil <| .sr <| .p I (.ld Y84 I) <| .p I (.fa I (G78_3 _)) <| .p I (.ld Y3 I) <| .p I (.mv I) <| .p I (.ad I) <| bK h fun x20_18 hx20_18 h => .p I (.call I K61 I (condition_added_ok _ _ _ _ hx20_18)) <| .p I (.gt I) <| .nil <| .condS I h (fun h => ?_) fun h => ?_
      · refine .region <| .p I (.mv I) <| .p I (.mv I) <| .p I (.buildSl [_] I I E22 I (fun _ => I) I (enc := D.int)) <| bK h fun x25_19 hx25_19 h => .app I I I I I I I I E22 I (fun _ => I) hx25_19 <| .p I (.asg I) <| .nil ?_
        exact ⟨_, h, ⟨_, Fz8 I trivial⟩⟩
      · refine .skip ?_
        exact ⟨_, h, ⟨_, Fz8 I trivial⟩⟩
    · refine .region <| .p I (.ad I) <| .p I (.mv I) <| .nil ?_
      exact ⟨_, h, ⟨_, Fz8 I trivial⟩⟩
  · refine .exit <| .sr <| .p I (.mv I) <| .p I (.asg I) <| .nil <| .ret ?_
    cases h
    exact retOne I (.vec I (by simp))
theorem condition_System_3_ok (n : Nat) (t0 : Int) (t1 : Action) (r : Int) (h : condition_System_3 n t0 t1 = some r) : Pure Tryz.prog 60 [.int t0, .ref (Action.enc t1)] (.int r) := by
  refine Pure.ot Tryz.func60 I Tryz.ntmps60 I fun A w => .sr <| .p I (.asg I) <| .nil <| .sr <| .p I (.ld Y84 I) <| .p I (.mv I) <| bK h fun x6_1 hx6_1 h => .p I (.call I K61 I (condition_added_ok _ _ _ _ hx6_1)) <| .p I (.asg I) <| .nil <| .ret ?_
  cases h
  exact retOne I (.d _)
theorem condition_System_4_ok (n : Nat) (t0 : Int) (t1 : Action) (r : Int) (h : condition_System_4 n t0 t1 = some r) : Pure Tryz.prog 62 [.int t0, .ref (Action.enc t1)] (.int r) := by
  refine Pure.ot Tryz.func62 I Tryz.ntmps62 I fun A w => .sr <| .p I (.asg I) <| .nil <| .sr <| .p I (.ld Y84 I) <| .p I (.mv I) <| bK h fun x6_1 hx6_1 h => .p I (.call I K61 I (condition_added_ok _ _ _ _ hx6_1)) <| .p I (.asg I) <| .nil <| .ret ?_
  cases h
  exact retOne I (.d _)
set_option maxHeartbeats 2000000 in
theorem interval_box_ok (n : Nat) (t0 : List Range) (r : Bool) (h : interval_box n t0 = some r) : Pure Tryz.prog 175 [.sl 2 (List.map Range.enc t0)] (.bool r) := by
  refine Pure.ot Tryz.func175 I Tryz.ntmps175 I fun A w => .sr <| .p I (.asg I) <| .nil <| .seq <| .sr <| .p I (.mv I) <| .p I (.len I U48 I) <| .p I (.mv I) <| .nil <| .block <| .loopS [0, 5, 6] (fun (v : Int) => [(7, .d (.int v))]) (fun (v : Int) => []) (.c2 I <| .c I .nil) h ⟨_, Fz4 I <| Fz2 I <| Fz1 I trivial⟩ (fun rec_12 x7_11 h => ?_)
  refine .sr <| .p I (.ls I) <| .nil <| .keep [] [0, 5, 6, 7, 8] (.c4 I <| .c I .nil) I <| .seq <| .condS I h (fun h => ?_) fun h => ?_
  · refine .skip <| .seq <| .block <| .sr <| bK h fun x9_13 hx9_13 h => .p I (.ix I U48 S87 hx9_13) <| .p I (.ld Y87 I) <| .allocStore I I I I I I I I (by simp) I I Z87 <| .nil <| .seq <| .plain 18 I <| .p I (.fa I (G87_0 _)) <| .p I (.ld Y3 I) <| .p I (.ls I) <| .p I (.mv I) <| .jOr 3 (b2 := decide (1000000 < x9_13.lo)) I I I I (.inl I) (fun _ _ _ h1 => by cases h1) I I (fun hb_14 => ?_) ?_
    · refine .q I (.fa I (G87_0 _)) <| .q I (.ld Y3 I) <| .q I (.gt I) ?_
      exact .nil I
    refine .p I (.mv I) <| .jOr 3 (b2 := decide (x9_13.hi < (-1000000))) I I I I (.inl I) (fun _ _ _ h1 => by cases h1) I I (fun hb_15 => ?_) ?_
    · refine .q I (.fa I (G87_1 _)) <| .q I (.ld Y3 I) <| .q I (.ls I) ?_
      exact .nil I
    refine .p I (.mv I) <| .jOr 3 (b2 := decide (1000000 < x9_13.hi)) I I I I (.inl I) (fun _ _ _ h1 => by cases h1) I I (fun hb_16 => ?_) ?_
    · refine .q I (.fa I (G87_1 _)) <| .q I (.ld Y3 I) <| .q I (.gt I) ?_
      exact .nil I
    refine .nil <| .nil <| .keep [] [0, 5, 6, 7, 28] (.c4 I <| .c I .nil) I <| .condS I h (fun h => ?_) fun h => ?_
    · refine .sr <| .p I (.asg I) <| .nil <| .ret ?_
      cases h
      exact retOne I (.d _)
    · refine .skip <| .region <| .p I (.ad I) <| .p I (.mv I) <| .nil ?_
      exact ⟨_, h, ⟨_, Fz4 I <| Fz2 I <| Fz1 I trivial⟩⟩
  · refine .exit <| .sr <| .p I (.mv I) <| .p I (.len I U48 I) <| .p I (.le I) <| .p I (.asg I) <| .nil <| .ret ?_
    cases h
    exact retOne I (.d _)
set_option maxHeartbeats 2000000 in
theorem interval_fits_ok (n : Nat) (t0 : Int) (t1 : Row) (r : Bool) (h : interval_fits n t0 t1 = some r) : Pure Tryz.prog 178 [.int t0, Row.enc t1] (.bool r) := by
  refine Pure.ot Tryz.func178 I Tryz.ntmps178 I fun A w => .sr <| .p I (.bx I) <| .p I (.asg I) <| .nil <| .sr <| .p I (.asg I) <| .nil <| .seq <| .sr <| .p I (.fa I (G33_0 _)) <| .p I (.ld Y31 I) <| .p I (.len I U31 I) <| .p I (.mv I) <| .nil <| .block <| .loopS [0, 3, 9, 10] (fun (v : Int × Int) => [(5, .d (.int v.1)), (11, .d (.int v.2))]) (fun (v : Int × Int) => []) (.c4 I .nil) h ⟨_, Fz8 I <| Fz1 I trivial⟩ (fun rec_17 v h => ?_)
  obtain ⟨x5_15, x11_16⟩ := v
  refine .sr <| .p I (.ls I) <| .nil <| .keep [] [0, 3, 5, 9, 10, 11, 12] (.c4 I <| .c2 I <| .c I .nil) I <| .seq <| .condS I h (fun h => ?_) fun h => ?_
  · refine .skip <| .seq <| .block <| .sr <| bK h fun x13_18 hx13_18 h => .p I (.ix I U31 S41 hx13_18) <| .p I (.ld Y41 I) <| .allocStore I I I I I I I I (by simp) I I Z41 <| .nil <| .seq <| .seq <| .plain 25 I <| .p I (.fa I (G41_0 _)) <| .p I (.ld Y3 I) <| .p I (.mv I) <| .p I (.le I) <| .p I (.mv I) <| .jOr 4 (b2 := decide (t0 ≤ x13_18.cell)) I I I I (.inl I) (fun _ _ _ h1 => by cases h1) I I (fun hb_19 => ?_) ?_
    · refine .q I (.fa I (G41_0 _)) <| .q I (.ld Y3 I) <| .q I (.mv I) <| .q I (.ge I) ?_
      exact .nil I
    refine .p I (.mv I) <| .jOr 3 (b2 := x13_18.factor == 0) I I I I (.inl I) (fun _ _ _ h1 => by cases h1) I I (fun hb_20 => ?_) ?_
    · refine .q I (.fa I (G41_1 _)) <| .q I (.ld Y3 I) <| .q I (.eq I) ?_
      exact .nil I
    refine .p I (.mv I) <| .jOr 3 (b2 := decide (x13_18.factor < (-1000))) I I I I (.inl I) (fun _ _ _ h1 => by cases h1) I I (fun hb_21 => ?_) ?_
    · refine .q I (.fa I (G41_1 _)) <| .q I (.ld Y3 I) <| .q I (.ls I) ?_
      exact .nil I
    refine .p I (.mv I) <| .jOr 3 (b2 := decide (1000 < x13_18.factor)) I I I I (.inl I) (fun _ _ _ h1 => by cases h1) I I (fun hb_22 => ?_) ?_
    · refine .q I (.fa I (G41_1 _)) <| .q I (.ld Y3 I) <| .q I (.gt I) ?_
      exact .nil I
    refine .nil <| .nil <| .keep [] [0, 3, 7, 9, 10, 11, 39] (.c4 I <| .c2 I <| .c I .nil) I <| .condS I h (fun h => ?_) fun h => ?_
    · refine .sr <| .p I (.asg I) <| .nil <| .ret ?_
      cases h
      exact retOne I (.d _)
    · refine .skip <| .region <| .p I (.fa I (G41_0 _)) <| .p I (.ld Y3 I) <| .p I (.asg I) <| .nil <| .region <| .p I (.ad I) <| .p I (.mv I) <| .nil ?_
      exact ⟨_, h, ⟨_, Fz8 I <| Fz1 I trivial⟩⟩
  · refine .exit <| .seq <| .plain 8 I <| .p I (.fa I (G33_1 _)) <| .p I (.ld Y3 I) <| .p I (.ge I) <| .p I (.mv I) <| .jAnd 3 (b2 := decide (t1.bound ≤ 1000000000)) I I I I (.inl I) (fun _ _ _ h1 => by cases h1) I I (fun hb_23 => ?_) ?_
    · refine .q I (.fa I (G33_1 _)) <| .q I (.ld Y3 I) <| .q I (.le I) ?_
      exact .nil I
    refine .nil <| .p I (.asg I) <| .nil <| .ret ?_
    cases h
    exact retOne I (.d _)
theorem interval_Valid_1_ok (n : Nat) (t0 : Row) (t1 : List Range) (r : Bool) (h : interval_Valid_1 n t0 t1 = some r) : Pure Tryz.prog 177 [Row.enc t0, .ref (.sl 2 (List.map Range.enc t1))] (.bool r) := by
  refine Pure.ot Tryz.func177 I Tryz.ntmps177 I fun A w => .sr <| .p I (.bx I) <| .p I (.asg I) <| .nil <| .sr <| .p I (.ld Y48 I) <| .p I (.len I U48 I) <| .p I (.ld Y33 I) <| bK h fun x7_1 hx7_1 h => .p I (.call I K178 I (interval_fits_ok _ _ _ _ hx7_1)) <| .p I (.nt I) <| .p I (.asg I) <| .nil <| .ret ?_
  cases h
  exact retOne I (.d _)
theorem interval_Valid_ok (n : Nat) (t0 : List Range) (t1 : List Row) (r : Bool) (h : interval_Valid n t0 t1 = some r) : Pure Tryz.prog 115 [.sl 2 (List.map Range.enc t0), .sl 2 (List.map Row.enc t1)] (.bool r) := by
  refine Pure.ot Tryz.func115 I Tryz.ntmps115 I fun A w => .sr <| .p I (.bx I) <| .p I (.asg I) <| .nil <| .seq <| .plain 8 I <| .p I (.ld Y48 I) <| bK h fun x6_1 hx6_1 h => .p I (.call I K175 I (interval_box_ok _ _ _ hx6_1)) <| .p I (.mv I) <| gK h fun hc_3 h => .jAnd 4 (b2 := !((slices_ContainsFunc_LRow_api_Row n t1 (fun q0 => interval_Valid_1 n q0 t0)).getD default)) I I I I (.inl I) (fun _ _ _ h1 => by cases h1) I I (fun hb_2 => ?_) ?_
  · refine .q I (.mv I) <| .q I (.makeFunc I I) <| .q I (.call I K176 I (slices_ContainsFunc_LRow_api_Row_ok _ _ _ _ (fun q0 y hq => ⟨_, _, I, K177, interval_Valid_1_ok _ q0 _ _ hq⟩) _ (someD (impT hc_3 hb_2)))) <| .q I (.nt I) ?_
    exact .nil I
  refine .nil <| .p I (.asg I) <| .nil <| .ret ?_
  cases h
  exact retOne I (.d _)
theorem slices_IndexFunc_LRange_api_Range_ok (n : Nat) (t0 : List Range) (t1 : Range → Option Bool) (F1 : D) (hF1 : ∀ (q0 : Range) (y : Bool), t1 q0 = some y → Dyn Tryz.prog F1 [Range.enc q0] (.bool y)) (r : Int) (h : slices_IndexFunc_LRange_api_Range n t0 t1 = some r) : Pure Tryz.prog 214 [.sl 2 (List.map Range.enc t0), F1] (.int r) := by
  refine Pure.ot Tryz.func214 I Tryz.ntmps214 I fun A w => .sr <| .p I (.asg I) <| .nil <| .seq <| .sr <| .p I (.mv I) <| .p I (.len I U48 I) <| .p I (.mv I) <| .nil <| .block <| .loopS [0, 1, 7] (fun (v : Int) => [(8, .d (.int v))]) (fun (v : Int) => []) (.c2 I <| .c I .nil) h ⟨_, Fz4 I <| Fz2 I <| Fz1 I trivial⟩ (fun rec_8 x8_7 h => ?_)
  refine .sr <| .p I (.ls I) <| .nil <| .keep [] [0, 1, 7, 8, 9] (.c4 I <| .c I .nil) I <| .seq <| .condS I h (fun h => ?_) fun h => ?_
  · refine .skip <| .seq <| .block <| .sr <| .p I (.mv I) <| .p I (.asg I) <| .nil <| .sr <| .p I (.mv I) <| .p I (.mv I) <| .p I (.mv I) <| bK h fun x14_9 hx14_9 h => .p I (.ix I U48 S87 hx14_9) <| .p I (.ld Y87 I) <| bK h fun x16_10 hx16_10 h => .p I (.dyn I I I (hF1 _ _ hx16_10)) <| .nil <| .condS I h (fun h => ?_) fun h => ?_
    · refine .sr <| .p I (.mv I) <| .p I (.asg I) <| .nil <| .ret ?_
      cases h
      exact retOne I (.d _)
    · refine .skip <| .region <| .p I (.ad I) <| .p I (.mv I) <| .nil ?_
      exact ⟨_, h, ⟨_, Fz4 I <| Fz2 I <| Fz1 I trivial⟩⟩
  · refine .exit <| .sr <| .p I (.asg I) <| .nil <| .ret ?_
    cases h
    exact retOne I (.d _)
end Go.Proofs.YtcagdmegicijlaaGreatDoor
namespace Go.Proofs.YtcagdmegicijlaaGreatDoor
open Go Go.RowKit
theorem slices_ContainsFunc_LRange_api_Range_ok (n : Nat) (t0 : List Range) (t1 : Range → Option Bool) (F1 : D) (hF1 : ∀ (q0 : Range) (y : Bool), t1 q0 = some y → Dyn Tryz.prog F1 [Range.enc q0] (.bool y)) (r : Bool) (h : slices_ContainsFunc_LRange_api_Range n t0 t1 = some r) : Pure Tryz.prog 179 [.sl 2 (List.map Range.enc t0), F1] (.bool r) := by
  refine Pure.ot Tryz.func179 I Tryz.ntmps179 I fun A w => .sr <| .p I (.asg I) <| .nil <| .sr <| .p I (.mv I) <| .p I (.mv I) <| bK h fun x7_1 hx7_1 h => .p I (.call I K214 I (slices_IndexFunc_LRange_api_Range_ok _ _ _ _ hF1 _ hx7_1)) <| .p I (.ge I) <| .p I (.asg I) <| .nil <| .ret ?_
  cases h
  exact retOne I (.d _)
theorem interval_empty_ok (n : Nat) (t0 : Range) (r : Bool) (h : interval_empty n t0 = some r) : Pure Tryz.prog 180 [Range.enc t0] (.bool r) := by
  refine Pure.ot Tryz.func180 I Tryz.ntmps180 I fun A w => .sr <| .p I (.bx I) <| .p I (.asg I) <| .nil <| .sr <| .p I (.fa I (G87_0 _)) <| .p I (.ld Y3 I) <| .p I (.fa I (G87_1 _)) <| .p I (.ld Y3 I) <| .p I (.gt I) <| .p I (.asg I) <| .nil <| .ret ?_
  cases h
  exact retOne I (.d _)
theorem interval_Empty_ok (n : Nat) (t0 : List Range) (r : Bool) (h : interval_Empty n t0 = some r) : Pure Tryz.prog 116 [.sl 2 (List.map Range.enc t0)] (.bool r) := by
  refine Pure.ot Tryz.func116 I Tryz.ntmps116 I fun A w => .sr <| .p I (.asg I) <| .nil <| .sr <| .p I (.mv I) <| bK h fun x4_1 hx4_1 h => .p I (.call I K179 I (slices_ContainsFunc_LRange_api_Range_ok _ _ _ _ (fun q0 y hq => ⟨_, _, I, K180, interval_empty_ok _ q0 _ hq⟩) _ hx4_1)) <| .p I (.asg I) <| .nil <| .ret ?_
  cases h
  exact retOne I (.d _)
theorem system_rows_ok (n : Nat) (t0 : System) (t1 : List Row) (t2 : Int) (r : Bool) (h : system_rows n t0 t1 t2 = some r) : Pure Tryz.prog 117 [System.enc t0, .sl 2 (List.map Row.enc t1), .int t2] (.bool r) := by
  refine Pure.ot Tryz.func117 I Tryz.ntmps117 I fun A w => .sr <| .p I (.bx I) <| .p I (.asg I) <| .nil <| .seq <| .plain 10 I <| .p I (.mv I) <| .p I (.len I U49 I) <| .p I (.mv I) <| .p I (.le I) <| .p I (.mv I) <| gK h fun hc_2 h => .jAnd 4 (b2 := ((interval_Valid n t0.box t1).getD default)) I I I I (.inl I) (fun _ _ _ h1 => by cases h1) I I (fun hb_1 => ?_) ?_
  · refine .q I (.fa I (G53_0 _)) <| .q I (.ld Y48 I) <| .q I (.mv I) <| .q I (.call I K115 I (interval_Valid_ok _ _ _ _ (someD (impT hc_2 hb_1)))) ?_
    exact .nil I
  refine .nil <| .p I (.asg I) <| .nil <| .ret ?_
  cases h
  exact retOne I (.d _)
theorem system_graph_1_ok (n : Nat) (t0 : Int) (r : Bool) (h : system_graph_1 n t0 = some r) : Pure Tryz.prog 181 [.int t0] (.bool r) := by
  refine Pure.ot Tryz.func181 I Tryz.ntmps181 I fun A w => .sr <| .p I (.asg I) <| .nil <| .seq <| .plain 6 I <| .p I (.mv I) <| .p I (.ls I) <| .p I (.mv I) <| .jOr 2 (b2 := decide (4000000 < t0)) I I I I (.inl I) (fun _ _ _ h1 => by cases h1) I I (fun hb_1 => ?_) ?_
  · refine .q I (.mv I) <| .q I (.gt I) ?_
    exact .nil I
  refine .nil <| .p I (.asg I) <| .nil <| .ret ?_
  cases h
  exact retOne I (.d _)
set_option maxHeartbeats 2000000 in
theorem system_graph_ok (n : Nat) (t0 : Int) (t1 : Graph) (r : Bool) (h : system_graph n t0 t1 = some r) : Pure Tryz.prog 118 [.int t0, Graph.enc t1] (.bool r) := by
  refine Pure.ot Tryz.func118 I Tryz.ntmps118 I fun A w => .sr <| .p I (.bx I) <| .p I (.asg I) <| .nil <| .seq <| .seq <| .plain 36 I <| .p I (.fa I (G99_1 _)) <| .p I (.ld Y3 I) <| .p I (.ls I) <| .p I (.mv I) <| .jOr 3 (b2 := decide (6 < t1.size)) I I I I (.inl I) (fun _ _ _ h1 => by cases h1) I I (fun hb_1 => ?_) ?_
  · refine .q I (.fa I (G99_1 _)) <| .q I (.ld Y3 I) <| .q I (.gt I) ?_
    exact .nil I
  refine .p I (.mv I) <| .jOr 3 (b2 := decide (t1.first < 0)) I I I I (.inl I) (fun _ _ _ h1 => by cases h1) I I (fun hb_2 => ?_) ?_
  · refine .q I (.fa I (G99_0 _)) <| .q I (.ld Y3 I) <| .q I (.ls I) ?_
    exact .nil I
  refine .p I (.mv I) <| .jOr 10 (b2 := decide (sub64 t0 (mul64 t1.size t1.size) < t1.first)) I I I I (.inl I) (fun _ _ _ h1 => by cases h1) I I (fun hb_3 => ?_) ?_
  · refine .q I (.fa I (G99_0 _)) <| .q I (.ld Y3 I) <| .q I (.mv I) <| .q I (.fa I (G99_1 _)) <| .q I (.ld Y3 I) <| .q I (.fa I (G99_1 _)) <| .q I (.ld Y3 I) <| .q I (.ml I) <| .q I (.sb I) <| .q I (.gt I) ?_
    exact .nil I
  refine .p I (.mv I) <| .jOr 9 (b2 := (t1.least.length : Int) != (mul64 t1.size t1.size)) I I I I (.inl I) (fun _ _ _ h1 => by cases h1) I I (fun hb_4 => ?_) ?_
  · refine .q I (.fa I (G99_2 _)) <| .q I (.ld Y22 I) <| .q I (.len I U22 I) <| .q I (.fa I (G99_1 _)) <| .q I (.ld Y3 I) <| .q I (.fa I (G99_1 _)) <| .q I (.ld Y3 I) <| .q I (.ml I) <| .q I (.ne I) ?_
    exact .nil I
  refine .nil <| .nil <| .keep [] [3, 40] (.c2 I .nil) I <| .condS I h (fun h => ?_) fun h => ?_
  · refine .sr <| .p I (.asg I) <| .nil <| .ret ?_
    cases h
    exact retOne I (.d _)
  · refine .skip <| .sr <| .p I (.fa I (G99_2 _)) <| .p I (.ld Y22 I) <| bK h fun x43_5 hx43_5 h => .p I (.call I K154 I (slices_ContainsFunc_Lint_int_ok _ _ _ _ (fun q0 y hq => ⟨_, _, I, K181, system_graph_1_ok _ q0 _ hq⟩) _ hx43_5)) <| .p I (.nt I) <| .p I (.asg I) <| .nil <| .ret ?_
    cases h
    exact retOne I (.d _)
theorem system_Valid_1_ok (n : Nat) (t0 : List Row) (t1 : System) (r : Bool) (h : system_Valid_1 n t0 t1 = some r) : Pure Tryz.prog 120 [.sl 2 (List.map Row.enc t0), .ref (System.enc t1)] (.bool r) := by
  refine Pure.ot Tryz.func120 I Tryz.ntmps120 I fun A w => .sr <| .p I (.asg I) <| .nil <| .sr <| .p I (.ld Y53 I) <| .p I (.mv I) <| bK h fun x6_1 hx6_1 h => .p I (.call I K117 I (system_rows_ok _ _ _ _ _ hx6_1)) <| .p I (.nt I) <| .p I (.asg I) <| .nil <| .ret ?_
  cases h
  exact retOne I (.d _)
theorem slices_IndexFunc_LLRow_LRow_ok (n : Nat) (t0 : List (List Row)) (t1 : (List Row) → Option Bool) (F1 : D) (hF1 : ∀ (q0 : List Row) (y : Bool), t1 q0 = some y → Dyn Tryz.prog F1 [.sl 2 (List.map Row.enc q0)] (.bool y)) (r : Int) (h : slices_IndexFunc_LLRow_LRow n t0 t1 = some r) : Pure Tryz.prog 182 [.sl 1 (List.map (fun l => D.sl 2 (List.map Row.enc l)) t0), F1] (.int r) := by
  refine Pure.ot Tryz.func182 I Tryz.ntmps182 I fun A w => .sr <| .p I (.asg I) <| .nil <| .seq <| .sr <| .p I (.mv I) <| .p I (.len I U51 I) <| .p I (.mv I) <| .nil <| .block <| .loopS [0, 1, 7] (fun (v : Int) => [(8, .d (.int v))]) (fun (v : Int) => []) (.c2 I <| .c I .nil) h ⟨_, Fz4 I <| Fz2 I <| Fz1 I trivial⟩ (fun rec_8 x8_7 h => ?_)
  refine .sr <| .p I (.ls I) <| .nil <| .keep [] [0, 1, 7, 8, 9] (.c4 I <| .c I .nil) I <| .seq <| .condS I h (fun h => ?_) fun h => ?_
  · refine .skip <| .seq <| .block <| .sr <| .p I (.mv I) <| .p I (.asg I) <| .nil <| .sr <| .p I (.mv I) <| .p I (.mv I) <| .p I (.mv I) <| bK h fun x14_9 hx14_9 h => .p I (.ix I U51 S49 hx14_9) <| .p I (.ld Y49 I) <| bK h fun x16_10 hx16_10 h => .p I (.dyn I I I (hF1 _ _ hx16_10)) <| .nil <| .condS I h (fun h => ?_) fun h => ?_
    · refine .sr <| .p I (.mv I) <| .p I (.asg I) <| .nil <| .ret ?_
      cases h
      exact retOne I (.d _)
    · refine .skip <| .region <| .p I (.ad I) <| .p I (.mv I) <| .nil ?_
      exact ⟨_, h, ⟨_, Fz4 I <| Fz2 I <| Fz1 I trivial⟩⟩
  · refine .exit <| .sr <| .p I (.asg I) <| .nil <| .ret ?_
    cases h
    exact retOne I (.d _)
theorem slices_ContainsFunc_LLRow_LRow_ok (n : Nat) (t0 : List (List Row)) (t1 : (List Row) → Option Bool) (F1 : D) (hF1 : ∀ (q0 : List Row) (y : Bool), t1 q0 = some y → Dyn Tryz.prog F1 [.sl 2 (List.map Row.enc q0)] (.bool y)) (r : Bool) (h : slices_ContainsFunc_LLRow_LRow n t0 t1 = some r) : Pure Tryz.prog 119 [.sl 1 (List.map (fun l => D.sl 2 (List.map Row.enc l)) t0), F1] (.bool r) := by
  refine Pure.ot Tryz.func119 I Tryz.ntmps119 I fun A w => .sr <| .p I (.asg I) <| .nil <| .sr <| .p I (.mv I) <| .p I (.mv I) <| bK h fun x7_1 hx7_1 h => .p I (.call I K182 I (slices_IndexFunc_LLRow_LRow_ok _ _ _ _ hF1 _ hx7_1)) <| .p I (.ge I) <| .p I (.asg I) <| .nil <| .ret ?_
  cases h
  exact retOne I (.d _)
set_option maxHeartbeats 2000000 in
theorem system_Valid_ok (n : Nat) (t0 : System) (r : Bool) (h : system_Valid n t0 = some r) : Pure Tryz.prog 64 [System.enc t0] (.bool r) := by
  refine Pure.ot Tryz.func64 I Tryz.ntmps64 I fun A w => .sr <| .p I (.bx I) <| .p I (.asg I) <| .nil <| .seq <| .seq <| .plain 28 I <| .p I (.fa I (G53_0 _)) <| .p I (.ld Y48 I) <| bK h fun x7_1 hx7_1 h => .p I (.callLe I K115 I (.cons (.refl _) (.cons (.nil _) (.nil))) (interval_Valid_ok _ _ _ _ hx7_1)) <| .p I (.nt I) <| .p I (.mv I) <| gK h fun hc_3 h => .jOr 3 (b2 := ((interval_Empty n t0.box).getD default)) I I I I (.inl I) (fun _ _ _ h1 => by cases h1) I I (fun hb_2 => ?_) ?_
  · refine .q I (.fa I (G53_0 _)) <| .q I (.ld Y48 I) <| .q I (.call I K116 I (interval_Empty_ok _ _ _ (someD (impF hc_3 hb_2)))) ?_
    exact .nil I
  refine .p I (.mv I) <| gK h fun hc_5 h => .jOr 5 (b2 := !((system_rows n t0 t0.rows 1024).getD default)) I I I I (.inl I) (fun _ _ _ h1 => by cases h1) I I (fun hb_4 => ?_) ?_
  · refine .q I (.ld Y53 I) <| .q I (.fa I (G53_1 _)) <| .q I (.ld Y49 I) <| .q I (.call I K117 I (system_rows_ok _ _ _ _ _ (someD (impF hc_5 hb_4)))) <| .q I (.nt I) ?_
    exact .nil I
  refine .p I (.mv I) <| .jOr 4 (b2 := decide (64 < (t0.graphs.length : Int))) I I I I (.inl I) (fun _ _ _ h1 => by cases h1) I I (fun hb_6 => ?_) ?_
  · refine .q I (.fa I (G53_2 _)) <| .q I (.ld Y50 I) <| .q I (.len I U50 I) <| .q I (.gt I) ?_
    exact .nil I
  refine .p I (.mv I) <| .jOr 4 (b2 := decide (1024 < (t0.cases.length : Int))) I I I I (.inl I) (fun _ _ _ h1 => by cases h1) I I (fun hb_7 => ?_) ?_
  · refine .q I (.fa I (G53_3 _)) <| .q I (.ld Y51 I) <| .q I (.len I U51 I) <| .q I (.gt I) ?_
    exact .nil I
  refine .nil <| .nil <| .keep [] [1, 32] (.c2 I .nil) I <| .condS I h (fun h => ?_) fun h => ?_
  · refine .sr <| .p I (.asg I) <| .nil <| .ret ?_
    cases h
    exact retOne I (.d _)
  · refine .skip <| .seq <| .sr <| .p I (.fa I (G53_2 _)) <| .p I (.ld Y50 I) <| .p I (.len I U50 I) <| .p I (.mv I) <| .nil <| .block <| .loopS [1, 34, 35] (fun (v : Int) => [(36, .d (.int v))]) (fun (v : Int) => []) (.c2 I <| .c I .nil) h ⟨_, Fz4 I <| Fz2 I <| Fz1 I trivial⟩ (fun rec_15 x36_14 h => ?_)
    refine .sr <| .p I (.ls I) <| .nil <| .keep [] [1, 34, 35, 36, 37] (.c4 I <| .c I .nil) I <| .seq <| .condS I h (fun h => ?_) fun h => ?_
    · refine .skip <| .seq <| .block <| .sr <| bK h fun x38_16 hx38_16 h => .p I (.ix I U50 S99 hx38_16) <| .p I (.ld Y99 I) <| .allocStore I I I I I I I I (by simp) I I Z99 <| .nil <| .sr <| .p I (.fa I (G53_0 _)) <| .p I (.ld Y48 I) <| .p I (.len I U48 I) <| .p I (.ld Y99 I) <| bK h fun x44_17 hx44_17 h => .p I (.call I K118 I (system_graph_ok _ _ _ _ hx44_17)) <| .p I (.nt I) <| .nil <| .condS I h (fun h => ?_) fun h => ?_
      · refine .sr <| .p I (.asg I) <| .nil <| .ret ?_
        cases h
        exact retOne I (.d _)
      · refine .skip <| .region <| .p I (.ad I) <| .p I (.mv I) <| .nil ?_
        exact ⟨_, h, ⟨_, Fz4 I <| Fz2 I <| Fz1 I trivial⟩⟩
    · refine .exit <| .sr <| .p I (.fa I (G53_3 _)) <| .p I (.ld Y51 I) <| .p I (.makeFunc I I) <| bK h fun x50_18 hx50_18 h => .p I (.call I K119 I (slices_ContainsFunc_LLRow_LRow_ok _ _ _ _ (fun q0 y hq => ⟨_, _, I, K120, system_Valid_1_ok _ q0 _ _ hq⟩) _ hx50_18)) <| .p I (.nt I) <| .p I (.asg I) <| .nil <| .ret ?_
      cases h
      exact retOne I (.d _)
set_option maxHeartbeats 2000000 in
theorem condition_System_ok (n : Nat) (t0 : Model) (t1 : Question) (t2 : List Int) (r : System × Int) (h : condition_System n t0 t1 t2 = some r) : Pure Tryz.prog 19 [Model.enc t0, Question.enc t1, .sl 1 (List.map D.int t2)] (.tup [System.enc r.1, .int r.2]) := by
  refine Pure.ot Tryz.func19 I Tryz.ntmps19 I fun A w => .sr <| .p I (.bx I) <| .p I (.bx I) <| .allocZ I I I I (.agg Zc53 (ds' := [.sl 2 (List.map Range.enc []), .sl 2 (List.map Row.enc []), .sl 3 (List.map Graph.enc []), .sl 1 (List.map (fun l => D.sl 2 (List.map Row.enc l)) [])]) (.cons (.nil _) (.cons (.nil _) (.cons (.nil _) (.cons (.nil _) (.nil)))))) I <| .p I (.asg I) <| .nil <| .seq <| .sr <| .p I (.ld Y30 I) <| .p I (.ld Y37 I) <| bK h fun x28_1 hx28_1 h => .p I (.call I K43 I (symmetry_Valid_ok _ _ _ _ hx28_1)) <| .p I (.nt I) <| .nil <| .condS I h (fun h => ?_) fun h => ?_
  · refine .sr <| .p I (.castD (System.enc (⟨[], [], [], []⟩ : System)) I (.build I Pl53 (.agg Zc53 (ds' := [.sl 2 (List.map Range.enc []), .sl 2 (List.map Row.enc []), .sl 3 (List.map Graph.enc []), .sl 1 (List.map (fun l => D.sl 2 (List.map Row.enc l)) [])]) (.cons (.nil _) (.cons (.nil _) (.cons (.nil _) (.cons (.nil _) (.nil)))))) I I)) <| .store I I I I I I (.ofD I) C53 I (Nat.le_of_ble_eq_true I) <| .p I (.asg I) <| .nil <| .ret ?_
    cases h
    exact retCellTmp I I Y53 (.cons (.d _) (.cons (.d _) (.cons (.d _) (.cons (.d _) (.nil))))) I (.d _)
  · refine .skip <| .seq <| .sr <| .p I (.mv I) <| .p I (.len I U22 I) <| .p I (.mv I) <| .nil <| .block <| .loopS [2, 3, 4, 6, 31, 32] (fun (v : Int) => [(33, .d (.int v))]) (fun (v : Int) => []) (.c4 I <| .c2 I .nil) h ⟨_, Fz8 I <| Fz2 I trivial⟩ (fun rec_13 x33_12 h => ?_)
    refine .sr <| .p I (.ls I) <| .nil <| .keep [.box 53 [.d (.sl 2 (List.map Range.enc [])), .d (.sl 2 (List.map Row.enc [])), .d (.sl 3 (List.map Graph.enc [])), .d (.sl 1 (List.map (fun l => D.sl 2 (List.map Row.enc l)) []))]] [2, 3, 4, 6, 31, 32, 33, 34] (.c8 I .nil) I <| .seq <| .condS I h (fun h => ?_) fun h => ?_
    · refine .skip <| .seq <| .block <| .sr <| bK h fun x35_14 hx35_14 h => .p I (.ix I U22 S3 hx35_14) <| .p I (.ld Y3 I) <| .p I (.asg I) <| .nil <| .seq <| .plain 18 I <| .p I (.mv I) <| .p I (.ls I) <| .p I (.mv I) <| .jOr 5 (b2 := decide ((t0.constraints.length : Int) ≤ x35_14)) I I I I (.inl I) (fun _ _ _ h1 => by cases h1) I I (fun hb_15 => ?_) ?_
      · refine .q I (.mv I) <| .q I (.fa I (G30_3 _)) <| .q I (.ld Y25 I) <| .q I (.len I U25 I) <| .q I (.ge I) ?_
        exact .nil I
      refine .p I (.mv I) <| gK h fun hc_17 h => .jOr 7 (b2 := (((idx t0.constraints x35_14).getD default).kind) != 0) I I I I (.inl I) (fun _ _ _ h1 => by cases h1) I I (fun hb_16 => ?_) ?_
      · refine .q I (.fa I (G30_3 _)) <| .q I (.ld Y25 I) <| .q I (.mv I) <| .q I (.ix I U25 S78 (someD (impF hc_17 hb_16))) <| .q I (.fa I (G78_0 _)) <| .q I (.ld Y3 I) <| .q I (.ne I) ?_
        exact .nil I
      refine .nil <| .nil <| .keep [.box 53 [.d (.sl 2 (List.map Range.enc [])), .d (.sl 2 (List.map Row.enc [])), .d (.sl 3 (List.map Graph.enc [])), .d (.sl 1 (List.map (fun l => D.sl 2 (List.map Row.enc l)) []))]] [2, 3, 4, 6, 31, 32, 33, 54] (.c8 I .nil) I <| .condS I h (fun h => ?_) fun h => ?_
      · refine .sr <| .p I (.castD (System.enc (⟨[], [], [], []⟩ : System)) I (.build I Pl53 (.agg Zc53 (ds' := [.sl 2 (List.map Range.enc []), .sl 2 (List.map Row.enc []), .sl 3 (List.map Graph.enc []), .sl 1 (List.map (fun l => D.sl 2 (List.map Row.enc l)) [])]) (.cons (.nil _) (.cons (.nil _) (.cons (.nil _) (.cons (.nil _) (.nil)))))) I I)) <| .store I I I I I I (.ofD I) C53 I (Nat.le_of_ble_eq_true I) <| .p I (.asg I) <| .nil <| .ret ?_
        cases h
        exact retCellTmp I I Y53 (.cons (.d _) (.cons (.d _) (.cons (.d _) (.cons (.d _) (.nil))))) I (.d _)
      · refine .skip <| .region <| .p I (.ad I) <| .p I (.mv I) <| .nil ?_
        exact ⟨_, h, ⟨_, Fz8 I <| Fz2 I trivial⟩⟩
    · refine .exit <| .seq <| .draw 16 Hm (by kernel_rfl) (by kernel_rfl) <| .p I (.fa I (G30_5 _)) <| .p I (.ld Y27 I) <| .p I (.fa I (G37_0 _)) <| .p I (.ld Y3 I) <| bK h fun x61_18 hx61_18 h => .p I (.ix I U27 S84 hx61_18) <| .p I (.ld Y84 I) <| .p I (.fa I (G30_5 _)) <| .p I (.ld Y27 I) <| .p I (.fa I (G37_1 _)) <| .p I (.ld Y3 I) <| bK h fun x67_19 hx67_19 h => .p I (.ix I U27 S84 hx67_19) <| .p I (.ld Y84 I) <| .alloc I I I I ZZ84 <| .alloc I I I I ZZ84 <| .store I I I I I I Z84 <| .store I I I I I I Z84 <| .nil <| .freezes [1, 2] (.cons (t := 10) (d := .ref (Action.enc x61_18)) I (.loc (inIds I) I (.cons (.d _) (.cons (.d _) (.cons (.d _) (.cons (.d _) (.cons (.d _) (.nil))))))) (.cons (t := 11) (d := .ref (Action.enc x67_19)) I (.loc (inIds I) I (.cons (.d _) (.cons (.d _) (.cons (.d _) (.cons (.d _) (.cons (.d _) (.nil))))))) (.nil))) <| .nil <| .keep [.box 53 [.d (.sl 2 (List.map Range.enc [])), .d (.sl 2 (List.map Row.enc [])), .d (.sl 3 (List.map Graph.enc [])), .d (.sl 1 (List.map (fun l => D.sl 2 (List.map Row.enc l)) []))], .dead, .dead] [2, 3, 4, 6, 10, 11] (.c4 I <| .c2 I .nil) I <| .sr <| .p I (.ld Y30 I) <| bK h fun x70_20 hx70_20 h => .p I (.call I K48 I (model_Strict_ok _ _ _ hx70_20)) <| .p I (.build I Pl53 (.agg Zc53 (ds' := [_, .val (.slice none 0 0), .val (.slice none 0 0), .sl 1 (List.map (fun l => D.sl 2 (List.map Row.enc l)) [])]) (.cons (.refl _) (.cons (.refl _) (.cons (.refl _) (.cons (.nil _) (.nil)))))) I I) <| .allocZ I I I I (.agg Zc53 (ds' := [.sl 2 (List.map Range.enc []), .val (.slice none 0 0), .val (.slice none 0 0), .sl 1 (List.map (fun l => D.sl 2 (List.map Row.enc l)) [])]) (.cons (.nil _) (.cons (.refl _) (.cons (.refl _) (.cons (.nil _) (.nil)))))) I <| .nilCell 3 1 2 33 I I <| .nilCell 3 2 3 99 I I <| .store I I I I I I (.ofD I) C53 I (Nat.le_of_ble_eq_true I) <| .nilCell 3 1 2 33 I I <| .nilCell 3 2 3 99 I I ?_
      refine .nil <| .seq <| .sr <| .p I (.fa I (G30_3 _)) <| .p I (.ld Y25 I) <| .p I (.len I U25 I) <| .p I (.mv I) <| .nil <| .block <| .loopS [2, 3, 4, 6, 10, 11, 12, 73, 74] (fun (v : (List Row) × Int) => [(75, .d (.int v.2))]) (fun (v : (List Row) × Int) => [(3, .box 53 [.d (.sl 2 (List.map Range.enc x70_20)), .vec 6 (List.length v.1), .vec 7 (List.length ([] : List Graph)), .d (.sl 1 (List.map (fun l => D.sl 2 (List.map Row.enc l)) []))]), (6, .vec 33 2 (List.map Row.enc v.1))]) (.c8 I <| .c I .nil) h ⟨_, Fz8 I <| Fz4 I <| Fz1 I trivial⟩ (fun rec_51 v h => ?_)
      obtain ⟨b6_49, x75_50⟩ := v
      refine .sr <| .p I (.ls I) <| .nil <| .keep [.box 53 [.d (.sl 2 (List.map Range.enc [])), .d (.sl 2 (List.map Row.enc [])), .d (.sl 3 (List.map Graph.enc [])), .d (.sl 1 (List.map (fun l => D.sl 2 (List.map Row.enc l)) []))], .dead, .dead, .box 53 [.d (.sl 2 (List.map Range.enc x70_20)), .vec 6 (List.length b6_49), .vec 7 (List.length ([] : List Graph)), .d (.sl 1 (List.map (fun l => D.sl 2 (List.map Row.enc l)) []))], .vec 33 2 (List.map Row.enc ([] : List Row)), .vec 99 3 (List.map Graph.enc ([] : List Graph)), .vec 33 2 (List.map Row.enc b6_49), .vec 99 3 (List.map Graph.enc ([] : List Graph))] [2, 3, 4, 6, 10, 11, 12, 73, 74, 75, 76] (.c8 I <| .c2 I <| .c I .nil) I <| .seq <| .condS I h (fun h => ?_) fun h => ?_
      · refine .skip <| .join [2, 3, 4, 6, 10, 11, 12, 73, 74, 75] (fun (v : (List Row)) => []) (fun (v : (List Row)) => [(3, .box 53 [.d (.sl 2 (List.map Range.enc x70_20)), .vec 6 (List.length v), .vec 7 (List.length ([] : List Graph)), .d (.sl 1 (List.map (fun l => D.sl 2 (List.map Row.enc l)) []))]), (6, .vec 33 2 (List.map Row.enc v))]) (.c8 I <| .c2 I .nil) h (fun k_53 h => ?_) (fun b6_52 h => ?_)
        · refine .block <| .sr <| .p I (.mv I) <| bK h fun x78_54 hx78_54 h => .p I (.ix I U25 S78 hx78_54) <| .p I (.ld Y78 I) <| .allocZ I I I I (.agg Zc78 (ds' := [.int 0, .int 0, .sl 2 (List.map Term.enc []), .int 0, .int 0, .int 0]) (.cons (.refl _) (.cons (.refl _) (.cons (.nil _) (.cons (.refl _) (.cons (.refl _) (.cons (.refl _) (.nil)))))))) I <| .p I (.asg I) <| .store I I I I I I (.ofD I) C78 I (Nat.le_of_ble_eq_true I) <| .nil <| .seq <| .sr <| .p I (.fieldAddrLoc I I I F78_0) <| .p I (.loadLoc1 I I I Y3 I) <| .p I (.ne I) <| .nil <| .condS I h (fun h => ?_) fun h => ?_
          · refine .exit ?_
            exact ⟨_, h, ⟨_, Fz8 I <| Fz4 I <| Fz1 I trivial⟩⟩
          · refine .skip <| .seq <| .draw 10 Hm (by kernel_rfl) (by kernel_rfl) <| .p I (.ld Y84 I) <| .p I (.fieldAddrLoc I I I F78_2) <| .p I (.loadLoc I I I Y33 (Nat.le_of_ble_eq_true I) (v := .d (Row.enc x78_54.row)) I) <| bK h fun x86_55 hx86_55 h => .p I (.call I K40 I (condition_change_ok _ _ _ _ hx86_55)) <| .p I (.ld Y84 I) <| .p I (.fieldAddrLoc I I I F78_2) <| .p I (.loadLoc I I I Y33 (Nat.le_of_ble_eq_true I) (v := .d (Row.enc x78_54.row)) I) <| bK h fun x90_56 hx90_56 h => .p I (.call I K40 I (condition_change_ok _ _ _ _ hx90_56)) <| .p I (.asg I) <| .p I (.asg I) <| .nil <| .nil <| .keep [.box 53 [.d (.sl 2 (List.map Range.enc [])), .d (.sl 2 (List.map Row.enc [])), .d (.sl 3 (List.map Graph.enc [])), .d (.sl 1 (List.map (fun l => D.sl 2 (List.map Row.enc l)) []))], .dead, .dead, .box 53 [.d (.sl 2 (List.map Range.enc x70_20)), .vec 6 (List.length b6_49), .vec 7 (List.length ([] : List Graph)), .d (.sl 1 (List.map (fun l => D.sl 2 (List.map Row.enc l)) []))], .vec 33 2 (List.map Row.enc ([] : List Row)), .vec 99 3 (List.map Graph.enc ([] : List Graph)), .vec 33 2 (List.map Row.enc b6_49), .vec 99 3 (List.map Graph.enc ([] : List Graph)), .box 78 [.d (.int x78_54.kind), .d (.int x78_54.family), .d (.sl 2 (List.map Term.enc x78_54.row.terms)), .d (.int x78_54.row.bound), .d (.int x78_54.first), .d (.int x78_54.size)]] [2, 3, 4, 6, 10, 11, 12, 13, 14, 15, 16, 73, 74, 75] (.c8 I <| .c4 I <| .c2 I .nil) I <| .sr <| .p I (.mv I) <| .p I (.mv I) <| .p I (.max3 I I I I) <| .p I (.asg I) <| .nil <| .join [2, 3, 4, 6, 10, 11, 12, 14, 73, 74, 75] (fun (v : Int) => [(17, .d (.int v))]) (fun (v : Int) => []) (.c8 I <| .c2 I <| .c I .nil) h (fun k_58 h => ?_) (fun x17_57 h => ?_)
            · refine .seq <| .plain 15 I <| .p I (.mv I) <| .p I (.mv I) <| bK h fun x96_59 hx96_59 h => .p I (.call I K49 I (slices_Contains_Lint_int_ok _ _ _ _ hx96_59)) <| .p I (.mv I) <| .jAnd 10 (b2 := t1.target.hold || (t1.target.index != x75_50)) I I I I (.inl I) (fun _ _ _ h1 => by cases h1) I I (fun hb_60 => ?_) ?_
              · refine .q I (.fa I (G37_2 _)) <| .q I (.fa I (G35_0 _)) <| .q I (.ld Y4 I) <| .q I (.mv I) <| .jOr 5 (b2 := t1.target.index != x75_50) I I I I (.inr ⟨_, _, _, I, I, I⟩) (fun _ _ _ h1 h2 => by cases h1; cases h2; decide) I I (fun hb_61 => ?_) ?_
                · refine .q I (.fa I (G37_2 _)) <| .q I (.fa I (G35_1 _)) <| .q I (.ld Y3 I) <| .q I (.mv I) <| .q I (.ne I) ?_
                  exact .nil I
                exact .nil I
              refine .nil <| .nil <| .keep [.box 53 [.d (.sl 2 (List.map Range.enc [])), .d (.sl 2 (List.map Row.enc [])), .d (.sl 3 (List.map Graph.enc [])), .d (.sl 1 (List.map (fun l => D.sl 2 (List.map Row.enc l)) []))], .dead, .dead, .box 53 [.d (.sl 2 (List.map Range.enc x70_20)), .vec 6 (List.length b6_49), .vec 7 (List.length ([] : List Graph)), .d (.sl 1 (List.map (fun l => D.sl 2 (List.map Row.enc l)) []))], .vec 33 2 (List.map Row.enc ([] : List Row)), .vec 99 3 (List.map Graph.enc ([] : List Graph)), .vec 33 2 (List.map Row.enc b6_49), .vec 99 3 (List.map Graph.enc ([] : List Graph)), .box 78 [.d (.int x78_54.kind), .d (.int x78_54.family), .d (.sl 2 (List.map Term.enc x78_54.row.terms)), .d (.int x78_54.row.bound), .d (.int x78_54.first), .d (.int x78_54.size)]] [2, 3, 4, 6, 10, 11, 12, 14, 15, 16, 17, 73, 74, 75, 108] (.c8 I <| .c4 I <| .c2 I <| .c I .nil) I <| .condS I h (fun h => ?_) fun h => ?_
              · refine .region <| .p I (.mv I) <| .p I (.mv I) <| .p I (.mv I) <| .p I (.ad I) <| .p I (.max2 I I I) <| .p I (.asg I) <| .nil ?_
                exact ⟨_, h, ⟨_, Fz8 I <| Fz4 I <| Fz2 I <| Fz1 I trivial⟩⟩
              · refine .skip ?_
                exact ⟨_, h, ⟨_, Fz8 I <| Fz4 I <| Fz2 I <| Fz1 I trivial⟩⟩
            · refine .draw 8 Hm (by kernel_rfl) (by kernel_rfl) <| .p I (.fieldAddrLoc I I I F53_1) <| .p I (.loadLoc1 I I I Y49 I) <| .p I (.fieldAddrLoc I I I F78_2) <| .p I (.loadLoc I I I Y33 (Nat.le_of_ble_eq_true I) (v := .d (Row.enc x78_54.row)) I) <| .p I (.mv I) <| .p I (.call I K52 I (condition_less_fn n x17_57)) <| bK h fun x120_62 hx120_62 h => .p I (.call I K50 I (condition_changed_ok _ _ _ _ _ (fun q0 y hq => ⟨_, _, I, K51, condition_same_ok _ q0 _ hq⟩) _ (fun q0 y hq => ⟨_, _, I, K112, condition_less_1_ok _ q0 _ _ hq⟩) _ hx120_62)) <| .p I (.buildSl [_] I I E49 I (fun _ => I) I (enc := Row.enc)) <| .nil <| bK h fun x122_63 hx122_63 h => .app I I I I I I I I E49 I (fun _ => I) hx122_63 <| .p I (.fieldAddrLoc I I I F53_1) <| .store I I I I I I (.cons (.vec I (by simp)) .nil) C49 I (Nat.le_of_ble_eq_true I) <| .nil ?_
              exact ⟨_, h, ⟨_, Fz8 I <| Fz4 I <| Fz1 I trivial⟩⟩
        · refine .region <| .p I (.ad I) <| .p I (.mv I) <| .nil ?_
          exact ⟨_, h, ⟨_, Fz8 I <| Fz4 I <| Fz1 I trivial⟩⟩
      · refine .exit <| .sr <| .p I (.fa I (G84_2 _)) <| .p I (.fa I (G82_1 _)) <| .p I (.ld Y49 I) <| bK h fun x128_64 hx128_64 h => .clone (enc := Row.enc) I I I I K53 Tryz.func53 I I I I E49 I (fun _ => I) (fun _ => I) hx128_64 I I <| .p I (.asg I) <| .nil <| .join [3, 4, 6, 10, 11, 12] (fun (v : (List Row)) => [(18, .vec 8 (List.length v))]) (fun (v : (List Row)) => [(8, .vec 33 2 (List.map Row.enc v))]) (.c4 I <| .c2 I .nil) h (fun k_66 h => ?_) (fun b8_65 h => ?_)
        · refine .sr <| .p I (.fa I (G37_0 _)) <| .p I (.ld Y3 I) <| .p I (.fa I (G37_1 _)) <| .p I (.ld Y3 I) <| .p I (.ne I) <| .nil <| .condS I h (fun h => ?_) fun h => ?_
          · refine .region <| .p I (.mv I) <| .p I (.fa I (G84_2 _)) <| .p I (.fa I (G82_1 _)) <| .p I (.ld Y49 I) <| bK h fun x138_67 hx138_67 h => .app I I I I I I I I E49 I (fun _ => I) hx138_67 <| .p I (.asg I) <| .nil ?_
            exact ⟨_, h, ⟨_, Fz8 I <| Fz2 I trivial⟩⟩
          · refine .skip ?_
            exact ⟨_, h, ⟨_, Fz8 I <| Fz2 I trivial⟩⟩
        · refine .seq <| .sr <| .p I (.mv I) <| .p I (.lenV I U49 I I I) <| .p I (.mv I) <| .nil <| .keep [.box 53 [.d (.sl 2 (List.map Range.enc [])), .d (.sl 2 (List.map Row.enc [])), .d (.sl 3 (List.map Graph.enc [])), .d (.sl 1 (List.map (fun l => D.sl 2 (List.map Row.enc l)) []))], .dead, .dead, .box 53 [.d (.sl 2 (List.map Range.enc x70_20)), .vec 6 (List.length b6_49), .vec 7 (List.length ([] : List Graph)), .d (.sl 1 (List.map (fun l => D.sl 2 (List.map Row.enc l)) []))], .vec 33 2 (List.map Row.enc ([] : List Row)), .vec 99 3 (List.map Graph.enc ([] : List Graph)), .vec 33 2 (List.map Row.enc b6_49), .vec 99 3 (List.map Graph.enc ([] : List Graph)), .vec 33 2 (List.map Row.enc b8_65)] [3, 4, 6, 10, 11, 12, 139, 140, 141] (.c8 I <| .c I .nil) I <| .block <| .loopS [3, 4, 6, 10, 11, 12, 139, 140] (fun (v : (List Row) × Int) => [(141, .d (.int v.2))]) (fun (v : (List Row) × Int) => [(3, .box 53 [.d (.sl 2 (List.map Range.enc x70_20)), .vec 6 (List.length v.1), .vec 7 (List.length ([] : List Graph)), .d (.sl 1 (List.map (fun l => D.sl 2 (List.map Row.enc l)) []))]), (6, .vec 33 2 (List.map Row.enc v.1))]) (.c8 I .nil) h ⟨_, Fz8 I <| Fz4 I trivial⟩ (fun rec_80 v h => ?_)
          obtain ⟨b6_78, x141_79⟩ := v
          refine .sr <| .p I (.ls I) <| .nil <| .keep [.box 53 [.d (.sl 2 (List.map Range.enc [])), .d (.sl 2 (List.map Row.enc [])), .d (.sl 3 (List.map Graph.enc [])), .d (.sl 1 (List.map (fun l => D.sl 2 (List.map Row.enc l)) []))], .dead, .dead, .box 53 [.d (.sl 2 (List.map Range.enc x70_20)), .vec 6 (List.length b6_78), .vec 7 (List.length ([] : List Graph)), .d (.sl 1 (List.map (fun l => D.sl 2 (List.map Row.enc l)) []))], .vec 33 2 (List.map Row.enc ([] : List Row)), .vec 99 3 (List.map Graph.enc ([] : List Graph)), .vec 33 2 (List.map Row.enc b6_78), .vec 99 3 (List.map Graph.enc ([] : List Graph)), .vec 33 2 (List.map Row.enc b8_65)] [3, 4, 6, 10, 11, 12, 139, 140, 141, 142] (.c8 I <| .c2 I .nil) I <| .seq <| .condS I h (fun h => ?_) fun h => ?_
          · refine .skip <| .seq <| .block <| .sr <| bK h fun x143_81 hx143_81 h => .p I (.idxV I I I I I U49 S33 hx143_81) <| .p I (.loadEl I I I I hx143_81 Y33 I) <| .allocStore I I I I I I I I (by simp) I I Z33 <| .nil <| .draw 5 Hm (by kernel_rfl) (by kernel_rfl) <| .p I (.fieldAddrLoc I I I F53_1) <| .p I (.loadLoc1 I I I Y49 I) <| .p I (.ld Y33 I) <| bK h fun x148_82 hx148_82 h => .p I (.call I K50 I (condition_changed_ok _ _ _ _ _ (fun q0 y hq => ⟨_, _, I, K51, condition_same_ok _ q0 _ hq⟩) _ (fun q0 y hq => ⟨_, _, I, K51, condition_same_ok _ q0 _ hq⟩) _ hx148_82)) <| .p I (.buildSl [_] I I E49 I (fun _ => I) I (enc := Row.enc)) <| .nil <| bK h fun x150_83 hx150_83 h => .app I I I I I I I I E49 I (fun _ => I) hx150_83 <| .p I (.fieldAddrLoc I I I F53_1) <| .store I I I I I I (.cons (.vec I (by simp)) .nil) C49 I (Nat.le_of_ble_eq_true I) <| .nil <| .region <| .p I (.ad I) <| .p I (.mv I) <| .nil ?_
            exact ⟨_, h, ⟨_, Fz8 I <| Fz4 I trivial⟩⟩
          · refine .exit <| .sr <| .p I (.makeFuncV I I) <| .p I (.asg I) <| .nil <| .sr <| .p I (.castD (Constraint.enc (⟨0, 0, (⟨[], 0⟩ : Row), 0, 0⟩ : Constraint)) I (.build I Pl78 (.agg Zc78 (ds' := [_, _, .sl 2 (List.map Term.enc []), _, _, _]) (.cons (.refl _) (.cons (.refl _) (.cons (.nil _) (.cons (.refl _) (.cons (.refl _) (.cons (.refl _) (.nil)))))))) I I)) <| .allocZ I I I I (.agg Zc78 (ds' := [.int 0, .int 0, .sl 2 (List.map Term.enc []), .int 0, .int 0, .int 0]) (.cons (.refl _) (.cons (.refl _) (.cons (.nil _) (.cons (.refl _) (.cons (.refl _) (.cons (.refl _) (.nil)))))))) I <| .store I I I I I I (.ofD I) C78 I (Nat.le_of_ble_eq_true I) <| .nil <| .join [3, 4, 6, 10, 11, 12, 22] (fun (v : (List Row) × Int × Int × (List Term) × Int × Int × Int) => []) (fun (v : (List Row) × Int × Int × (List Term) × Int × Int × Int) => [(3, .box 53 [.d (.sl 2 (List.map Range.enc x70_20)), .vec 6 (List.length v.1), .vec 7 (List.length ([] : List Graph)), .d (.sl 1 (List.map (fun l => D.sl 2 (List.map Row.enc l)) []))]), (6, .vec 33 2 (List.map Row.enc v.1)), (9, .box 78 [.d (.int v.2.1), .d (.int v.2.2.1), .d (.sl 2 (List.map Term.enc v.2.2.2.1)), .d (.int v.2.2.2.2.1), .d (.int v.2.2.2.2.2.1), .d (.int v.2.2.2.2.2.2)])]) (.c4 I <| .c2 I <| .c I .nil) h (fun k_91 h => ?_) (fun v h => ?_)
            · refine .sr <| .p I (.fa I (G37_2 _)) <| .p I (.fa I (G35_0 _)) <| .p I (.ld Y4 I) <| .nil <| .condS I h (fun h => ?_) fun h => ?_
              · refine .sr <| .p I (.fa I (G84_2 _)) <| .p I (.fa I (G82_1 _)) <| .p I (.ld Y49 I) <| .p I (.fa I (G37_2 _)) <| .p I (.fa I (G35_1 _)) <| .p I (.ld Y3 I) <| bK h fun x164_92 hx164_92 h => .p I (.ix I U49 S33 hx164_92) <| .p I (.ld Y33 I) <| .allocStore I I I I I I I I (by simp) I I Z33 <| .nil <| .keep [.box 53 [.d (.sl 2 (List.map Range.enc [])), .d (.sl 2 (List.map Row.enc [])), .d (.sl 3 (List.map Graph.enc [])), .d (.sl 1 (List.map (fun l => D.sl 2 (List.map Row.enc l)) []))], .dead, .dead, .box 53 [.d (.sl 2 (List.map Range.enc x70_20)), .vec 6 (List.length b6_78), .vec 7 (List.length ([] : List Graph)), .d (.sl 1 (List.map (fun l => D.sl 2 (List.map Row.enc l)) []))], .vec 33 2 (List.map Row.enc ([] : List Row)), .vec 99 3 (List.map Graph.enc ([] : List Graph)), .vec 33 2 (List.map Row.enc b6_78), .vec 99 3 (List.map Graph.enc ([] : List Graph)), .vec 33 2 (List.map Row.enc b8_65), .box 78 [.d (.int 0), .d (.int 0), .d (.sl 2 (List.map Term.enc [])), .d (.int 0), .d (.int 0), .d (.int 0)]] [3, 4, 6, 10, 11, 12, 21, 22, 23] (.c8 I <| .c I .nil) I <| .draw 5 Hm (by kernel_rfl) (by kernel_rfl) <| .p I (.mv I) <| .p I (.ld Y33 I) <| .p I (.ld Y84 I) <| .p I (.ld Y33 I) <| bK h fun x170_93 hx170_93 h => .p I (.call I K40 I (condition_change_ok _ _ _ _ hx170_93)) <| .nil <| .inline (rs := []) I I (.clos I I K54 I) Tryz.func54 I Tryz.ntmps54 I I I I (fun own0 w gh => ?_)
                refine .sr <| .p I (.bx I) <| .p I (.bx I) <| .nil <| .keep [.box 53 [.d (.sl 2 (List.map Range.enc [])), .d (.sl 2 (List.map Row.enc [])), .d (.sl 3 (List.map Graph.enc [])), .d (.sl 1 (List.map (fun l => D.sl 2 (List.map Row.enc l)) []))], .dead, .dead, .box 53 [.d (.sl 2 (List.map Range.enc x70_20)), .vec 6 (List.length b6_78), .vec 7 (List.length ([] : List Graph)), .d (.sl 1 (List.map (fun l => D.sl 2 (List.map Row.enc l)) []))], .vec 33 2 (List.map Row.enc ([] : List Row)), .vec 99 3 (List.map Graph.enc ([] : List Graph)), .vec 33 2 (List.map Row.enc b6_78), .vec 99 3 (List.map Graph.enc ([] : List Graph)), .vec 33 2 (List.map Row.enc b8_65), .box 78 [.d (.int 0), .d (.int 0), .d (.sl 2 (List.map Term.enc [])), .d (.int 0), .d (.int 0), .d (.int 0)]] [2, 3, 4] (.c2 I <| .c I .nil) I <| .draw 6 Hm (by kernel_rfl) (by kernel_rfl) <| .p I (.fieldAddrLoc I I I F53_1) <| .p I (.loadLoc1 I I I Y49 I) <| .p I (.ld Y33 I) <| .p I (.makeFunc I I) <| bK h fun x9_94 hx9_94 h => .p I (.call I K50 I (condition_changed_ok _ _ _ _ _ (fun q0 y hq => ⟨_, _, I, K55, condition_negated_ok _ q0 _ hq⟩) _ (fun q0 y hq => ⟨_, _, I, K56, condition_System_1_1_ok _ q0 _ _ hq⟩) _ hx9_94)) <| .p I (.buildSl [_] I I E49 I (fun _ => I) I (enc := Row.enc)) <| .nil <| bK h fun x11_95 hx11_95 h => .app I I I I I I I I E49 I (fun _ => I) hx11_95 <| .p I (.fieldAddrLoc I I I F53_1) <| .store I I I I I I (.cons (.vec I (by simp)) .nil) C49 I (Nat.le_of_ble_eq_true I) <| .nil <| ⟨.inr I, _, I, ?_⟩
                refine .nil ?_
                exact ⟨_, h, ⟨_, Fz8 I <| Fz2 I trivial⟩⟩
              · refine .sr <| .p I (.fa I (G30_3 _)) <| .p I (.ld Y25 I) <| .p I (.fa I (G37_2 _)) <| .p I (.fa I (G35_1 _)) <| .p I (.ld Y3 I) <| bK h fun x177_96 hx177_96 h => .p I (.ix I U25 S78 hx177_96) <| .p I (.ld Y78 I) <| .store I I I I I I (.ofD I) C78 I (Nat.le_of_ble_eq_true I) <| .nil <| .keep [.box 53 [.d (.sl 2 (List.map Range.enc [])), .d (.sl 2 (List.map Row.enc [])), .d (.sl 3 (List.map Graph.enc [])), .d (.sl 1 (List.map (fun l => D.sl 2 (List.map Row.enc l)) []))], .dead, .dead, .box 53 [.d (.sl 2 (List.map Range.enc x70_20)), .vec 6 (List.length b6_78), .vec 7 (List.length ([] : List Graph)), .d (.sl 1 (List.map (fun l => D.sl 2 (List.map Row.enc l)) []))], .vec 33 2 (List.map Row.enc ([] : List Row)), .vec 99 3 (List.map Graph.enc ([] : List Graph)), .vec 33 2 (List.map Row.enc b6_78), .vec 99 3 (List.map Graph.enc ([] : List Graph)), .vec 33 2 (List.map Row.enc b8_65), .box 78 [.d (.int x177_96.kind), .d (.int x177_96.family), .d (.sl 2 (List.map Term.enc x177_96.row.terms)), .d (.int x177_96.row.bound), .d (.int x177_96.first), .d (.int x177_96.size)]] [3, 4, 6, 10, 11, 12, 21, 22] (.c8 I .nil) I <| .sr <| .p I (.fieldAddrLoc I I I F78_0) <| .p I (.loadLoc1 I I I Y3 I) <| .p I (.eq I) <| .nil <| .condS I h (fun h => ?_) fun h => ?_
                · refine .draw 12 Hm (by kernel_rfl) (by kernel_rfl) <| .p I (.mv I) <| .p I (.fieldAddrLoc I I I F78_2) <| .p I (.loadLoc I I I Y33 (Nat.le_of_ble_eq_true I) (v := .d (Row.enc x177_96.row)) I) <| .p I (.ld Y84 I) <| .p I (.fieldAddrLoc I I I F78_2) <| .p I (.loadLoc I I I Y33 (Nat.le_of_ble_eq_true I) (v := .d (Row.enc x177_96.row)) I) <| bK h fun x188_97 hx188_97 h => .p I (.call I K40 I (condition_change_ok _ _ _ _ hx188_97)) <| .p I (.ld Y84 I) <| .p I (.fieldAddrLoc I I I F78_2) <| .p I (.loadLoc I I I Y33 (Nat.le_of_ble_eq_true I) (v := .d (Row.enc x177_96.row)) I) <| bK h fun x192_98 hx192_98 h => .p I (.call I K40 I (condition_change_ok _ _ _ _ hx192_98)) <| .p I (.ad I) <| .nil <| .inline (rs := []) I I (.clos I I K54 I) Tryz.func54 I Tryz.ntmps54 I I I I (fun own0 w gh => ?_)
                  refine .sr <| .p I (.bx I) <| .p I (.bx I) <| .nil <| .keep [.box 53 [.d (.sl 2 (List.map Range.enc [])), .d (.sl 2 (List.map Row.enc [])), .d (.sl 3 (List.map Graph.enc [])), .d (.sl 1 (List.map (fun l => D.sl 2 (List.map Row.enc l)) []))], .dead, .dead, .box 53 [.d (.sl 2 (List.map Range.enc x70_20)), .vec 6 (List.length b6_78), .vec 7 (List.length ([] : List Graph)), .d (.sl 1 (List.map (fun l => D.sl 2 (List.map Row.enc l)) []))], .vec 33 2 (List.map Row.enc ([] : List Row)), .vec 99 3 (List.map Graph.enc ([] : List Graph)), .vec 33 2 (List.map Row.enc b6_78), .vec 99 3 (List.map Graph.enc ([] : List Graph)), .vec 33 2 (List.map Row.enc b8_65), .box 78 [.d (.int x177_96.kind), .d (.int x177_96.family), .d (.sl 2 (List.map Term.enc x177_96.row.terms)), .d (.int x177_96.row.bound), .d (.int x177_96.first), .d (.int x177_96.size)]] [2, 3, 4] (.c2 I <| .c I .nil) I <| .draw 6 Hm (by kernel_rfl) (by kernel_rfl) <| .p I (.fieldAddrLoc I I I F53_1) <| .p I (.loadLoc1 I I I Y49 I) <| .p I (.ld Y33 I) <| .p I (.makeFunc I I) <| bK h fun x9_99 hx9_99 h => .p I (.call I K50 I (condition_changed_ok _ _ _ _ _ (fun q0 y hq => ⟨_, _, I, K55, condition_negated_ok _ q0 _ hq⟩) _ (fun q0 y hq => ⟨_, _, I, K56, condition_System_1_1_ok _ q0 _ _ hq⟩) _ hx9_99)) <| .p I (.buildSl [_] I I E49 I (fun _ => I) I (enc := Row.enc)) <| .nil <| bK h fun x11_100 hx11_100 h => .app I I I I I I I I E49 I (fun _ => I) hx11_100 <| .p I (.fieldAddrLoc I I I F53_1) <| .store I I I I I I (.cons (.vec I (by simp)) .nil) C49 I (Nat.le_of_ble_eq_true I) <| .nil <| ⟨.inr I, _, I, ?_⟩
                  refine .nil ?_
                  exact ⟨_, h, ⟨_, Fz8 I <| Fz2 I trivial⟩⟩
                · refine .skip ?_
                  exact ⟨_, h, ⟨_, Fz8 I <| Fz2 I trivial⟩⟩
            · obtain ⟨b6_84, c9_0_85, c9_1_86, c9_2_87, c9_3_88, c9_4_89, c9_5_90⟩ := v
              refine .seq <| .sr <| .p I (.fa I (G30_3 _)) <| .p I (.ld Y25 I) <| .p I (.len I U25 I) <| .p I (.mv I) <| .nil <| .keep [.box 53 [.d (.sl 2 (List.map Range.enc [])), .d (.sl 2 (List.map Row.enc [])), .d (.sl 3 (List.map Graph.enc [])), .d (.sl 1 (List.map (fun l => D.sl 2 (List.map Row.enc l)) []))], .dead, .dead, .box 53 [.d (.sl 2 (List.map Range.enc x70_20)), .vec 6 (List.length b6_84), .vec 7 (List.length ([] : List Graph)), .d (.sl 1 (List.map (fun l => D.sl 2 (List.map Row.enc l)) []))], .vec 33 2 (List.map Row.enc ([] : List Row)), .vec 99 3 (List.map Graph.enc ([] : List Graph)), .vec 33 2 (List.map Row.enc b6_84), .vec 99 3 (List.map Graph.enc ([] : List Graph)), .vec 33 2 (List.map Row.enc b8_65), .box 78 [.d (.int c9_0_85), .d (.int c9_1_86), .d (.sl 2 (List.map Term.enc c9_2_87)), .d (.int c9_3_88), .d (.int c9_4_89), .d (.int c9_5_90)]] [4, 6, 10, 11, 12, 22, 196, 197, 198] (.c8 I <| .c I .nil) I <| .block <| .loopS [4, 6, 10, 11, 12, 22, 196, 197] (fun (v : (List Graph) × Int) => [(198, .d (.int v.2))]) (fun (v : (List Graph) × Int) => [(3, .box 53 [.d (.sl 2 (List.map Range.enc x70_20)), .vec 6 (List.length b6_84), .vec 7 (List.length v.1), .d (.sl 1 (List.map (fun l => D.sl 2 (List.map Row.enc l)) []))]), (7, .vec 99 3 (List.map Graph.enc v.1))]) (.c8 I .nil) h ⟨_, Fz8 I <| Fz4 I trivial⟩ (fun rec_135 v h => ?_)
              obtain ⟨b7_133, x198_134⟩ := v
              refine .sr <| .p I (.ls I) <| .nil <| .keep [.box 53 [.d (.sl 2 (List.map Range.enc [])), .d (.sl 2 (List.map Row.enc [])), .d (.sl 3 (List.map Graph.enc [])), .d (.sl 1 (List.map (fun l => D.sl 2 (List.map Row.enc l)) []))], .dead, .dead, .box 53 [.d (.sl 2 (List.map Range.enc x70_20)), .vec 6 (List.length b6_84), .vec 7 (List.length b7_133), .d (.sl 1 (List.map (fun l => D.sl 2 (List.map Row.enc l)) []))], .vec 33 2 (List.map Row.enc ([] : List Row)), .vec 99 3 (List.map Graph.enc ([] : List Graph)), .vec 33 2 (List.map Row.enc b6_84), .vec 99 3 (List.map Graph.enc b7_133), .vec 33 2 (List.map Row.enc b8_65), .box 78 [.d (.int c9_0_85), .d (.int c9_1_86), .d (.sl 2 (List.map Term.enc c9_2_87)), .d (.int c9_3_88), .d (.int c9_4_89), .d (.int c9_5_90)]] [4, 6, 10, 11, 12, 22, 196, 197, 198, 199] (.c8 I <| .c2 I .nil) I <| .seq <| .condS I h (fun h => ?_) fun h => ?_
              · refine .skip <| .join [4, 6, 10, 11, 12, 22, 196, 197, 198] (fun (v : (List Graph)) => []) (fun (v : (List Graph)) => [(3, .box 53 [.d (.sl 2 (List.map Range.enc x70_20)), .vec 6 (List.length b6_84), .vec 7 (List.length v), .d (.sl 1 (List.map (fun l => D.sl 2 (List.map Row.enc l)) []))]), (7, .vec 99 3 (List.map Graph.enc v))]) (.c8 I <| .c I .nil) h (fun k_137 h => ?_) (fun b7_136 h => ?_)
                · refine .block <| .sr <| bK h fun x200_138 hx200_138 h => .p I (.ix I U25 S78 hx200_138) <| .p I (.ld Y78 I) <| .allocStore I I I I I I I I (by simp) I I Z78 <| .nil <| .seq <| .sr <| .p I (.fa I (G78_0 _)) <| .p I (.ld Y3 I) <| .p I (.ne I) <| .nil <| .condS I h (fun h => ?_) fun h => ?_
                  · refine .exit ?_
                    exact ⟨_, h, ⟨_, Fz8 I <| Fz4 I trivial⟩⟩
                  · refine .skip <| .seq <| .draw 5 Hm (by kernel_rfl) (by kernel_rfl) <| .p I (.fieldAddrLoc I I I F53_2) <| .p I (.loadLoc1 I I I Y50 I) <| .p I (.ld Y78 I) <| bK h fun x208_139 hx208_139 h => .p I (.call I K57 I (condition_graph_ok _ _ _ _ (fun q0 y hq => ⟨_, _, I, K58, condition_System_2_ok _ q0 _ hq⟩) _ hx208_139)) <| .p I (.buildSl [_] I I E50 I (fun _ => I) I (enc := Graph.enc)) <| .nil <| bK h fun x210_140 hx210_140 h => .app I I I I I I I I E50 I (fun _ => I) hx210_140 <| .p I (.fieldAddrLoc I I I F53_2) <| .store I I I I I I (.cons (.vec I (by simp)) .nil) C50 I (Nat.le_of_ble_eq_true I) <| .nil <| .join [4, 6, 10, 11, 12, 22, 25, 196, 197, 198] (fun (v : (List Graph)) => []) (fun (v : (List Graph)) => [(3, .box 53 [.d (.sl 2 (List.map Range.enc x70_20)), .vec 6 (List.length b6_84), .vec 7 (List.length v), .d (.sl 1 (List.map (fun l => D.sl 2 (List.map Row.enc l)) []))]), (7, .vec 99 3 (List.map Graph.enc v))]) (.c8 I <| .c2 I .nil) h (fun k_142 h => ?_) (fun b7_141 h => ?_)
                    · refine .sr <| .p I (.ld Y84 I) <| .p I (.ld Y78 I) <| bK h fun x214_143 hx214_143 h => .p I (.call I K59 I (condition_raised_ok _ _ _ _ hx214_143)) <| .p I (.len I U22 I) <| .p I (.gt I) <| .nil <| .keep [.box 53 [.d (.sl 2 (List.map Range.enc [])), .d (.sl 2 (List.map Row.enc [])), .d (.sl 3 (List.map Graph.enc [])), .d (.sl 1 (List.map (fun l => D.sl 2 (List.map Row.enc l)) []))], .dead, .dead, .box 53 [.d (.sl 2 (List.map Range.enc x70_20)), .vec 6 (List.length b6_84), .vec 7 (List.length x210_140), .d (.sl 1 (List.map (fun l => D.sl 2 (List.map Row.enc l)) []))], .vec 33 2 (List.map Row.enc ([] : List Row)), .vec 99 3 (List.map Graph.enc ([] : List Graph)), .vec 33 2 (List.map Row.enc b6_84), .vec 99 3 (List.map Graph.enc x210_140), .vec 33 2 (List.map Row.enc b8_65), .box 78 [.d (.int c9_0_85), .d (.int c9_1_86), .d (.sl 2 (List.map Term.enc c9_2_87)), .d (.int c9_3_88), .d (.int c9_4_89), .d (.int c9_5_90)]] [4, 6, 10, 11, 12, 22, 25, 196, 197, 198, 216] (.c8 I <| .c2 I <| .c I .nil) I <| .condS I h (fun h => ?_) fun h => ?_
                      · refine .draw 6 Hm (by kernel_rfl) (by kernel_rfl) <| .p I (.fieldAddrLoc I I I F53_2) <| .p I (.loadLoc1 I I I Y50 I) <| .p I (.ld Y78 I) <| .p I (.makeFunc I I) <| bK h fun x221_144 hx221_144 h => .p I (.call I K57 I (condition_graph_ok _ _ _ _ (fun q0 y hq => ⟨_, _, I, K60, condition_System_3_ok _ q0 _ _ hq⟩) _ hx221_144)) <| .p I (.buildSl [_] I I E50 I (fun _ => I) I (enc := Graph.enc)) <| .nil <| bK h fun x223_145 hx223_145 h => .app I I I I I I I I E50 I (fun _ => I) hx223_145 <| .p I (.fieldAddrLoc I I I F53_2) <| .store I I I I I I (.cons (.vec I (by simp)) .nil) C50 I (Nat.le_of_ble_eq_true I) <| .nil ?_
                        exact ⟨_, h, ⟨_, Fz8 I <| Fz4 I <| Fz1 I trivial⟩⟩
                      · refine .skip ?_
                        exact ⟨_, h, ⟨_, Fz8 I <| Fz4 I <| Fz1 I trivial⟩⟩
                    · refine .seq <| .plain 12 I <| .p I (.fa I (G37_0 _)) <| .p I (.ld Y3 I) <| .p I (.fa I (G37_1 _)) <| .p I (.ld Y3 I) <| .p I (.ne I) <| .p I (.mv I) <| gK h fun hc_147 h => .jAnd 5 (b2 := decide (0 < (((condition_raised n x67_19 x200_138).getD default).length : Int))) I I I I (.inl I) (fun _ _ _ h1 => by cases h1) I I (fun hb_146 => ?_) ?_
                      · refine .q I (.ld Y84 I) <| .q I (.ld Y78 I) <| .q I (.call I K59 I (condition_raised_ok _ _ _ _ (someD (impT hc_147 hb_146)))) <| .q I (.len I U22 I) <| .q I (.gt I) ?_
                        exact .nil I
                      refine .nil <| .nil <| .keep [.box 53 [.d (.sl 2 (List.map Range.enc [])), .d (.sl 2 (List.map Row.enc [])), .d (.sl 3 (List.map Graph.enc [])), .d (.sl 1 (List.map (fun l => D.sl 2 (List.map Row.enc l)) []))], .dead, .dead, .box 53 [.d (.sl 2 (List.map Range.enc x70_20)), .vec 6 (List.length b6_84), .vec 7 (List.length b7_141), .d (.sl 1 (List.map (fun l => D.sl 2 (List.map Row.enc l)) []))], .vec 33 2 (List.map Row.enc ([] : List Row)), .vec 99 3 (List.map Graph.enc ([] : List Graph)), .vec 33 2 (List.map Row.enc b6_84), .vec 99 3 (List.map Graph.enc b7_141), .vec 33 2 (List.map Row.enc b8_65), .box 78 [.d (.int c9_0_85), .d (.int c9_1_86), .d (.sl 2 (List.map Term.enc c9_2_87)), .d (.int c9_3_88), .d (.int c9_4_89), .d (.int c9_5_90)]] [4, 6, 10, 11, 12, 22, 25, 196, 197, 198, 236] (.c8 I <| .c2 I <| .c I .nil) I <| .condS I h (fun h => ?_) fun h => ?_
                      · refine .draw 6 Hm (by kernel_rfl) (by kernel_rfl) <| .p I (.fieldAddrLoc I I I F53_2) <| .p I (.loadLoc1 I I I Y50 I) <| .p I (.ld Y78 I) <| .p I (.makeFunc I I) <| bK h fun x241_148 hx241_148 h => .p I (.call I K57 I (condition_graph_ok _ _ _ _ (fun q0 y hq => ⟨_, _, I, K62, condition_System_4_ok _ q0 _ _ hq⟩) _ hx241_148)) <| .p I (.buildSl [_] I I E50 I (fun _ => I) I (enc := Graph.enc)) <| .nil <| bK h fun x243_149 hx243_149 h => .app I I I I I I I I E50 I (fun _ => I) hx243_149 <| .p I (.fieldAddrLoc I I I F53_2) <| .store I I I I I I (.cons (.vec I (by simp)) .nil) C50 I (Nat.le_of_ble_eq_true I) <| .nil ?_
                        exact ⟨_, h, ⟨_, Fz8 I <| Fz4 I trivial⟩⟩
                      · refine .skip ?_
                        exact ⟨_, h, ⟨_, Fz8 I <| Fz4 I trivial⟩⟩
                · refine .region <| .p I (.ad I) <| .p I (.mv I) <| .nil ?_
                  exact ⟨_, h, ⟨_, Fz8 I <| Fz4 I trivial⟩⟩
              · refine .exit <| .seq <| .sr <| .p I (.fieldAddrLoc I I I F78_0) <| .p I (.loadLoc1 I I I Y3 I) <| .p I (.eq I) <| .nil <| .condS I h (fun h => ?_) fun h => ?_
                · refine .seq <| .region ?_
                  cases h
                · refine .skip <| .seq <| .sr <| .p I (.loadLoc I I I Y53 (Nat.le_of_ble_eq_true I) I) <| bK h fun x267_150 hx267_150 h => .p I (.callB I K64 (.cons I (.agg (.cons (.d _) (.cons (.vec I (by simp)) (.cons (.vec I (by simp)) (.cons (.d _) (.nil)))))) (.nil)) I (system_Valid_ok _ _ _ hx267_150)) <| .p I (.nt I) <| .nil <| .condS I h (fun h => ?_) fun h => ?_
                  · refine .sr <| .p I (.castD (System.enc (⟨[], [], [], []⟩ : System)) I (.build I Pl53 (.agg Zc53 (ds' := [.sl 2 (List.map Range.enc []), .sl 2 (List.map Row.enc []), .sl 3 (List.map Graph.enc []), .sl 1 (List.map (fun l => D.sl 2 (List.map Row.enc l)) [])]) (.cons (.nil _) (.cons (.nil _) (.cons (.nil _) (.cons (.nil _) (.nil)))))) I I)) <| .store I I I I I I (.ofD I) C53 I (Nat.le_of_ble_eq_true I) <| .p I (.asg I) <| .nil <| .ret ?_
                    cases h
                    exact retCellTmp I I Y53 (.cons (.d _) (.cons (.d _) (.cons (.d _) (.cons (.d _) (.nil))))) I (.d _)
                  · refine .skip <| .sr <| .p I (.loadLoc I I I Y53 (Nat.le_of_ble_eq_true I) I) <| .store I I I I I I (.cons (.d I) (.cons (.vec I (by simp)) (.cons (.vec I (by simp)) (.cons (.d I) (.nil))))) C53 I (Nat.le_of_ble_eq_true I) <| .p I (.asg I) <| .nil <| .ret ?_
                    cases h
                    exact retCellTmp I I Y53 (.cons (.d _) (.cons (.vec I (by simp)) (.cons (.vec I (by simp)) (.cons (.d _) (.nil))))) I (.d _)
set_option maxHeartbeats 2000000 in
theorem condition_open_ok (n : Nat) (t0 : Model) (t1 : Question) (r : Bool) (h : condition_open n t0 t1 = some r) : Pure Tryz.prog 44 [Model.enc t0, Question.enc t1] (.bool r) := by
  refine Pure.ot Tryz.func44 I Tryz.ntmps44 I fun A w => .sr <| .p I (.bx I) <| .p I (.bx I) <| .p I (.asg I) <| .nil <| .seq <| .draw 16 Hm (by kernel_rfl) (by kernel_rfl) <| .p I (.fa I (G30_5 _)) <| .p I (.ld Y27 I) <| .p I (.fa I (G37_0 _)) <| .p I (.ld Y3 I) <| bK h fun x12_1 hx12_1 h => .p I (.ix I U27 S84 hx12_1) <| .p I (.ld Y84 I) <| .p I (.fa I (G30_5 _)) <| .p I (.ld Y27 I) <| .p I (.fa I (G37_1 _)) <| .p I (.ld Y3 I) <| bK h fun x18_2 hx18_2 h => .p I (.ix I U27 S84 hx18_2) <| .p I (.ld Y84 I) <| .alloc I I I I ZZ84 <| .alloc I I I I ZZ84 <| .store I I I I I I Z84 <| .store I I I I I I Z84 <| .nil <| .freezes [0, 1] (.cons (t := 5) (d := .ref (Action.enc x12_1)) I (.loc (inIds I) I (.cons (.d _) (.cons (.d _) (.cons (.d _) (.cons (.d _) (.cons (.d _) (.nil))))))) (.cons (t := 6) (d := .ref (Action.enc x18_2)) I (.loc (inIds I) I (.cons (.d _) (.cons (.d _) (.cons (.d _) (.cons (.d _) (.cons (.d _) (.nil))))))) (.nil))) <| .nil <| .keep [.dead, .dead] [2, 3, 5, 6] (.c4 I .nil) I <| .seq <| .sr <| .p I (.fa I (G37_2 _)) <| .p I (.fa I (G35_0 _)) <| .p I (.ld Y4 I) <| .nil <| .condS I h (fun h => ?_) fun h => ?_
  · refine .seq <| .draw 12 Hm (by kernel_rfl) (by kernel_rfl) <| .p I (.ld Y84 I) <| .p I (.fa I (G84_2 _)) <| .p I (.fa I (G82_1 _)) <| .p I (.ld Y49 I) <| .p I (.fa I (G37_2 _)) <| .p I (.fa I (G35_1 _)) <| .p I (.ld Y3 I) <| bK h fun x30_3 hx30_3 h => .p I (.ix I U49 S33 hx30_3) <| .p I (.ld Y33 I) <| bK h fun x32_4 hx32_4 h => .p I (.call I K40 I (condition_change_ok _ _ _ _ hx32_4)) <| .p I (.gt I) <| .p I (.asg I) <| .nil <| .nil <| .ret ?_
    cases h
    exact retOne I (.d _)
  · refine .skip <| .sr <| .p I (.fa I (G30_3 _)) <| .p I (.ld Y25 I) <| .p I (.fa I (G37_2 _)) <| .p I (.fa I (G35_1 _)) <| .p I (.ld Y3 I) <| bK h fun x39_5 hx39_5 h => .p I (.ix I U25 S78 hx39_5) <| .p I (.ld Y78 I) <| .allocStore I I I I I I I I (by simp) I I Z78 <| .nil <| .seq <| .sr <| .p I (.fa I (G78_0 _)) <| .p I (.ld Y3 I) <| .p I (.eq I) <| .nil <| .condS I h (fun h => ?_) fun h => ?_
    · refine .seq <| .plain 12 I <| .p I (.ld Y84 I) <| .p I (.fa I (G78_2 _)) <| .p I (.ld Y33 I) <| bK h fun x47_6 hx47_6 h => .p I (.call I K40 I (condition_change_ok _ _ _ _ hx47_6)) <| .p I (.gt I) <| .p I (.mv I) <| gK h fun hc_8 h => .jAnd 5 (b2 := decide (0 < ((condition_change n x18_2 x39_5.row).getD default))) I I I I (.inl I) (fun _ _ _ h1 => by cases h1) I I (fun hb_7 => ?_) ?_
      · refine .q I (.ld Y84 I) <| .q I (.fa I (G78_2 _)) <| .q I (.ld Y33 I) <| .q I (.call I K40 I (condition_change_ok _ _ _ _ (someD (impT hc_8 hb_7)))) <| .q I (.gt I) ?_
        exact .nil I
      refine .nil <| .p I (.asg I) <| .nil <| .keep [.dead, .dead] [4] (.c I .nil) I <| .ret ?_
      cases h
      exact retOne I (.d _)
    · refine .skip <| .seq <| .plain 12 I <| .p I (.ld Y84 I) <| .p I (.ld Y78 I) <| bK h fun x58_9 hx58_9 h => .p I (.call I K59 I (condition_raised_ok _ _ _ _ hx58_9)) <| .p I (.len I U22 I) <| .p I (.gt I) <| .p I (.mv I) <| gK h fun hc_11 h => .jAnd 5 (b2 := decide (0 < (((condition_raised n x18_2 x39_5).getD default).length : Int))) I I I I (.inl I) (fun _ _ _ h1 => by cases h1) I I (fun hb_10 => ?_) ?_
      · refine .q I (.ld Y84 I) <| .q I (.ld Y78 I) <| .q I (.call I K59 I (condition_raised_ok _ _ _ _ (someD (impT hc_11 hb_10)))) <| .q I (.len I U22 I) <| .q I (.gt I) ?_
        exact .nil I
      refine .nil <| .p I (.asg I) <| .nil <| .keep [.dead, .dead] [4] (.c I .nil) I <| .ret ?_
      cases h
      exact retOne I (.d _)
theorem condition_Questions_1_ok (n : Nat) (t0 : Question) (t1 : Model) (r : Bool) (h : condition_Questions_1 n t0 t1 = some r) : Pure Tryz.prog 47 [Question.enc t0, .ref (Model.enc t1)] (.bool r) := by
  refine Pure.ot Tryz.func47 I Tryz.ntmps47 I fun A w => .sr <| .p I (.bx I) <| .p I (.asg I) <| .nil <| .sr <| .p I (.ld Y30 I) <| .p I (.ld Y37 I) <| bK h fun x6_1 hx6_1 h => .p I (.call I K44 I (condition_open_ok _ _ _ _ hx6_1)) <| .p I (.nt I) <| .p I (.asg I) <| .nil <| .ret ?_
  cases h
  exact retOne I (.d _)
theorem slices_IndexFunc_LQuestion_api_Question_ok (n : Nat) (t0 : List Question) (t1 : Question → Option Bool) (F1 : D) (hF1 : ∀ (q0 : Question) (y : Bool), t1 q0 = some y → Dyn Tryz.prog F1 [Question.enc q0] (.bool y)) (r : Int) (h : slices_IndexFunc_LQuestion_api_Question n t0 t1 = some r) : Pure Tryz.prog 109 [.sl 4 (List.map Question.enc t0), F1] (.int r) := by
  refine Pure.ot Tryz.func109 I Tryz.ntmps109 I fun A w => .sr <| .p I (.asg I) <| .nil <| .seq <| .sr <| .p I (.mv I) <| .p I (.len I U46 I) <| .p I (.mv I) <| .nil <| .block <| .loopS [0, 1, 7] (fun (v : Int) => [(8, .d (.int v))]) (fun (v : Int) => []) (.c2 I <| .c I .nil) h ⟨_, Fz4 I <| Fz2 I <| Fz1 I trivial⟩ (fun rec_8 x8_7 h => ?_)
  refine .sr <| .p I (.ls I) <| .nil <| .keep [] [0, 1, 7, 8, 9] (.c4 I <| .c I .nil) I <| .seq <| .condS I h (fun h => ?_) fun h => ?_
  · refine .skip <| .seq <| .block <| .sr <| .p I (.mv I) <| .p I (.asg I) <| .nil <| .sr <| .p I (.mv I) <| .p I (.mv I) <| .p I (.mv I) <| bK h fun x14_9 hx14_9 h => .p I (.ix I U46 S37 hx14_9) <| .p I (.ld Y37 I) <| bK h fun x16_10 hx16_10 h => .p I (.dyn I I I (hF1 _ _ hx16_10)) <| .nil <| .condS I h (fun h => ?_) fun h => ?_
    · refine .sr <| .p I (.mv I) <| .p I (.asg I) <| .nil <| .ret ?_
      cases h
      exact retOne I (.d _)
    · refine .skip <| .region <| .p I (.ad I) <| .p I (.mv I) <| .nil ?_
      exact ⟨_, h, ⟨_, Fz4 I <| Fz2 I <| Fz1 I trivial⟩⟩
  · refine .exit <| .sr <| .p I (.asg I) <| .nil <| .ret ?_
    cases h
    exact retOne I (.d _)
set_option maxHeartbeats 2000000 in
theorem condition_Questions_ok (n : Nat) (t0 : Model) (r : List Question) (h : condition_Questions n t0 = some r) : Pure Tryz.prog 17 [Model.enc t0] (.sl 4 (List.map Question.enc r)) := by
  refine Pure.ot Tryz.func17 I Tryz.ntmps17 I fun A w => .sr <| .p I (.bx I) <| .p I (.nilS 4 (α := Question) Question.enc I) <| .nil <| .seq <| .sr <| .p I (.ld Y30 I) <| bK h fun x10_1 hx10_1 h => .p I (.call I K39 I (model_Valid_ok _ _ _ hx10_1)) <| .p I (.nt I) <| .nil <| .condS I h (fun h => ?_) fun h => ?_
  · refine .sr <| .p I (.nilS 4 (α := Question) Question.enc I) <| .nil <| .ret ?_
    cases h
    exact retOne I (.d _)
  · refine .skip <| .sr <| .p I (.asg I) <| .nilVec 3 4 37 I <| .nil <| .seq <| .sr <| .p I (.fa I (G30_5 _)) <| .p I (.ld Y27 I) <| .p I (.len I U27 I) <| .p I (.mv I) <| .nil <| .block <| .loopS [1, 14] (fun (v : (List Question) × Int) => [(3, .vec 0 (List.length v.1)), (15, .d (.int v.2))]) (fun (v : (List Question) × Int) => [(0, .vec 37 4 (List.map Question.enc v.1))]) (.c2 I .nil) h ⟨_, Fz4 I <| Fz2 I <| Fz1 I trivial⟩ (fun rec_982 v h => ?_)
    obtain ⟨b0_980, x15_981⟩ := v
    refine .sr <| .p I (.ls I) <| .nil <| .keep [.vec 37 4 (List.map Question.enc b0_980)] [1, 3, 14, 15, 16] (.c4 I <| .c I .nil) I <| .seq <| .condS I h (fun h => ?_) fun h => ?_
    · refine .skip <| .seq <| .block <| .sr <| .p I (.mv I) <| .p I (.asg I) <| .nil <| .sr <| .p I (.fa I (G30_5 _)) <| .p I (.ld Y27 I) <| .p I (.len I U27 I) <| .p I (.mv I) <| .nil <| .block <| .loopS [1, 4, 14, 15, 20] (fun (v : (List Question) × Int) => [(3, .vec 0 (List.length v.1)), (21, .d (.int v.2))]) (fun (v : (List Question) × Int) => [(0, .vec 37 4 (List.map Question.enc v.1))]) (.c4 I <| .c I .nil) h ⟨_, Fz8 I <| Fz2 I trivial⟩ (fun rec_1309 v h => ?_)
      obtain ⟨b0_1307, x21_1308⟩ := v
      refine .sr <| .p I (.ls I) <| .nil <| .keep [.vec 37 4 (List.map Question.enc b0_1307)] [1, 3, 4, 14, 15, 20, 21, 22] (.c8 I .nil) I <| .seq <| .condS I h (fun h => ?_) fun h => ?_
      · refine .skip <| .join [1, 4, 14, 15, 20, 21] (fun (v : (List Question)) => [(3, .vec 0 (List.length v))]) (fun (v : (List Question)) => [(0, .vec 37 4 (List.map Question.enc v))]) (.c4 I <| .c2 I .nil) h (fun k_1311 h => ?_) (fun b0_1310 h => ?_)
        · refine .block <| .sr <| .p I (.mv I) <| .p I (.asg I) <| .nil <| .sr <| .p I (.asg I) <| .nilVec 6 4 37 I <| .nil <| .seq <| .sr <| .p I (.fa I (G30_3 _)) <| .p I (.ld Y25 I) <| .p I (.len I U25 I) <| .p I (.mv I) <| .nil <| .block <| .loopS [1, 3, 4, 5, 14, 15, 20, 21, 26] (fun (v : (List Question) × Int) => [(6, .vec 1 (List.length v.1)), (27, .d (.int v.2))]) (fun (v : (List Question) × Int) => [(1, .vec 37 4 (List.map Question.enc v.1))]) (.c8 I <| .c I .nil) h ⟨_, Fz8 I <| Fz4 I <| Fz2 I trivial⟩ (fun rec_1324 v h => ?_)
          obtain ⟨b1_1322, x27_1323⟩ := v
          refine .sr <| .p I (.ls I) <| .nil <| .keep [.vec 37 4 (List.map Question.enc b0_1307), .vec 37 4 (List.map Question.enc b1_1322)] [1, 3, 4, 5, 6, 14, 15, 20, 21, 26, 27, 28] (.c8 I <| .c4 I .nil) I <| .seq <| .condS I h (fun h => ?_) fun h => ?_
          · refine .skip <| .join [1, 3, 4, 5, 14, 15, 20, 21, 26, 27] (fun (v : (List Question)) => [(6, .vec 1 (List.length v))]) (fun (v : (List Question)) => [(1, .vec 37 4 (List.map Question.enc v))]) (.c8 I <| .c2 I .nil) h (fun k_1326 h => ?_) (fun b1_1325 h => ?_)
            · refine .block <| .sr <| .p I (.mv I) <| .p I (.asg I) <| .nil <| .sr <| .p I (.mv I) <| .p I (.mv I) <| .p I (.le I) <| .nil <| .condS I h (fun h => ?_) fun h => ?_
              · refine .region <| .p I (.mv I) <| .p I (.mv I) <| .p I (.mv I) <| .p I (.mv I) <| .p I (.castD (Target.enc (⟨false, x27_1323⟩ : Target)) I (.build I Pl35 (.agg Zc35 (ds' := [_, _]) (.cons (.refl _) (.cons (.refl _) (.nil)))) I I)) <| .p I (.castD (Question.enc (⟨x15_981, x21_1308, (⟨false, x27_1323⟩ : Target)⟩ : Question)) I (.build I Pl37 (.agg Zc37 (ds' := [_, _, _, _]) (.cons (.refl _) (.cons (.refl _) (.cons (.refl _) (.cons (.refl _) (.nil)))))) I I)) <| .p I (.buildSl [_] I I E46 I (fun _ => I) I (enc := Question.enc)) <| bK h fun x40_1327 hx40_1327 h => .app I I I I I I I I E46 I (fun _ => I) hx40_1327 <| .p I (.asg I) <| .nil ?_
                exact ⟨_, h, ⟨_, Fz8 I <| Fz4 I <| Fz2 I trivial⟩⟩
              · refine .skip ?_
                exact ⟨_, h, ⟨_, Fz8 I <| Fz4 I <| Fz2 I trivial⟩⟩
            · refine .region <| .p I (.ad I) <| .p I (.mv I) <| .nil ?_
              exact ⟨_, h, ⟨_, Fz8 I <| Fz4 I <| Fz2 I trivial⟩⟩
          · refine .exit <| .seq <| .sr <| .p I (.fa I (G30_5 _)) <| .p I (.ld Y27 I) <| .p I (.mv I) <| bK h fun x45_1328 hx45_1328 h => .p I (.ix I U27 S84 hx45_1328) <| .p I (.fa I (G84_2 _)) <| .p I (.fa I (G82_1 _)) <| .p I (.ld Y49 I) <| .p I (.len I U49 I) <| .p I (.mv I) <| .nil <| .block <| .loopS [1, 3, 4, 5, 14, 15, 20, 21, 49] (fun (v : (List Question) × Int) => [(6, .vec 1 (List.length v.1)), (50, .d (.int v.2))]) (fun (v : (List Question) × Int) => [(1, .vec 37 4 (List.map Question.enc v.1))]) (.c8 I <| .c I .nil) h ⟨_, Fz8 I <| Fz4 I <| Fz2 I trivial⟩ (fun rec_1337 v h => ?_)
            obtain ⟨b1_1335, x50_1336⟩ := v
            refine .sr <| .p I (.ls I) <| .nil <| .keep [.vec 37 4 (List.map Question.enc b0_1307), .vec 37 4 (List.map Question.enc b1_1335)] [1, 3, 4, 5, 6, 14, 15, 20, 21, 49, 50, 51] (.c8 I <| .c4 I .nil) I <| .seq <| .condS I h (fun h => ?_) fun h => ?_
            · refine .skip <| .seq <| .block <| .sr <| .p I (.mv I) <| .p I (.asg I) <| .nil <| .region <| .p I (.mv I) <| .p I (.mv I) <| .p I (.mv I) <| .p I (.mv I) <| .p I (.castD (Target.enc (⟨true, x50_1336⟩ : Target)) I (.build I Pl35 (.agg Zc35 (ds' := [_, _]) (.cons (.refl _) (.cons (.refl _) (.nil)))) I I)) <| .p I (.castD (Question.enc (⟨x15_981, x21_1308, (⟨true, x50_1336⟩ : Target)⟩ : Question)) I (.build I Pl37 (.agg Zc37 (ds' := [_, _, _, _]) (.cons (.refl _) (.cons (.refl _) (.cons (.refl _) (.cons (.refl _) (.nil)))))) I I)) <| .p I (.buildSl [_] I I E46 I (fun _ => I) I (enc := Question.enc)) <| bK h fun x60_1338 hx60_1338 h => .app I I I I I I I I E46 I (fun _ => I) hx60_1338 <| .p I (.asg I) <| .nil <| .region <| .p I (.ad I) <| .p I (.mv I) <| .nil ?_
              exact ⟨_, h, ⟨_, Fz8 I <| Fz4 I <| Fz2 I trivial⟩⟩
            · refine .exit <| .region <| .p I (.mv I) <| .p I (.mv I) <| .p I (.makeFunc I I) <| .inline (rs := [.tmp 4]) I I (.stat I K46 I) Tryz.func46 I Tryz.ntmps46 I I I I (fun own0 w gh => ?_)
              refine .sr <| .p I (.nilS 4 (α := Question) Question.enc I) <| .nil <| .keep [.vec 37 4 (List.map Question.enc b0_1307), .vec 37 4 (List.map Question.enc b1_1335)] [0, 1] (.c2 I .nil) I <| .sr <| .p I (.mv I) <| .p I (.mv I) <| bK h fun x10_1340 hx10_1340 h => .p I (.callB I K109 (.cons I (.vec I (by simp)) (.cons I (.d _) (.nil))) I (slices_IndexFunc_LQuestion_api_Question_ok _ _ _ _ (fun q0 y hq => ⟨_, _, I, K47, condition_Questions_1_ok _ q0 _ _ hq⟩) _ hx10_1340)) <| .p I (.asg I) <| .nil <| .seq <| .sr <| .p I (.mv I) <| .p I (.eq I) <| .nil <| .condS I h (fun h => ?_) fun h => ?_
              · refine .sr <| .p I (.mv I) <| .p I (.asg I) <| .nil <| .ret <| ⟨.inl I, _, ⟨_, _, I, I, I⟩, ?_⟩
                refine .freezes [1] (.cons (t := 65) I (.vec (inIds I) I (by simp)) (.nil)) <| bK h fun x66_1342 hx66_1342 h => .app I I I I I I I I E46 I (fun _ => I) hx66_1342 <| .p I (.asg I) <| .nil ?_
                exact ⟨_, h, ⟨_, Fz8 I <| Fz2 I trivial⟩⟩
              · refine .skip <| .seq <| .sr <| .p I (.mv I) <| .p I (.ad I) <| .p I (.asg I) <| .nil <| .block <| .loopS [1] (fun (v : (List Question) × Int × Int) => [(0, .vec 1 (List.length v.1)), (5, .d (.int v.2.1)), (6, .d (.int v.2.2))]) (fun (v : (List Question) × Int × Int) => [(1, .vec 37 4 (List.map Question.enc v.1))]) (.c I .nil) h ⟨_, Fz4 I <| Fz2 I <| Fz1 I trivial⟩ (fun rec_1447 v h => ?_)
                obtain ⟨b1_1444, x5_1445, x6_1446⟩ := v
                refine .seq <| .sr <| .p I (.mv I) <| .p I (.mv I) <| .p I (.lenV I U46 I I I) <| .p I (.ls I) <| .nil <| .keep [.vec 37 4 (List.map Question.enc b0_1307), .vec 37 4 (List.map Question.enc b1_1444)] [0, 1, 5, 6, 19] (.c4 I <| .c I .nil) I <| .condS I h (fun h => ?_) fun h => ?_
                · refine .skip <| .join [1, 6] (fun (v : (List Question) × Int) => [(0, .vec 1 (List.length v.1)), (5, .d (.int v.2))]) (fun (v : (List Question) × Int) => [(1, .vec 37 4 (List.map Question.enc v.1))]) (.c2 I .nil) h (fun k_1457 h => ?_) (fun v h => ?_)
                  · refine .block <| .sr <| .p I (.mv I) <| .p I (.mv I) <| bK h fun x24_1459 hx24_1459 h => .p I (.idxV I I I I I U46 S37 hx24_1459) <| .p I (.loadEl I I I I hx24_1459 Y37 I) <| .allocStore I I I I I I I I (by simp) I I Z37 <| .nil <| .sr <| .p I (.mv I) <| .p I (.ld Y37 I) <| bK h fun x28_1461 hx28_1461 h => .p I (.dyn I I I ⟨_, _, I, K47, condition_Questions_1_ok _ _ _ _ hx28_1461⟩) <| .p I (.nt I) <| .nil <| .condS I h (fun h => ?_) fun h => ?_
                    · refine .sr <| .p I (.mv I) <| .p I (.mv I) <| .p I (.ld Y37 I) <| bK h fun x33_1463 hx33_1463 h => .p I (.idxV I I I I I U46 S37 hx33_1463) <| bK h fun b1_1464 hb1_1464 h => .storeEl (enc := Question.enc) I I I I I I I I I C37 hb1_1464 <| .relen 0 I (sto_len hb1_1464) <| .relen 22 I (sto_len hb1_1464) <| .relen 30 I (sto_len hb1_1464) <| .nil <| .region <| .p I (.mv I) <| .p I (.ad I) <| .p I (.asg I) <| .nil ?_
                      exact ⟨_, h, ⟨_, Fz4 I <| Fz2 I <| Fz1 I trivial⟩⟩
                    · refine .skip ?_
                      exact ⟨_, h, ⟨_, Fz4 I <| Fz2 I <| Fz1 I trivial⟩⟩
                  · obtain ⟨b1_1455, x5_1456⟩ := v
                    refine .region <| .p I (.mv I) <| .p I (.ad I) <| .p I (.asg I) <| .nil ?_
                    exact ⟨_, h, ⟨_, Fz4 I <| Fz2 I <| Fz1 I trivial⟩⟩
                · refine .exit <| .sr <| .p I (.mv I) <| .p I (.mv I) <| bK h fun x38_1466 hx38_1466 h => .p I (.subL I I I I I U46 S37 hx38_1466) <| .clearSub (enc := Question.enc) (l := b1_1444) (⟨0, 0, ⟨false, 0⟩⟩ : Question) I I I E46 I I I (fun _ => I) (.agg Zc37 (ds' := [.int 0, .int 0, .bool false, .int 0]) (.cons (.refl _) (.cons (.refl _) (.cons (.refl _) (.cons (.refl _) (.nil)))))) <| .relen 0 I (copyTo_lenL hx38_1466 (List.replicate (b1_1444.length - x5_1445.toNat) (⟨0, 0, ⟨false, 0⟩⟩ : Question))).symm <| .relen 36 I (copyTo_lenL hx38_1466 (List.replicate (b1_1444.length - x5_1445.toNat) (⟨0, 0, ⟨false, 0⟩⟩ : Question))).symm <| .nil <| .sr <| .p I (.mv I) <| .p I (.mv I) <| bK h fun x41_1468 hx41_1468 h => .p I (.subH I I I I I U46 S37 hx41_1468) <| .p I (.asg I) <| .nil <| .ret <| ⟨.inl I, _, ⟨_, _, I, I, I⟩, ?_⟩
                  refine .freezes [1] (.cons (t := 65) I (.subM (inIds I) I I) (.nil)) <| bK h fun x66_1469 hx66_1469 h => .app I I I I I I I I E46 I (fun _ => I) hx66_1469 <| .p I (.asg I) <| .nil ?_
                  exact ⟨_, h, ⟨_, Fz8 I <| Fz2 I trivial⟩⟩
        · refine .region <| .p I (.ad I) <| .p I (.mv I) <| .nil ?_
          exact ⟨_, h, ⟨_, Fz8 I <| Fz2 I trivial⟩⟩
      · refine .exit <| .region <| .p I (.ad I) <| .p I (.mv I) <| .nil ?_
        exact ⟨_, h, ⟨_, Fz4 I <| Fz2 I <| Fz1 I trivial⟩⟩
    · refine .exit <| .sr <| .p I (.mv I) <| .p I (.asg I) <| .nil <| .ret ?_
      cases h
      exact retOne I (.vec I (by simp))
theorem condition_Open_ok (n : Nat) (t0 : Model) (t1 : Question) (r : Bool) (h : condition_Open n t0 t1 = some r) : Pure Tryz.prog 14 [Model.enc t0, Question.enc t1] (.bool r) := by
  refine Pure.ot Tryz.func14 I Tryz.ntmps14 I fun A w => .sr <| .p I (.bx I) <| .p I (.bx I) <| .p I (.asg I) <| .nil <| .seq <| .plain 8 I <| .p I (.ld Y30 I) <| .p I (.ld Y37 I) <| bK h fun x7_1 hx7_1 h => .p I (.call I K43 I (symmetry_Valid_ok _ _ _ _ hx7_1)) <| .p I (.mv I) <| gK h fun hc_3 h => .jAnd 3 (b2 := ((condition_open n t0 t1).getD default)) I I I I (.inl I) (fun _ _ _ h1 => by cases h1) I I (fun hb_2 => ?_) ?_
  · refine .q I (.ld Y30 I) <| .q I (.ld Y37 I) <| .q I (.call I K44 I (condition_open_ok _ _ _ _ (someD (impT hc_3 hb_2)))) ?_
    exact .nil I
  refine .nil <| .p I (.asg I) <| .nil <| .ret ?_
  cases h
  exact retOne I (.d _)
theorem condition_Change_ok (n : Nat) (t0 : Model) (t1 : Int) (t2 : Row) (r : Int) (h : condition_Change n t0 t1 t2 = some r) : Pure Tryz.prog 12 [Model.enc t0, .int t1, Row.enc t2] (.int r) := by
  refine Pure.ot Tryz.func12 I Tryz.ntmps12 I fun A w => .sr <| .p I (.bx I) <| .p I (.bx I) <| .p I (.asg I) <| .nil <| .seq <| .seq <| .plain 14 I <| .p I (.ld Y30 I) <| bK h fun x8_1 hx8_1 h => .p I (.call I K39 I (model_Valid_ok _ _ _ hx8_1)) <| .p I (.nt I) <| .p I (.mv I) <| .jOr 2 (b2 := decide (t1 < 0)) I I I I (.inl I) (fun _ _ _ h1 => by cases h1) I I (fun hb_2 => ?_) ?_
  · refine .q I (.mv I) <| .q I (.ls I) ?_
    exact .nil I
  refine .p I (.mv I) <| .jOr 5 (b2 := decide ((t0.actions.length : Int) ≤ t1)) I I I I (.inl I) (fun _ _ _ h1 => by cases h1) I I (fun hb_3 => ?_) ?_
  · refine .q I (.mv I) <| .q I (.fa I (G30_5 _)) <| .q I (.ld Y27 I) <| .q I (.len I U27 I) <| .q I (.ge I) ?_
    exact .nil I
  refine .nil <| .nil <| .keep [] [1, 3, 5, 20] (.c4 I .nil) I <| .condS I h (fun h => ?_) fun h => ?_
  · refine .sr <| .p I (.asg I) <| .nil <| .ret ?_
    cases h
    exact retOne I (.d _)
  · refine .skip <| .seq <| .draw 8 Hm (by kernel_rfl) (by kernel_rfl) <| .p I (.fa I (G30_5 _)) <| .p I (.ld Y27 I) <| .p I (.mv I) <| bK h fun x24_4 hx24_4 h => .p I (.ix I U27 S84 hx24_4) <| .p I (.ld Y84 I) <| .p I (.ld Y33 I) <| bK h fun x27_5 hx27_5 h => .p I (.call I K40 I (condition_change_ok _ _ _ _ hx27_5)) <| .p I (.asg I) <| .nil <| .nil <| .ret ?_
    cases h
    exact retOne I (.d _)
set_option maxHeartbeats 2000000 in
theorem slices_Equal_LQuestion_api_Question_ok (n : Nat) (t0 : List Question) (t1 : List Question) (r : Bool) (h : slices_Equal_LQuestion_api_Question n t0 t1 = some r) : Pure Tryz.prog 16 [.sl 4 (List.map Question.enc t0), .sl 4 (List.map Question.enc t1)] (.bool r) := by
  refine Pure.ot Tryz.func16 I Tryz.ntmps16 I fun A w => .sr <| .p I (.asg I) <| .nil <| .seq <| .sr <| .p I (.mv I) <| .p I (.len I U46 I) <| .p I (.mv I) <| .p I (.len I U46 I) <| .p I (.ne I) <| .nil <| .condS I h (fun h => ?_) fun h => ?_
  · refine .sr <| .p I (.asg I) <| .nil <| .ret ?_
    cases h
    exact retOne I (.d _)
  · refine .skip <| .seq <| .sr <| .p I (.mv I) <| .p I (.len I U46 I) <| .p I (.mv I) <| .nil <| .block <| .loopS [0, 1, 12] (fun (v : Int) => [(13, .d (.int v))]) (fun (v : Int) => []) (.c2 I <| .c I .nil) h ⟨_, Fz4 I <| Fz2 I <| Fz1 I trivial⟩ (fun rec_8 x13_7 h => ?_)
    refine .sr <| .p I (.ls I) <| .nil <| .keep [] [0, 1, 12, 13, 14] (.c4 I <| .c I .nil) I <| .seq <| .condS I h (fun h => ?_) fun h => ?_
    · refine .skip <| .seq <| .block <| .sr <| .p I (.mv I) <| .p I (.asg I) <| .nil <| .seq <| .draw 9 Hm (by kernel_rfl) (by kernel_rfl) <| .p I (.mv I) <| .p I (.mv I) <| bK h fun x18_9 hx18_9 h => .p I (.ix I U46 S37 hx18_9) <| .p I (.ld Y37 I) <| .p I (.mv I) <| .p I (.mv I) <| bK h fun x22_10 hx22_10 h => .p I (.ix I U46 S37 hx22_10) <| .p I (.ld Y37 I) <| .p I (.sneq I SE37 I I (xs := Question.vals _) (ys := Question.vals _) I I I I (SQ37 _ _)) <| .nil <| .nil <| .condS I h (fun h => ?_) fun h => ?_
      · refine .sr <| .p I (.asg I) <| .nil <| .ret ?_
        cases h
        exact retOne I (.d _)
      · refine .skip <| .region <| .p I (.ad I) <| .p I (.mv I) <| .nil ?_
        exact ⟨_, h, ⟨_, Fz4 I <| Fz2 I <| Fz1 I trivial⟩⟩
    · refine .exit <| .sr <| .p I (.asg I) <| .nil <| .ret ?_
      cases h
      exact retOne I (.d _)
set_option maxHeartbeats 2000000 in
theorem law22_awake_ok (n : Nat) (r : Bool) (h : law22_awake n = some r) : Pure Tryz.prog 10 [] (.bool r) := by
  refine Pure.ot Tryz.func10 I Tryz.ntmps10 I fun A w => .sr <| .p I (.asg I) <| .nil <| .sr <| bK h fun x6_1 hx6_1 h => .p I (.call I K36 I (law22_example_ok _  _ hx6_1)) <| .allocStore I I I I I I I I (by simp) I I Z30 <| .nil <| .sr <| .p I (.castD (Target.enc (⟨false, 1⟩ : Target)) I (.build I Pl35 (.agg Zc35 (ds' := [_, _]) (.cons (.refl _) (.cons (.refl _) (.nil)))) I I)) <| .p I (.castD (Question.enc (⟨0, 0, (⟨false, 1⟩ : Target)⟩ : Question)) I (.build I Pl37 (.agg Zc37 (ds' := [_, _, _, _]) (.cons (.refl _) (.cons (.refl _) (.cons (.refl _) (.cons (.refl _) (.nil)))))) I I)) <| .allocStore I I I I I I I I (by simp) I I Z37 <| .nil <| .sr <| .p I (.ld Y30 I) <| .p I (.ld Y37 I) <| bK h fun x12_2 hx12_2 h => .p I (.callLe I K19 I (.cons (.refl _) (.cons (.refl _) (.cons (.nil _) (.nil)))) (condition_System_ok _ _ _ _ _ hx12_2)) <| .p I (.mv I) <| .p I (.extract I I I) <| .p I (.extract I I I) <| .allocStore I I I I I I I I (by simp) I I Z53 <| .p I (.asg I) <| .nil <| .keep [] [1, 2, 3, 4] (.c4 I .nil) I <| .sr <| .p I (.ld Y30 I) <| bK h fun x16_3 hx16_3 h => .p I (.call I K17 I (condition_Questions_ok _ _ _ hx16_3)) <| .p I (.asg I) <| .nil <| .seq <| .draw 72 Hm (by kernel_rfl) (by kernel_rfl) <| .p I (.mv I) ?_
  refine .p I (.eq I) <| .p I (.mv I) <| .jAnd 4 (b2 := (x12_2.1.rows.length : Int) == 3) I I I I (.inl I) (fun _ _ _ h1 => by cases h1) I I (fun hb_4 => ?_) ?_
  · refine .q I (.fa I (G53_1 _)) <| .q I (.ld Y49 I) <| .q I (.len I U49 I) <| .q I (.eq I) ?_
    exact .nil I
  refine .p I (.mv I) <| gK h fun hc_6 h => .jAnd 6 (b2 := (((idx x12_2.1.rows 1).getD default).bound) == 1) I I I I (.inl I) (fun _ _ _ h1 => by cases h1) I I (fun hb_5 => ?_) ?_
  · refine .q I (.fa I (G53_1 _)) <| .q I (.ld Y49 I) <| .q I (.ix I U49 S33 (someD (impT hc_6 hb_5))) <| .q I (.fa I (G33_1 _)) <| .q I (.ld Y3 I) <| .q I (.eq I) ?_
    exact .nil I
  refine .p I (.mv I) <| gK h fun hc_8 h => .jAnd 6 (b2 := (((idx x12_2.1.rows 2).getD default).bound) == 0) I I I I (.inl I) (fun _ _ _ h1 => by cases h1) I I (fun hb_7 => ?_) ?_
  · refine .q I (.fa I (G53_1 _)) <| .q I (.ld Y49 I) <| .q I (.ix I U49 S33 (someD (impT hc_8 hb_7))) <| .q I (.fa I (G33_1 _)) <| .q I (.ld Y3 I) <| .q I (.eq I) ?_
    exact .nil I
  refine .p I (.mv I) <| gK h fun hc_10 h => .jAnd 7 (b2 := ((((idx x12_2.1.rows 2).getD default).terms).length : Int) == 1) I I I I (.inl I) (fun _ _ _ h1 => by cases h1) I I (fun hb_9 => ?_) ?_
  · refine .q I (.fa I (G53_1 _)) <| .q I (.ld Y49 I) <| .q I (.ix I U49 S33 (someD (impT hc_10 hb_9))) <| .q I (.fa I (G33_0 _)) <| .q I (.ld Y31 I) <| .q I (.len I U31 I) <| .q I (.eq I) ?_
    exact .nil I
  refine .p I (.mv I) <| gK h fun hc_12 h => gK h fun hc_13 h => .jAnd 9 (b2 := (((idx (((idx x12_2.1.rows 2).getD default).terms) 0).getD default).factor) == (-1)) I I I I (.inl I) (fun _ _ _ h1 => by cases h1) I I (fun hb_11 => ?_) ?_
  · refine .q I (.fa I (G53_1 _)) <| .q I (.ld Y49 I) <| .q I (.ix I U49 S33 (someD (impT hc_12 hb_11))) <| .q I (.fa I (G33_0 _)) <| .q I (.ld Y31 I) <| .q I (.ix I U31 S41 (someD (impT hc_13 hb_11))) <| .q I (.fa I (G41_1 _)) <| .q I (.ld Y3 I) <| .q I (.eq I) ?_
    exact .nil I
  refine .p I (.mv I) <| gK h fun hc_15 h => .jAnd 3 (b2 := ((condition_Open n x6_1 (⟨0, 0, (⟨false, 1⟩ : Target)⟩ : Question)).getD default)) I I I I (.inl I) (fun _ _ _ h1 => by cases h1) I I (fun hb_14 => ?_) ?_
  · refine .q I (.ld Y30 I) <| .q I (.ld Y37 I) <| .q I (.call I K14 I (condition_Open_ok _ _ _ _ (someD (impT hc_15 hb_14)))) ?_
    exact .nil I
  refine .p I (.mv I) <| gK h fun hc_17 h => .jAnd 4 (b2 := !((condition_Open n x6_1 (⟨0, 0, (⟨false, 0⟩ : Target)⟩ : Question)).getD default)) I I I I (.inl I) (fun _ _ _ h1 => by cases h1) I I (fun hb_16 => ?_) ?_
  · refine .q I (.ld Y30 I) <| .q I (.castD (Question.enc (⟨0, 0, (⟨false, 0⟩ : Target)⟩ : Question)) I (.build I Pl37 (.agg Zc37 (ds' := [_, _, _, _]) (.cons (.refl _) (.cons (.refl _) (.cons (.refl _) (.cons (.refl _) (.nil)))))) I I)) <| .q I (.call I K14 I (condition_Open_ok _ _ _ _ (someD (impT hc_17 hb_16)))) <| .q I (.nt I) ?_
    exact .nil I
  refine .p I (.mv I) <| gK h fun hc_19 h => gK h fun hc_20 h => .jAnd 8 (b2 := ((condition_Change n x6_1 0 (((idx x6_1.constraints 0).getD default).row)).getD default) == (-2)) I I I I (.inl I) (fun _ _ _ h1 => by cases h1) I I (fun hb_18 => ?_) ?_
  · refine .q I (.ld Y30 I) <| .q I (.fa I (G30_3 _)) <| .q I (.ld Y25 I) <| .q I (.ix I U25 S78 (someD (impT hc_19 hb_18))) <| .q I (.fa I (G78_2 _)) <| .q I (.ld Y33 I) <| .q I (.call I K12 I (condition_Change_ok _ _ _ _ _ (someD (impT hc_20 hb_18)))) <| .q I (.eq I) ?_
    exact .nil I
  refine .p I (.mv I) <| gK h fun hc_22 h => .jAnd 4 (b2 := ((slices_Equal_LQuestion_api_Question n x16_3 [(⟨0, 0, (⟨false, 1⟩ : Target)⟩ : Question)]).getD default)) I I I I (.inl I) (fun _ _ _ h1 => by cases h1) I I (fun hb_21 => ?_) ?_
  · refine .q I (.mv I) <| .q I (.ld Y37 I) <| .q I (.buildSl [_] I I E46 I (fun _ => I) I (enc := Question.enc)) <| .q I (.call I K16 I (slices_Equal_LQuestion_api_Question_ok _ _ _ _ (someD (impT hc_22 hb_21)))) ?_
    exact .nil I
  refine .p I (.asg I) <| .nil <| .nil <| .keep [] [0] (.c I .nil) I <| .ret ?_
  cases h
  exact retOne I (.d _)
set_option maxHeartbeats 2000000 in
theorem ref09_Few_ok (n : Nat) (t0 : List Int) (t1 : List Table) (r : Bool) (h : ref09_Few n t0 t1 = some r) : Pure Tryz.prog 92 [.sl 1 (List.map D.int t0), .sl 6 (List.map Table.enc t1)] (.bool r) := by
  refine Pure.ot Tryz.func92 I Tryz.ntmps92 I fun A w => .sr <| .p I (.asg I) <| .nil <| .seq <| .sr <| .p I (.asg I) <| .nil <| .block <| .loopS [0, 1] (fun (v : Int) => [(5, .d (.int v))]) (fun (v : Int) => []) (.c2 I .nil) h ⟨_, Fz4 I <| Fz2 I trivial⟩ (fun rec_10 x5_9 h => ?_)
  refine .seq <| .sr <| .p I (.mv I) <| .p I (.mv I) <| .p I (.len I U23 I) <| .p I (.ls I) <| .nil <| .keep [] [0, 1, 5, 9] (.c4 I .nil) I <| .condS I h (fun h => ?_) fun h => ?_
  · refine .skip <| .seq <| .block <| .seq <| .plain 16 I <| .p I (.mv I) <| .p I (.mv I) <| bK h fun x14_11 hx14_11 h => .p I (.ix I U23 S127 hx14_11) <| .p I (.fa I (G127_0 _)) <| .p I (.ld Y9 I) <| .p I (.len_str I U9 I) <| .p I (.gt I) <| .p I (.mv I) <| gK h fun hc_13 h => .jOr 7 (b2 := decide (12 < ((((idx t1 x5_9).getD default).columns).length : Int))) I I I I (.inl I) (fun _ _ _ h1 => by cases h1) I I (fun hb_12 => ?_) ?_
    · refine .q I (.mv I) <| .q I (.mv I) <| .q I (.ix I U23 S127 (someD (impF hc_13 hb_12))) <| .q I (.fa I (G127_2 _)) <| .q I (.ld Y22 I) <| .q I (.len I U22 I) <| .q I (.gt I) ?_
      exact .nil I
    refine .nil <| .nil <| .keep [] [0, 1, 5, 27] (.c4 I .nil) I <| .condS I h (fun h => ?_) fun h => ?_
    · refine .sr <| .p I (.asg I) <| .nil <| .ret ?_
      cases h
      exact retOne I (.d _)
    · refine .skip <| .region <| .p I (.mv I) <| .p I (.ad I) <| .p I (.asg I) <| .nil ?_
      exact ⟨_, h, ⟨_, Fz4 I <| Fz2 I trivial⟩⟩
  · refine .exit <| .seq <| .plain 8 I <| .p I (.mv I) <| .p I (.len I U22 I) <| .p I (.le I) <| .p I (.mv I) <| .jAnd 3 (b2 := decide ((t1.length : Int) ≤ 20)) I I I I (.inl I) (fun _ _ _ h1 => by cases h1) I I (fun hb_14 => ?_) ?_
    · refine .q I (.mv I) <| .q I (.len I U23 I) <| .q I (.le I) ?_
      exact .nil I
    refine .nil <| .p I (.asg I) <| .nil <| .ret ?_
    cases h
    exact retOne I (.d _)
set_option maxHeartbeats 2000000 in
theorem ref13_Bounded_ok (n : Nat) (t0 : Model) (r : Bool) (h : ref13_Bounded n t0 = some r) : Pure Tryz.prog 37 [Model.enc t0] (.bool r) := by
  refine Pure.ot Tryz.func37 I Tryz.ntmps37 I fun A w => .sr <| .p I (.bx I) <| .p I (.asg I) <| .nil <| .seq <| .seq <| .plain 48 I <| .p I (.fa I (G30_0 _)) <| .p I (.ld Y22 I) <| .p I (.len I U22 I) <| .p I (.gt I) <| .p I (.mv I) <| .jOr 4 (b2 := decide (6 < (t0.tables.length : Int))) I I I I (.inl I) (fun _ _ _ h1 => by cases h1) I I (fun hb_1 => ?_) ?_
  · refine .q I (.fa I (G30_1 _)) <| .q I (.ld Y23 I) <| .q I (.len I U23 I) <| .q I (.gt I) ?_
    exact .nil I
  refine .p I (.mv I) <| .jOr 4 (b2 := decide (20 < (t0.families.length : Int))) I I I I (.inl I) (fun _ _ _ h1 => by cases h1) I I (fun hb_2 => ?_) ?_
  · refine .q I (.fa I (G30_2 _)) <| .q I (.ld Y24 I) <| .q I (.len I U24 I) <| .q I (.gt I) ?_
    exact .nil I
  refine .p I (.mv I) <| .jOr 4 (b2 := decide (60 < (t0.constraints.length : Int))) I I I I (.inl I) (fun _ _ _ h1 => by cases h1) I I (fun hb_3 => ?_) ?_
  · refine .q I (.fa I (G30_3 _)) <| .q I (.ld Y25 I) <| .q I (.len I U25 I) <| .q I (.gt I) ?_
    exact .nil I
  refine .p I (.mv I) <| .jOr 4 (b2 := decide (8 < (t0.operations.length : Int))) I I I I (.inl I) (fun _ _ _ h1 => by cases h1) I I (fun hb_4 => ?_) ?_
  · refine .q I (.fa I (G30_4 _)) <| .q I (.ld Y26 I) <| .q I (.len I U26 I) <| .q I (.gt I) ?_
    exact .nil I
  refine .p I (.mv I) <| .jOr 4 (b2 := decide (30 < (t0.actions.length : Int))) I I I I (.inl I) (fun _ _ _ h1 => by cases h1) I I (fun hb_5 => ?_) ?_
  · refine .q I (.fa I (G30_5 _)) <| .q I (.ld Y27 I) <| .q I (.len I U27 I) <| .q I (.gt I) ?_
    exact .nil I
  refine .p I (.mv I) <| .jOr 4 (b2 := decide (12 < (t0.hides.length : Int))) I I I I (.inl I) (fun _ _ _ h1 => by cases h1) I I (fun hb_6 => ?_) ?_
  · refine .q I (.fa I (G30_6 _)) <| .q I (.ld Y28 I) <| .q I (.len I U28 I) <| .q I (.gt I) ?_
    exact .nil I
  refine .p I (.mv I) <| gK h fun hc_8 h => .jOr 6 (b2 := !((ref09_Few n t0.sorts t0.tables).getD default)) I I I I (.inl I) (fun _ _ _ h1 => by cases h1) I I (fun hb_7 => ?_) ?_
  · refine .q I (.fa I (G30_0 _)) <| .q I (.ld Y22 I) <| .q I (.fa I (G30_1 _)) <| .q I (.ld Y23 I) <| .q I (.call I K92 I (ref09_Few_ok _ _ _ _ (someD (impF hc_8 hb_7)))) <| .q I (.nt I) ?_
    exact .nil I
  refine .nil <| .nil <| .keep [] [1, 56] (.c2 I .nil) I <| .condS I h (fun h => ?_) fun h => ?_
  · refine .sr <| .p I (.asg I) <| .nil <| .ret ?_
    cases h
    exact retOne I (.d _)
  · refine .skip <| .seq <| .sr <| .p I (.asg I) <| .nil <| .block <| .loopS [1] (fun (v : Int) => [(3, .d (.int v))]) (fun (v : Int) => []) (.c I .nil) h ⟨_, Fz4 I <| Fz1 I trivial⟩ (fun rec_14 x3_13 h => ?_)
    refine .seq <| .sr <| .p I (.mv I) <| .p I (.fa I (G30_2 _)) <| .p I (.ld Y24 I) <| .p I (.len I U24 I) <| .p I (.ls I) <| .nil <| .keep [] [1, 3, 61] (.c2 I <| .c I .nil) I <| .condS I h (fun h => ?_) fun h => ?_
    · refine .skip <| .seq <| .block <| .sr <| .p I (.fa I (G30_2 _)) <| .p I (.ld Y24 I) <| .p I (.mv I) <| bK h fun x67_15 hx67_15 h => .p I (.ix I U24 S9 hx67_15) <| .p I (.ld Y9 I) <| .p I (.len_str I U9 I) <| .p I (.gt I) <| .nil <| .condS I h (fun h => ?_) fun h => ?_
      · refine .sr <| .p I (.asg I) <| .nil <| .ret ?_
        cases h
        exact retOne I (.d _)
      · refine .skip <| .region <| .p I (.mv I) <| .p I (.ad I) <| .p I (.asg I) <| .nil ?_
        exact ⟨_, h, ⟨_, Fz4 I <| Fz1 I trivial⟩⟩
    · refine .exit <| .seq <| .sr <| .p I (.asg I) <| .nil <| .block <| .loopS [1] (fun (v : Int) => [(4, .d (.int v))]) (fun (v : Int) => []) (.c I .nil) h ⟨_, Fz4 I <| Fz1 I trivial⟩ (fun rec_21 x4_20 h => ?_)
      refine .seq <| .sr <| .p I (.mv I) <| .p I (.fa I (G30_3 _)) <| .p I (.ld Y25 I) <| .p I (.len I U25 I) <| .p I (.ls I) <| .nil <| .keep [] [1, 4, 75] (.c2 I <| .c I .nil) I <| .condS I h (fun h => ?_) fun h => ?_
      · refine .skip <| .seq <| .block <| .sr <| .p I (.fa I (G30_3 _)) <| .p I (.ld Y25 I) <| .p I (.mv I) <| bK h fun x81_22 hx81_22 h => .p I (.ix I U25 S78 hx81_22) <| .p I (.fa I (G78_2 _)) <| .p I (.fa I (G33_0 _)) <| .p I (.ld Y31 I) <| .p I (.len I U31 I) <| .p I (.gt I) <| .nil <| .condS I h (fun h => ?_) fun h => ?_
        · refine .sr <| .p I (.asg I) <| .nil <| .ret ?_
          cases h
          exact retOne I (.d _)
        · refine .skip <| .region <| .p I (.mv I) <| .p I (.ad I) <| .p I (.asg I) <| .nil ?_
          exact ⟨_, h, ⟨_, Fz4 I <| Fz1 I trivial⟩⟩
      · refine .exit <| .seq <| .sr <| .p I (.asg I) <| .nil <| .block <| .loopS [1] (fun (v : Int) => [(5, .d (.int v))]) (fun (v : Int) => []) (.c I .nil) h ⟨_, Fz4 I <| Fz1 I trivial⟩ (fun rec_32 x5_31 h => ?_)
        refine .seq <| .sr <| .p I (.mv I) <| .p I (.fa I (G30_4 _)) <| .p I (.ld Y26 I) <| .p I (.len I U26 I) <| .p I (.ls I) <| .nil <| .keep [] [1, 5, 91] (.c2 I <| .c I .nil) I <| .condS I h (fun h => ?_) fun h => ?_
        · refine .skip <| .seq <| .block <| .seq <| .plain 18 I <| .p I (.fa I (G30_4 _)) <| .p I (.ld Y26 I) <| .p I (.mv I) <| bK h fun x97_33 hx97_33 h => .p I (.ix I U26 S129 hx97_33) <| .p I (.fa I (G129_0 _)) <| .p I (.ld Y9 I) <| .p I (.len_str I U9 I) <| .p I (.gt I) <| .p I (.mv I) <| gK h fun hc_35 h => .jOr 8 (b2 := decide (6 < ((((idx t0.operations x5_31).getD default).sorts).length : Int))) I I I I (.inl I) (fun _ _ _ h1 => by cases h1) I I (fun hb_34 => ?_) ?_
          · refine .q I (.fa I (G30_4 _)) <| .q I (.ld Y26 I) <| .q I (.mv I) <| .q I (.ix I U26 S129 (someD (impF hc_35 hb_34))) <| .q I (.fa I (G129_2 _)) <| .q I (.ld Y22 I) <| .q I (.len I U22 I) <| .q I (.gt I) ?_
            exact .nil I
          refine .nil <| .nil <| .keep [] [1, 5, 111] (.c2 I <| .c I .nil) I <| .condS I h (fun h => ?_) fun h => ?_
          · refine .sr <| .p I (.asg I) <| .nil <| .ret ?_
            cases h
            exact retOne I (.d _)
          · refine .skip <| .region <| .p I (.mv I) <| .p I (.ad I) <| .p I (.asg I) <| .nil ?_
            exact ⟨_, h, ⟨_, Fz4 I <| Fz1 I trivial⟩⟩
        · refine .exit <| .seq <| .sr <| .p I (.asg I) <| .nil <| .block <| .loopS [1] (fun (v : Int) => [(6, .d (.int v))]) (fun (v : Int) => []) (.c I .nil) h ⟨_, Fz4 I <| Fz1 I trivial⟩ (fun rec_63 x6_62 h => ?_)
          refine .seq <| .sr <| .p I (.mv I) <| .p I (.fa I (G30_5 _)) <| .p I (.ld Y27 I) <| .p I (.len I U27 I) <| .p I (.ls I) <| .nil <| .keep [] [1, 6, 116] (.c2 I <| .c I .nil) I <| .condS I h (fun h => ?_) fun h => ?_
          · refine .skip <| .seq <| .block <| .sr <| .p I (.fa I (G30_5 _)) <| .p I (.ld Y27 I) <| .p I (.mv I) <| bK h fun x122_64 hx122_64 h => .p I (.ix I U27 S84 hx122_64) <| .p I (.fa I (G84_2 _)) <| .p I (.ld Y82 I) <| .allocStore I I I I I I I I (by simp) I I Z82 <| .nil <| .seq <| .seq <| .plain 26 I <| .p I (.fa I (G30_5 _)) <| .p I (.ld Y27 I) <| .p I (.mv I) <| bK h fun x128_65 hx128_65 h => .p I (.ix I U27 S84 hx128_65) <| .p I (.fa I (G84_1 _)) <| .p I (.ld Y22 I) <| .p I (.len I U22 I) <| .p I (.gt I) <| .p I (.mv I) <| .jOr 4 (b2 := decide (20 < (x122_64.effect.delta.length : Int))) I I I I (.inl I) (fun _ _ _ h1 => by cases h1) I I (fun hb_66 => ?_) ?_
            · refine .q I (.fa I (G82_0 _)) <| .q I (.ld Y79 I) <| .q I (.len I U79 I) <| .q I (.gt I) ?_
              exact .nil I
            refine .p I (.mv I) <| .jOr 4 (b2 := decide (10 < (x122_64.effect.hold.length : Int))) I I I I (.inl I) (fun _ _ _ h1 => by cases h1) I I (fun hb_67 => ?_) ?_
            · refine .q I (.fa I (G82_1 _)) <| .q I (.ld Y49 I) <| .q I (.len I U49 I) <| .q I (.gt I) ?_
              exact .nil I
            refine .p I (.mv I) <| .jOr 4 (b2 := decide (40 < (x122_64.effect.updates.length : Int))) I I I I (.inl I) (fun _ _ _ h1 => by cases h1) I I (fun hb_68 => ?_) ?_
            · refine .q I (.fa I (G82_2 _)) <| .q I (.ld Y80 I) <| .q I (.len I U80 I) <| .q I (.gt I) ?_
              exact .nil I
            refine .nil <| .nil <| .keep [] [1, 6, 7, 150] (.c4 I .nil) I <| .condS I h (fun h => ?_) fun h => ?_
            · refine .sr <| .p I (.asg I) <| .nil <| .ret ?_
              cases h
              exact retOne I (.d _)
            · refine .skip <| .sr <| .p I (.asg I) <| .nil <| .block <| .loopS [1, 6, 7] (fun (v : Int) => [(8, .d (.int v))]) (fun (v : Int) => []) (.c2 I <| .c I .nil) h ⟨_, Fz4 I <| Fz2 I <| Fz1 I trivial⟩ (fun rec_74 x8_73 h => ?_)
              refine .seq <| .sr <| .p I (.mv I) <| .p I (.fa I (G82_1 _)) <| .p I (.ld Y49 I) <| .p I (.len I U49 I) <| .p I (.ls I) <| .nil <| .keep [] [1, 6, 7, 8, 155] (.c4 I <| .c I .nil) I <| .condS I h (fun h => ?_) fun h => ?_
              · refine .skip <| .seq <| .block <| .sr <| .p I (.fa I (G82_1 _)) <| .p I (.ld Y49 I) <| .p I (.mv I) <| bK h fun x161_75 hx161_75 h => .p I (.ix I U49 S33 hx161_75) <| .p I (.fa I (G33_0 _)) <| .p I (.ld Y31 I) <| .p I (.len I U31 I) <| .p I (.gt I) <| .nil <| .condS I h (fun h => ?_) fun h => ?_
                · refine .sr <| .p I (.asg I) <| .nil <| .ret ?_
                  cases h
                  exact retOne I (.d _)
                · refine .skip <| .region <| .p I (.mv I) <| .p I (.ad I) <| .p I (.asg I) <| .nil ?_
                  exact ⟨_, h, ⟨_, Fz4 I <| Fz2 I <| Fz1 I trivial⟩⟩
              · refine .exit <| .region <| .p I (.mv I) <| .p I (.ad I) <| .p I (.asg I) <| .nil ?_
                exact ⟨_, h, ⟨_, Fz4 I <| Fz1 I trivial⟩⟩
          · refine .exit <| .sr <| .p I (.asg I) <| .nil <| .ret ?_
            cases h
            exact retOne I (.d _)
theorem ref09_sound_ok (n : Nat) (t0 : List Int) (r : Bool) (h : ref09_sound n t0 = some r) : Pure Tryz.prog 161 [.sl 1 (List.map D.int t0)] (.bool r) := by
  refine Pure.ot Tryz.func161 I Tryz.ntmps161 I fun A w => .sr <| .p I (.asg I) <| .nil <| .seq <| .sr <| .p I (.asg I) <| .nil <| .block <| .loopS [0] (fun (v : Int) => [(3, .d (.int v))]) (fun (v : Int) => []) (.c I .nil) h ⟨_, Fz4 I <| Fz1 I trivial⟩ (fun rec_10 x3_9 h => ?_)
  refine .seq <| .sr <| .p I (.mv I) <| .p I (.mv I) <| .p I (.len I U22 I) <| .p I (.ls I) <| .nil <| .keep [] [0, 3, 7] (.c2 I <| .c I .nil) I <| .condS I h (fun h => ?_) fun h => ?_
  · refine .skip <| .seq <| .block <| .seq <| .plain 12 I <| .p I (.mv I) <| .p I (.mv I) <| bK h fun x12_11 hx12_11 h => .p I (.ix I U22 S3 hx12_11) <| .p I (.ld Y3 I) <| .p I (.ls I) <| .p I (.mv I) <| gK h fun hc_13 h => .jOr 5 (b2 := decide (6 < ((idx t0 x3_9).getD default))) I I I I (.inl I) (fun _ _ _ h1 => by cases h1) I I (fun hb_12 => ?_) ?_
    · refine .q I (.mv I) <| .q I (.mv I) <| .q I (.ix I U22 S3 (someD (impF hc_13 hb_12))) <| .q I (.ld Y3 I) <| .q I (.gt I) ?_
      exact .nil I
    refine .nil <| .nil <| .condS I h (fun h => ?_) fun h => ?_
    · refine .sr <| .p I (.asg I) <| .nil <| .ret ?_
      cases h
      exact retOne I (.d _)
    · refine .skip <| .region <| .p I (.mv I) <| .p I (.ad I) <| .p I (.asg I) <| .nil ?_
      exact ⟨_, h, ⟨_, Fz4 I <| Fz1 I trivial⟩⟩
  · refine .exit <| .sr <| .p I (.asg I) <| .nil <| .ret ?_
    cases h
    exact retOne I (.d _)
set_option maxHeartbeats 2000000 in
theorem ref09_number_ok (n : Nat) (t0 : List Int) (t1 : List Int) (r : Int) (h : ref09_number n t0 t1 = some r) : Pure Tryz.prog 140 [.sl 1 (List.map D.int t0), .sl 1 (List.map D.int t1)] (.int r) := by
  refine Pure.ot Tryz.func140 I Tryz.ntmps140 I fun A w => .sr <| .p I (.asg I) <| .nil <| .seq <| .seq <| .plain 8 I <| .p I (.mv I) <| .p I (.len I U22 I) <| .p I (.gt I) <| .p I (.mv I) <| gK h fun hc_2 h => .jOr 3 (b2 := !((ref09_sound n t0).getD default)) I I I I (.inl I) (fun _ _ _ h1 => by cases h1) I I (fun hb_1 => ?_) ?_
  · refine .q I (.mv I) <| .q I (.call I K161 I (ref09_sound_ok _ _ _ (someD (impF hc_2 hb_1)))) <| .q I (.nt I) ?_
    exact .nil I
  refine .nil <| .nil <| .condS I h (fun h => ?_) fun h => ?_
  · refine .sr <| .p I (.asg I) <| .nil <| .ret ?_
    cases h
    exact retOne I (.d _)
  · refine .skip <| .sr <| .p I (.asg I) <| .nil <| .seq <| .sr <| .p I (.asg I) <| .nil <| .block <| .loopS [0, 1] (fun (v : Int × Int) => [(5, .d (.int v.1)), (6, .d (.int v.2))]) (fun (v : Int × Int) => []) (.c2 I .nil) h ⟨_, Fz4 I <| Fz2 I <| Fz1 I trivial⟩ (fun rec_19 v h => ?_)
    obtain ⟨x5_17, x6_18⟩ := v
    refine .seq <| .sr <| .p I (.mv I) <| .p I (.mv I) <| .p I (.len I U22 I) <| .p I (.ls I) <| .nil <| .keep [] [0, 1, 5, 6, 18] (.c4 I <| .c I .nil) I <| .condS I h (fun h => ?_) fun h => ?_
    · refine .skip <| .seq <| .block <| .seq <| .seq <| .plain 14 I <| .p I (.mv I) <| .p I (.mv I) <| bK h fun x23_20 hx23_20 h => .p I (.ix I U22 S3 hx23_20) <| .p I (.ld Y3 I) <| .p I (.ls I) <| .p I (.mv I) <| gK h fun hc_22 h => .jOr 7 (b2 := decide ((t0.length : Int) ≤ ((idx t1 x6_18).getD default))) I I I I (.inl I) (fun _ _ _ h1 => by cases h1) I I (fun hb_21 => ?_) ?_
      · refine .q I (.mv I) <| .q I (.mv I) <| .q I (.ix I U22 S3 (someD (impF hc_22 hb_21))) <| .q I (.ld Y3 I) <| .q I (.mv I) <| .q I (.len I U22 I) <| .q I (.ge I) ?_
        exact .nil I
      refine .nil <| .nil <| .condS I h (fun h => ?_) fun h => ?_
      · refine .sr <| .p I (.asg I) <| .nil <| .ret ?_
        cases h
        exact retOne I (.d _)
      · refine .skip <| .region <| .p I (.mv I) <| .p I (.mv I) <| .p I (.mv I) <| .p I (.mv I) <| bK h fun x39_23 hx39_23 h => .p I (.ix I U22 S3 hx39_23) <| .p I (.ld Y3 I) <| bK h fun x41_24 hx41_24 h => .p I (.ix I U22 S3 hx41_24) <| .p I (.ld Y3 I) <| .p I (.ml I) <| .p I (.asg I) <| .nil <| .keep [] [0, 1, 5, 6] (.c4 I .nil) I <| .region <| .p I (.mv I) <| .p I (.ad I) <| .p I (.asg I) <| .nil ?_
        exact ⟨_, h, ⟨_, Fz4 I <| Fz2 I <| Fz1 I trivial⟩⟩
    · refine .exit <| .sr <| .p I (.mv I) <| .p I (.asg I) <| .nil <| .ret ?_
      cases h
      exact retOne I (.d _)
theorem ref02_white_ok (n : Nat) (t0 : Int) (r : Bool) (h : ref02_white n t0 = some r) : Pure Tryz.prog 259 [.val (.int .u8 t0)] (.bool r) := by
  refine Pure.ot Tryz.func259 I Tryz.ntmps259 I fun A w => .sr <| .p I (.asg I) <| .nil <| .seq <| .plain 14 I <| .p I (.mv I) <| .p I (.eq I) <| .p I (.mv I) <| .jOr 2 (b2 := t0 == 10) I I I I (.inl I) (fun _ _ _ h1 => by cases h1) I I (fun hb_1 => ?_) ?_
  · refine .q I (.mv I) <| .q I (.eq I) ?_
    exact .nil I
  refine .p I (.mv I) <| .jOr 2 (b2 := t0 == 13) I I I I (.inl I) (fun _ _ _ h1 => by cases h1) I I (fun hb_2 => ?_) ?_
  · refine .q I (.mv I) <| .q I (.eq I) ?_
    exact .nil I
  refine .p I (.mv I) <| .jOr 2 (b2 := t0 == 32) I I I I (.inl I) (fun _ _ _ h1 => by cases h1) I I (fun hb_3 => ?_) ?_
  · refine .q I (.mv I) <| .q I (.eq I) ?_
    exact .nil I
  refine .nil <| .p I (.asg I) <| .nil <| .keep [] [2] (.c I .nil) I <| .ret ?_
  cases h
  exact retOne I (.d _)
set_option maxHeartbeats 2000000 in
theorem ref02_skip_ok (n : Nat) (t0 : List UInt8) (t1 : Int) (r : Int) (h : ref02_skip n t0 t1 = some r) : Pure Tryz.prog 248 [.str t0, .int t1] (.int r) := by
  refine Pure.ot Tryz.func248 I Tryz.ntmps248 I fun A w => .sr <| .p I (.asg I) <| .nil <| .seq <| .block <| .loopS [0] (fun (v : Int) => [(1, .d (.int v))]) (fun (v : Int) => []) (.c I .nil) h ⟨_, Fz4 I <| Fz1 I trivial⟩ (fun rec_36 x1_35 h => ?_)
  refine .seq <| .seq <| .plain 16 I <| .p I (.mv I) <| .p I (.mv I) <| .p I (.len_str I U9 I) <| .p I (.ls I) <| .p I (.mv I) <| gK h fun hc_38 h => gK h fun hc_39 h => gK h fun hc_41 h => .jAnd 10 (b2 := ((ref02_white n ((sidx t0 x1_35).getD default)).getD default) || (((sidx t0 x1_35).getD default) == 35)) I I I I (.inl I) (fun _ _ _ h1 => by cases h1) I I (fun hb_37 => ?_) ?_
  · refine .q I (.mv I) <| .q I (.mv I) <| .q I (.sidx I I I U9 (someD (impT hc_38 hb_37))) <| .q I (.call I K259 I (ref02_white_ok _ _ _ (someD (impT hc_39 hb_37)))) <| .q I (.mv I) <| .jOr 4 (b2 := ((sidx t0 x1_35).getD default) == 35) I I I I (.inr ⟨_, _, _, I, I, I⟩) (fun _ _ _ h1 h2 => by cases h1; cases h2; decide) I I (fun hb_40 => ?_) ?_
    · refine .q I (.mv I) <| .q I (.mv I) <| .q I (.sidx I I I U9 (someD (impF (impT hc_41 hb_37) hb_40))) <| .q I (.eq I) ?_
      exact .nil I
    exact .nil I
  refine .nil <| .nil <| .keep [] [0, 1, 20] (.c2 I <| .c I .nil) I <| .condS I h (fun h => ?_) fun h => ?_
  · refine .skip <| .block <| .sr <| .p I (.mv I) <| .p I (.mv I) <| bK h fun x23_42 hx23_42 h => .p I (.sidx I I I U9 hx23_42) <| .p I (.eq I) <| .nil <| .condS I h (fun h => ?_) fun h => ?_
    · refine .block <| .loopS [0] (fun (v : Int) => [(1, .d (.int v))]) (fun (v : Int) => []) (.c I .nil) h ⟨_, Fz4 I <| Fz1 I trivial⟩ (fun rec_50 x1_49 h => ?_)
      refine .seq <| .seq <| .plain 10 I <| .p I (.mv I) <| .p I (.mv I) <| .p I (.len_str I U9 I) <| .p I (.ls I) <| .p I (.mv I) <| gK h fun hc_52 h => .jAnd 4 (b2 := ((sidx t0 x1_49).getD default) != 10) I I I I (.inl I) (fun _ _ _ h1 => by cases h1) I I (fun hb_51 => ?_) ?_
      · refine .q I (.mv I) <| .q I (.mv I) <| .q I (.sidx I I I U9 (someD (impT hc_52 hb_51))) <| .q I (.ne I) ?_
        exact .nil I
      refine .nil <| .nil <| .keep [] [0, 1, 34] (.c2 I <| .c I .nil) I <| .condS I h (fun h => ?_) fun h => ?_
      · refine .skip <| .block <| .region <| .p I (.mv I) <| .p I (.ad I) <| .p I (.asg I) <| .nil ?_
        exact ⟨_, h, ⟨_, Fz4 I <| Fz1 I trivial⟩⟩
      · refine .exit ?_
        exact ⟨_, h, ⟨_, Fz4 I <| Fz1 I trivial⟩⟩
    · refine .region <| .p I (.mv I) <| .p I (.ad I) <| .p I (.asg I) <| .nil ?_
      exact ⟨_, h, ⟨_, Fz4 I <| Fz1 I trivial⟩⟩
  · refine .exit <| .sr <| .p I (.mv I) <| .p I (.asg I) <| .nil <| .ret ?_
    cases h
    exact retOne I (.d _)
theorem ref02_letter_ok (n : Nat) (t0 : Int) (r : Bool) (h : ref02_letter n t0 = some r) : Pure Tryz.prog 260 [.val (.int .u8 t0)] (.bool r) := by
  refine Pure.ot Tryz.func260 I Tryz.ntmps260 I fun A w => .sr <| .p I (.asg I) <| .nil <| .seq <| .plain 6 I <| .p I (.mv I) <| .p I (.ge I) <| .p I (.mv I) <| .jAnd 2 (b2 := decide (t0 ≤ 122)) I I I I (.inl I) (fun _ _ _ h1 => by cases h1) I I (fun hb_1 => ?_) ?_
  · refine .q I (.mv I) <| .q I (.le I) ?_
    exact .nil I
  refine .nil <| .p I (.asg I) <| .nil <| .ret ?_
  cases h
  exact retOne I (.d _)
theorem ref02_digit_ok (n : Nat) (t0 : Int) (r : Bool) (h : ref02_digit n t0 = some r) : Pure Tryz.prog 261 [.val (.int .u8 t0)] (.bool r) := by
  refine Pure.ot Tryz.func261 I Tryz.ntmps261 I fun A w => .sr <| .p I (.asg I) <| .nil <| .seq <| .plain 6 I <| .p I (.mv I) <| .p I (.ge I) <| .p I (.mv I) <| .jAnd 2 (b2 := decide (t0 ≤ 57)) I I I I (.inl I) (fun _ _ _ h1 => by cases h1) I I (fun hb_1 => ?_) ?_
  · refine .q I (.mv I) <| .q I (.le I) ?_
    exact .nil I
  refine .nil <| .p I (.asg I) <| .nil <| .ret ?_
  cases h
  exact retOne I (.d _)
theorem ref02_Keywords_ok (n : Nat) (r : List (List UInt8)) (h : ref02_Keywords n = some r) : Pure Tryz.prog 262 [] (.sl 1 (List.map D.str r)) := by
  refine Pure.ot Tryz.func262 I Tryz.ntmps262 I fun A w => .sr <| .p I (.nilS 1 (α := List UInt8) D.str I) <| .nil <| .sr <| .p I (.buildSl [_, _, _, _, _, _, _, _, _, _, _, _, _, _, _, _, _, _, _, _, _, _, _, _, _, _, _, _, _, _, _, _, _, _, _] I I E24 I (fun _ => I) I (enc := D.str)) <| .p I (.asg I) <| .nil <| .ret ?_
  cases h
  exact retOne I (.d _)
theorem ref02_Has_ok (n : Nat) (t0 : List (List UInt8)) (t1 : List UInt8) (r : Bool) (h : ref02_Has n t0 t1 = some r) : Pure Tryz.prog 163 [.sl 1 (List.map D.str t0), .str t1] (.bool r) := by
  refine Pure.ot Tryz.func163 I Tryz.ntmps163 I fun A w => .sr <| .p I (.asg I) <| .nil <| .seq <| .sr <| .p I (.asg I) <| .nil <| .block <| .loopS [0, 1] (fun (v : Int) => [(5, .d (.int v))]) (fun (v : Int) => []) (.c2 I .nil) h ⟨_, Fz4 I <| Fz2 I trivial⟩ (fun rec_6 x5_5 h => ?_)
  refine .seq <| .sr <| .p I (.mv I) <| .p I (.mv I) <| .p I (.len I U24 I) <| .p I (.ls I) <| .nil <| .keep [] [0, 1, 5, 9] (.c4 I .nil) I <| .condS I h (fun h => ?_) fun h => ?_
  · refine .skip <| .seq <| .block <| .sr <| .p I (.mv I) <| .p I (.mv I) <| bK h fun x14_7 hx14_7 h => .p I (.ix I U24 S9 hx14_7) <| .p I (.ld Y9 I) <| .p I (.mv I) <| .p I (.str_eql I I I) <| .nil <| .condS I h (fun h => ?_) fun h => ?_
    · refine .sr <| .p I (.asg I) <| .nil <| .ret ?_
      cases h
      exact retOne I (.d _)
    · refine .skip <| .region <| .p I (.mv I) <| .p I (.ad I) <| .p I (.asg I) <| .nil ?_
      exact ⟨_, h, ⟨_, Fz4 I <| Fz2 I trivial⟩⟩
  · refine .exit <| .sr <| .p I (.asg I) <| .nil <| .ret ?_
    cases h
    exact retOne I (.d _)
theorem ref02_Symbols_ok (n : Nat) (r : List (List UInt8)) (h : ref02_Symbols n = some r) : Pure Tryz.prog 269 [] (.sl 1 (List.map D.str r)) := by
  refine Pure.ot Tryz.func269 I Tryz.ntmps269 I fun A w => .sr <| .p I (.nilS 1 (α := List UInt8) D.str I) <| .nil <| .sr <| .p I (.buildSl [_, _, _, _, _, _, _, _, _, _, _, _, _, _, _, _, _, _] I I E24 I (fun _ => I) I (enc := D.str)) <| .p I (.asg I) <| .nil <| .ret ?_
  cases h
  exact retOne I (.d _)
set_option maxHeartbeats 2000000 in
theorem ref02_symbol_ok (n : Nat) (t0 : List UInt8) (t1 : Int) (r : Int) (h : ref02_symbol n t0 t1 = some r) : Pure Tryz.prog 263 [.str t0, .int t1] (.int r) := by
  refine Pure.ot Tryz.func263 I Tryz.ntmps263 I fun A w => .sr <| .p I (.asg I) <| .nil <| .sr <| bK h fun x8_1 hx8_1 h => .p I (.call I K269 I (ref02_Symbols_ok _  _ hx8_1)) <| .p I (.asg I) <| .nil <| .seq <| .sr <| .p I (.asg I) <| .nil <| .block <| .loopS [0, 1, 5] (fun (v : Int) => [(6, .d (.int v))]) (fun (v : Int) => []) (.c2 I <| .c I .nil) h ⟨_, Fz4 I <| Fz2 I <| Fz1 I trivial⟩ (fun rec_13 x6_12 h => ?_)
  refine .seq <| .sr <| .p I (.mv I) <| .p I (.mv I) <| .p I (.len I U24 I) <| .p I (.ls I) <| .nil <| .keep [] [0, 1, 5, 6, 12] (.c4 I <| .c I .nil) I <| .condS I h (fun h => ?_) fun h => ?_
  · refine .skip <| .seq <| .block <| .sr <| .p I (.mv I) <| .p I (.mv I) <| bK h fun x17_14 hx17_14 h => .p I (.ix I U24 S9 hx17_14) <| .p I (.ld Y9 I) <| .p I (.len_str I U9 I) <| .p I (.asg I) <| .nil <| .seq <| .draw 19 Hm (by kernel_rfl) (by kernel_rfl) <| .p I (.mv I) <| .p I (.mv I) <| .p I (.ad I) <| .p I (.mv I) <| .p I (.len_str I U9 I) <| .p I (.le I) <| .p I (.mv I) <| gK h fun hc_16 h => gK h fun hc_17 h => .jAnd 11 (b2 := decide (((cut t0 t1 (add64 t1 (x17_14.length : Int))).getD default) = ((idx x8_1 x6_12).getD default))) I I I I (.inl I) (fun _ _ _ h1 => by cases h1) I I (fun hb_15 => ?_) ?_
    · refine .q I (.mv I) <| .q I (.mv I) <| .q I (.mv I) <| .q I (.mv I) <| .q I (.ad I) <| .q I (.cutStrLH I I I I U9 (someD (impT hc_16 hb_15))) <| .q I (.mv I) <| .q I (.mv I) <| .q I (.ix I U24 S9 (someD (impT hc_17 hb_15))) <| .q I (.ld Y9 I) <| .q I (.str_eql I I I) ?_
      exact .nil I
    refine .nil <| .nil <| .keep [] [0, 1, 5, 6, 7, 38] (.c4 I <| .c2 I .nil) I <| .condS I h (fun h => ?_) fun h => ?_
    · refine .sr <| .p I (.mv I) <| .p I (.asg I) <| .nil <| .ret ?_
      cases h
      exact retOne I (.d _)
    · refine .skip <| .region <| .p I (.mv I) <| .p I (.ad I) <| .p I (.asg I) <| .nil ?_
      exact ⟨_, h, ⟨_, Fz4 I <| Fz2 I <| Fz1 I trivial⟩⟩
  · refine .exit <| .sr <| .p I (.asg I) <| .nil <| .ret ?_
    cases h
    exact retOne I (.d _)
set_option maxHeartbeats 2000000 in
theorem ref02_token_ok (n : Nat) (t0 : List UInt8) (t1 : Int) (r : Int × Int) (h : ref02_token n t0 t1 = some r) : Pure Tryz.prog 249 [.str t0, .int t1] (.tup [.int r.1, .int r.2]) := by
  refine Pure.ot Tryz.func249 I Tryz.ntmps249 I fun A w => .sr <| .p I (.asg I) <| .p I (.asg I) <| .nil <| .sr <| .p I (.mv I) <| .p I (.asg I) <| .nil <| .seq <| .sr <| .p I (.mv I) <| .p I (.mv I) <| bK h fun x11_1 hx11_1 h => .p I (.sidx I I I U9 hx11_1) <| bK h fun x12_2 hx12_2 h => .p I (.call I K260 I (ref02_letter_ok _ _ _ hx12_2)) <| .nil <| .condS I h (fun h => ?_) fun h => ?_
  · refine .seq <| .block <| .loopS [0, 1] (fun (v : Int) => [(6, .d (.int v))]) (fun (v : Int) => []) (.c2 I .nil) h ⟨_, Fz4 I <| Fz2 I trivial⟩ (fun rec_22 x6_21 h => ?_)
    refine .seq <| .seq <| .plain 22 I <| .p I (.mv I) <| .p I (.mv I) <| .p I (.len_str I U9 I) <| .p I (.ls I) <| .p I (.mv I) <| gK h fun hc_24 h => gK h fun hc_25 h => gK h fun hc_27 h => gK h fun hc_28 h => gK h fun hc_30 h => .jAnd 16 (b2 := (((ref02_letter n ((sidx t0 x6_21).getD default)).getD default) || ((ref02_digit n ((sidx t0 x6_21).getD default)).getD default)) || (((sidx t0 x6_21).getD default) == 95)) I I I I (.inl I) (fun _ _ _ h1 => by cases h1) I I (fun hb_23 => ?_) ?_
    · refine .q I (.mv I) <| .q I (.mv I) <| .q I (.sidx I I I U9 (someD (impT hc_24 hb_23))) <| .q I (.call I K260 I (ref02_letter_ok _ _ _ (someD (impT hc_25 hb_23)))) <| .q I (.mv I) <| .jOr 4 (b2 := ((ref02_digit n ((sidx t0 x6_21).getD default)).getD default)) I I I I (.inr ⟨_, _, _, I, I, I⟩) (fun _ _ _ h1 h2 => by cases h1; cases h2; decide) I I (fun hb_26 => ?_) ?_
      · refine .q I (.mv I) <| .q I (.mv I) <| .q I (.sidx I I I U9 (someD (impF (impT hc_27 hb_23) hb_26))) <| .q I (.call I K261 I (ref02_digit_ok _ _ _ (someD (impF (impT hc_28 hb_23) hb_26)))) ?_
        exact .nil I
      refine .q I (.mv I) <| .jOr 4 (b2 := ((sidx t0 x6_21).getD default) == 95) I I I I (.inr ⟨_, _, _, I, I, I⟩) (fun _ _ _ h1 h2 => by cases h1; cases h2; decide) I I (fun hb_29 => ?_) ?_
      · refine .q I (.mv I) <| .q I (.mv I) <| .q I (.sidx I I I U9 (someD (impF (impT hc_30 hb_23) hb_29))) <| .q I (.eq I) ?_
        exact .nil I
      exact .nil I
    refine .nil <| .nil <| .keep [] [0, 1, 6, 34] (.c4 I .nil) I <| .condS I h (fun h => ?_) fun h => ?_
    · refine .skip <| .block <| .region <| .p I (.mv I) <| .p I (.ad I) <| .p I (.asg I) <| .nil ?_
      exact ⟨_, h, ⟨_, Fz4 I <| Fz2 I trivial⟩⟩
    · refine .exit <| .seq <| .seq <| .draw 6 Hm (by kernel_rfl) (by kernel_rfl) <| bK h fun x37_31 hx37_31 h => .p I (.call I K262 I (ref02_Keywords_ok _  _ hx37_31)) <| .p I (.mv I) <| .p I (.mv I) <| .p I (.mv I) <| bK h fun x41_32 hx41_32 h => .p I (.cutStrLH I I I I U9 hx41_32) <| bK h fun x42_33 hx42_33 h => .p I (.call I K163 I (ref02_Has_ok _ _ _ _ hx42_33)) <| .nil <| .nil <| .condS I h (fun h => ?_) fun h => ?_
      · refine .sr <| .p I (.mv I) <| .p I (.asg I) <| .p I (.asg I) <| .nil <| .ret ?_
        cases h
        exact retTwo I I (.d _) (.d _)
      · refine .skip <| .sr <| .p I (.mv I) <| .p I (.asg I) <| .p I (.asg I) <| .nil <| .ret ?_
        cases h
        exact retTwo I I (.d _) (.d _)
  · refine .skip <| .seq <| .sr <| .p I (.mv I) <| .p I (.mv I) <| bK h fun x47_34 hx47_34 h => .p I (.sidx I I I U9 hx47_34) <| bK h fun x48_35 hx48_35 h => .p I (.call I K261 I (ref02_digit_ok _ _ _ hx48_35)) <| .nil <| .condS I h (fun h => ?_) fun h => ?_
    · refine .seq <| .block <| .loopS [0] (fun (v : Int) => [(6, .d (.int v))]) (fun (v : Int) => []) (.c I .nil) h ⟨_, Fz4 I <| Fz1 I trivial⟩ (fun rec_45 x6_44 h => ?_)
      refine .seq <| .seq <| .plain 10 I <| .p I (.mv I) <| .p I (.mv I) <| .p I (.len_str I U9 I) <| .p I (.ls I) <| .p I (.mv I) <| gK h fun hc_47 h => gK h fun hc_48 h => .jAnd 4 (b2 := ((ref02_digit n ((sidx t0 x6_44).getD default)).getD default)) I I I I (.inl I) (fun _ _ _ h1 => by cases h1) I I (fun hb_46 => ?_) ?_
      · refine .q I (.mv I) <| .q I (.mv I) <| .q I (.sidx I I I U9 (someD (impT hc_47 hb_46))) <| .q I (.call I K261 I (ref02_digit_ok _ _ _ (someD (impT hc_48 hb_46)))) ?_
        exact .nil I
      refine .nil <| .nil <| .keep [] [0, 6, 58] (.c2 I <| .c I .nil) I <| .condS I h (fun h => ?_) fun h => ?_
      · refine .skip <| .block <| .region <| .p I (.mv I) <| .p I (.ad I) <| .p I (.asg I) <| .nil ?_
        exact ⟨_, h, ⟨_, Fz4 I <| Fz1 I trivial⟩⟩
      · refine .exit <| .sr <| .p I (.mv I) <| .p I (.asg I) <| .p I (.asg I) <| .nil <| .ret ?_
        cases h
        exact retTwo I I (.d _) (.d _)
    · refine .skip <| .seq <| .sr <| .p I (.mv I) <| .p I (.mv I) <| bK h fun x64_49 hx64_49 h => .p I (.call I K263 I (ref02_symbol_ok _ _ _ _ hx64_49)) <| .p I (.asg I) <| .nil <| .keep [] [0, 1, 6, 7] (.c4 I .nil) I <| .sr <| .p I (.mv I) <| .p I (.gt I) <| .nil <| .condS I h (fun h => ?_) fun h => ?_
      · refine .sr <| .p I (.mv I) <| .p I (.mv I) <| .p I (.ad I) <| .p I (.asg I) <| .p I (.asg I) <| .nil <| .ret ?_
        cases h
        exact retTwo I I (.d _) (.d _)
      · refine .skip <| .seq <| .block <| .loopS [0] (fun (v : Int) => [(6, .d (.int v))]) (fun (v : Int) => []) (.c I .nil) h ⟨_, Fz4 I <| Fz1 I trivial⟩ (fun rec_79 x6_78 h => ?_)
        refine .seq <| .seq <| .plain 37 I <| .p I (.mv I) <| .p I (.mv I) <| .p I (.len_str I U9 I) <| .p I (.ls I) <| .p I (.mv I) <| gK h fun hc_81 h => gK h fun hc_82 h => .jAnd 5 (b2 := !((ref02_white n ((sidx t0 x6_78).getD default)).getD default)) I I I I (.inl I) (fun _ _ _ h1 => by cases h1) I I (fun hb_80 => ?_) ?_
        · refine .q I (.mv I) <| .q I (.mv I) <| .q I (.sidx I I I U9 (someD (impT hc_81 hb_80))) <| .q I (.call I K259 I (ref02_white_ok _ _ _ (someD (impT hc_82 hb_80)))) <| .q I (.nt I) ?_
          exact .nil I
        refine .p I (.mv I) <| gK h fun hc_84 h => .jAnd 4 (b2 := ((sidx t0 x6_78).getD default) != 35) I I I I (.inl I) (fun _ _ _ h1 => by cases h1) I I (fun hb_83 => ?_) ?_
        · refine .q I (.mv I) <| .q I (.mv I) <| .q I (.sidx I I I U9 (someD (impT hc_84 hb_83))) <| .q I (.ne I) ?_
          exact .nil I
        refine .p I (.mv I) <| gK h fun hc_86 h => gK h fun hc_87 h => .jAnd 5 (b2 := !((ref02_letter n ((sidx t0 x6_78).getD default)).getD default)) I I I I (.inl I) (fun _ _ _ h1 => by cases h1) I I (fun hb_85 => ?_) ?_
        · refine .q I (.mv I) <| .q I (.mv I) <| .q I (.sidx I I I U9 (someD (impT hc_86 hb_85))) <| .q I (.call I K260 I (ref02_letter_ok _ _ _ (someD (impT hc_87 hb_85)))) <| .q I (.nt I) ?_
          exact .nil I
        refine .p I (.mv I) <| gK h fun hc_89 h => gK h fun hc_90 h => .jAnd 5 (b2 := !((ref02_digit n ((sidx t0 x6_78).getD default)).getD default)) I I I I (.inl I) (fun _ _ _ h1 => by cases h1) I I (fun hb_88 => ?_) ?_
        · refine .q I (.mv I) <| .q I (.mv I) <| .q I (.sidx I I I U9 (someD (impT hc_89 hb_88))) <| .q I (.call I K261 I (ref02_digit_ok _ _ _ (someD (impT hc_90 hb_88)))) <| .q I (.nt I) ?_
          exact .nil I
        refine .p I (.mv I) <| gK h fun hc_92 h => .jAnd 4 (b2 := ((ref02_symbol n t0 x6_78).getD default) == 0) I I I I (.inl I) (fun _ _ _ h1 => by cases h1) I I (fun hb_91 => ?_) ?_
        · refine .q I (.mv I) <| .q I (.mv I) <| .q I (.call I K263 I (ref02_symbol_ok _ _ _ _ (someD (impT hc_92 hb_91)))) <| .q I (.eq I) ?_
          exact .nil I
        refine .nil <| .nil <| .keep [] [0, 6, 106] (.c2 I <| .c I .nil) I <| .condS I h (fun h => ?_) fun h => ?_
        · refine .skip <| .block <| .region <| .p I (.mv I) <| .p I (.ad I) <| .p I (.asg I) <| .nil ?_
          exact ⟨_, h, ⟨_, Fz4 I <| Fz1 I trivial⟩⟩
        · refine .exit <| .sr <| .p I (.mv I) <| .p I (.asg I) <| .p I (.asg I) <| .nil <| .ret ?_
          cases h
          exact retTwo I I (.d _) (.d _)
set_option maxHeartbeats 2000000 in
theorem ref02_Scan_ok (n : Nat) (t0 : List UInt8) (r : (List Token) × Int) (h : ref02_Scan n t0 = some r) : Pure Tryz.prog 224 [.str t0] (.tup [.sl 4 (List.map Token.enc r.1), .int r.2]) := by
  refine Pure.ot Tryz.func224 I Tryz.ntmps224 I fun A w => .sr <| .p I (.nilS 4 (α := Token) Token.enc I) <| .p I (.asg I) <| .nil <| .seq <| .sr <| .p I (.mv I) <| .p I (.len_str I U9 I) <| .p I (.gt I) <| .nil <| .condS I h (fun h => ?_) fun h => ?_
  · refine .sr <| .p I (.nilS 4 (α := Token) Token.enc I) <| .p I (.asg I) <| .nil <| .ret ?_
    cases h
    exact retTwo I I (.d _) (.d _)
  · refine .skip <| .sr <| .buildVec [] I I I I I E242 I (fun _ => I) I (enc := Token.enc) <| .p I (.asg I) <| .nil <| .sr <| .p I (.asg I) <| .nil <| .seq <| .block <| .loopS [0] (fun (v : (List Token) × Int) => [(4, .vec 0 (List.length v.1)), (5, .d (.int v.2))]) (fun (v : (List Token) × Int) => [(0, .vec 234 4 (List.map Token.enc v.1))]) (.c I .nil) h ⟨_, Fz4 I <| Fz2 I trivial⟩ (fun rec_15 v h => ?_)
    obtain ⟨b0_13, x5_14⟩ := v
    refine .seq <| .sr <| .p I (.mv I) <| .p I (.mv I) <| bK h fun x15_16 hx15_16 h => .p I (.call I K248 I (ref02_skip_ok _ _ _ _ hx15_16)) <| .p I (.mv I) <| .p I (.len_str I U9 I) <| .p I (.ls I) <| .nil <| .keep [.vec 234 4 (List.map Token.enc b0_13)] [0, 4, 5, 18] (.c4 I .nil) I <| .condS I h (fun h => ?_) fun h => ?_
    · refine .skip <| .block <| .sr <| .p I (.mv I) <| .p I (.mv I) <| bK h fun x21_17 hx21_17 h => .p I (.call I K248 I (ref02_skip_ok _ _ _ _ hx21_17)) <| .p I (.asg I) <| .nil <| .sr <| .p I (.mv I) <| .p I (.mv I) <| bK h fun x25_18 hx25_18 h => .p I (.call I K249 I (ref02_token_ok _ _ _ _ hx25_18)) <| .p I (.mv I) <| .p I (.extract I I I) <| .p I (.extract I I I) <| .p I (.asg I) <| .p I (.asg I) <| .nil <| .sr <| .p I (.mv I) <| .p I (.mv I) <| .p I (.mv I) <| .p I (.mv I) <| .p I (.mv I) <| .p I (.castD (Token.enc (⟨x25_18.1, x5_14, x21_17, x25_18.2⟩ : Token)) I (.build I Pl234 (.agg Zc234 (ds' := [_, _, _, _]) (.cons (.refl _) (.cons (.refl _) (.cons (.refl _) (.cons (.refl _) (.nil)))))) I I)) <| .p I (.buildSl [_] I I E242 I (fun _ => I) I (enc := Token.enc)) <| bK h fun x35_19 hx35_19 h => .app I I I I I I I I E242 I (fun _ => I) hx35_19 <| .p I (.asg I) <| .nil <| .keep [.vec 234 4 (List.map Token.enc x35_19)] [0, 4, 8] (.c2 I <| .c I .nil) I <| .region <| .p I (.mv I) ?_
      refine .p I (.asg I) <| .nil ?_
      exact ⟨_, h, ⟨_, Fz4 I <| Fz2 I trivial⟩⟩
    · refine .exit <| .sr <| .p I (.mv I) <| .p I (.mv I) <| .p I (.mv I) <| .p I (.len_str I U9 I) <| .p I (.mv I) <| .p I (.len_str I U9 I) <| .p I (.castD (Token.enc (⟨0, x5_14, (t0.length : Int), (t0.length : Int)⟩ : Token)) I (.build I Pl234 (.agg Zc234 (ds' := [_, _, _, _]) (.cons (.refl _) (.cons (.refl _) (.cons (.refl _) (.cons (.refl _) (.nil)))))) I I)) <| .p I (.buildSl [_] I I E242 I (fun _ => I) I (enc := Token.enc)) <| bK h fun x45_20 hx45_20 h => .app I I I I I I I I E242 I (fun _ => I) hx45_20 <| .p I (.asg I) <| .p I (.asg I) <| .nil <| .ret ?_
      cases h
      exact retTwo I I (.vec I (by simp)) (.d _)
set_option maxHeartbeats 2000000 in
theorem ref02_Kind_ok (n : Nat) (t0 : List UInt8) (r : Int) (h : ref02_Kind n t0 = some r) : Pure Tryz.prog 204 [.str t0] (.int r) := by
  refine Pure.ot Tryz.func204 I Tryz.ntmps204 I fun A w => .sr <| .p I (.asg I) <| .nil <| .sr <| .p I (.mv I) <| bK h fun x7_1 hx7_1 h => .p I (.call I K224 I (ref02_Scan_ok _ _ _ hx7_1)) <| .p I (.mv I) <| .p I (.extract I I I) <| .p I (.extract I I I) <| .p I (.asg I) <| .p I (.asg I) <| .nil <| .seq <| .seq <| .plain 23 I <| .p I (.mv I) <| .p I (.ne I) <| .p I (.mv I) <| .jOr 3 (b2 := (x7_1.1.length : Int) != 2) I I I I (.inl I) (fun _ _ _ h1 => by cases h1) I I (fun hb_2 => ?_) ?_
  · refine .q I (.mv I) <| .q I (.len I U242 I) <| .q I (.ne I) ?_
    exact .nil I
  refine .p I (.mv I) <| gK h fun hc_4 h => .jOr 5 (b2 := (((idx x7_1.1 0).getD default).at_) != 0) I I I I (.inl I) (fun _ _ _ h1 => by cases h1) I I (fun hb_3 => ?_) ?_
  · refine .q I (.mv I) <| .q I (.ix I U242 S234 (someD (impF hc_4 hb_3))) <| .q I (.fa I (G234_2 _)) <| .q I (.ld Y3 I) <| .q I (.ne I) ?_
    exact .nil I
  refine .p I (.mv I) <| gK h fun hc_6 h => .jOr 7 (b2 := (((idx x7_1.1 0).getD default).end_) != (t0.length : Int)) I I I I (.inl I) (fun _ _ _ h1 => by cases h1) I I (fun hb_5 => ?_) ?_
  · refine .q I (.mv I) <| .q I (.ix I U242 S234 (someD (impF hc_6 hb_5))) <| .q I (.fa I (G234_3 _)) <| .q I (.ld Y3 I) <| .q I (.mv I) <| .q I (.len_str I U9 I) <| .q I (.ne I) ?_
    exact .nil I
  refine .nil <| .nil <| .keep [] [3, 32] (.c2 I .nil) I <| .condS I h (fun h => ?_) fun h => ?_
  · refine .sr <| .p I (.asg I) <| .nil <| .ret ?_
    cases h
    exact retOne I (.d _)
  · refine .skip <| .sr <| .p I (.mv I) <| bK h fun x34_7 hx34_7 h => .p I (.ix I U242 S234 hx34_7) <| .p I (.fa I (G234_0 _)) <| .p I (.ld Y3 I) <| .p I (.asg I) <| .nil <| .ret ?_
    cases h
    exact retOne I (.d _)
theorem ref02_Name_ok (n : Nat) (t0 : List UInt8) (r : Bool) (h : ref02_Name n t0 = some r) : Pure Tryz.prog 162 [.str t0] (.bool r) := by
  refine Pure.ot Tryz.func162 I Tryz.ntmps162 I fun A w => .sr <| .p I (.asg I) <| .nil <| .seq <| .plain 8 I <| .p I (.mv I) <| bK h fun x4_1 hx4_1 h => .p I (.call I K204 I (ref02_Kind_ok _ _ _ hx4_1)) <| .p I (.eq I) <| .p I (.mv I) <| .jAnd 3 (b2 := decide ((t0.length : Int) ≤ 16)) I I I I (.inl I) (fun _ _ _ h1 => by cases h1) I I (fun hb_2 => ?_) ?_
  · refine .q I (.mv I) <| .q I (.len_str I U9 I) <| .q I (.le I) ?_
    exact .nil I
  refine .nil <| .p I (.asg I) <| .nil <| .ret ?_
  cases h
  exact retOne I (.d _)
theorem ref09_strict_ok (n : Nat) (t0 : Int) (r : Bool) (h : ref09_strict n t0 = some r) : Pure Tryz.prog 139 [.int t0] (.bool r) := by
  refine Pure.ot Tryz.func139 I Tryz.ntmps139 I fun A w => .sr <| .p I (.asg I) <| .nil <| .seq <| .plain 6 I <| .p I (.mv I) <| .p I (.eq I) <| .p I (.mv I) <| .jOr 2 (b2 := t0 == 1) I I I I (.inl I) (fun _ _ _ h1 => by cases h1) I I (fun hb_1 => ?_) ?_
  · refine .q I (.mv I) <| .q I (.eq I) ?_
    exact .nil I
  refine .nil <| .p I (.asg I) <| .nil <| .ret ?_
  cases h
  exact retOne I (.d _)
set_option maxHeartbeats 2000000 in
theorem ref09_Valid_ok (n : Nat) (t0 : List Int) (t1 : List Table) (r : Bool) (h : ref09_Valid n t0 t1 = some r) : Pure Tryz.prog 101 [.sl 1 (List.map D.int t0), .sl 6 (List.map Table.enc t1)] (.bool r) := by
  refine Pure.ot Tryz.func101 I Tryz.ntmps101 I fun A w => .sr <| .p I (.asg I) <| .nil <| .seq <| .seq <| .plain 13 I <| .p I (.mv I) <| .p I (.len I U22 I) <| .p I (.gt I) <| .p I (.mv I) <| gK h fun hc_2 h => .jOr 3 (b2 := !((ref09_sound n t0).getD default)) I I I I (.inl I) (fun _ _ _ h1 => by cases h1) I I (fun hb_1 => ?_) ?_
  · refine .q I (.mv I) <| .q I (.call I K161 I (ref09_sound_ok _ _ _ (someD (impF hc_2 hb_1)))) <| .q I (.nt I) ?_
    exact .nil I
  refine .p I (.mv I) <| .jOr 3 (b2 := decide (12 < (t1.length : Int))) I I I I (.inl I) (fun _ _ _ h1 => by cases h1) I I (fun hb_3 => ?_) ?_
  · refine .q I (.mv I) <| .q I (.len I U23 I) <| .q I (.gt I) ?_
    exact .nil I
  refine .nil <| .nil <| .condS I h (fun h => ?_) fun h => ?_
  · refine .sr <| .p I (.asg I) <| .nil <| .ret ?_
    cases h
    exact retOne I (.d _)
  · refine .skip <| .sr <| .p I (.asg I) <| .p I (.asg I) <| .nil <| .keep [] [0, 1, 5, 6] (.c4 I .nil) I <| .seq <| .sr <| .p I (.asg I) <| .nil <| .block <| .loopS [0, 1] (fun (v : Int × Int × Int) => [(5, .d (.int v.1)), (6, .d (.int v.2.1)), (7, .d (.int v.2.2))]) (fun (v : Int × Int × Int) => []) (.c2 I .nil) h ⟨_, Fz8 I trivial⟩ (fun rec_59 v h => ?_)
    obtain ⟨x5_56, x6_57, x7_58⟩ := v
    refine .seq <| .sr <| .p I (.mv I) <| .p I (.mv I) <| .p I (.len I U23 I) <| .p I (.ls I) <| .nil <| .keep [] [0, 1, 5, 6, 7, 27] (.c4 I <| .c2 I .nil) I <| .condS I h (fun h => ?_) fun h => ?_
    · refine .skip <| .join [0, 1, 7] (fun (v : Int × Int) => [(5, .d (.int v.1)), (6, .d (.int v.2))]) (fun (v : Int × Int) => []) (.c2 I <| .c I .nil) h (fun k_62 h => ?_) (fun v h => ?_)
      · refine .block <| .sr <| .p I (.mv I) <| .p I (.mv I) <| bK h fun x32_63 hx32_63 h => .p I (.ix I U23 S127 hx32_63) <| .p I (.ld Y127 I) <| .allocStore I I I I I I I I (by simp) I I Z127 <| .nil <| .seq <| .sr <| .p I (.asg I) <| .nil <| .block <| .loopS [0, 1, 5, 6, 7, 8] (fun (v : Int) => [(9, .d (.int v))]) (fun (v : Int) => []) (.c4 I <| .c2 I .nil) h ⟨_, Fz8 I <| Fz2 I trivial⟩ (fun rec_69 x9_68 h => ?_)
        refine .seq <| .sr <| .p I (.mv I) <| .p I (.mv I) <| .p I (.ls I) <| .nil <| .keep [] [0, 1, 5, 6, 7, 8, 9, 36] (.c8 I .nil) I <| .condS I h (fun h => ?_) fun h => ?_
        · refine .skip <| .seq <| .block <| .seq <| .draw 8 Hm (by kernel_rfl) (by kernel_rfl) <| .p I (.mv I) <| .p I (.mv I) <| bK h fun x41_70 hx41_70 h => .p I (.ix I U23 S127 hx41_70) <| .p I (.fa I (G127_0 _)) <| .p I (.ld Y9 I) <| .p I (.fa I (G127_0 _)) <| .p I (.ld Y9 I) <| .p I (.str_eql I I I) <| .nil <| .nil <| .condS I h (fun h => ?_) fun h => ?_
          · refine .sr <| .p I (.asg I) <| .nil <| .ret ?_
            cases h
            exact retOne I (.d _)
          · refine .skip <| .region <| .p I (.mv I) <| .p I (.ad I) <| .p I (.asg I) <| .nil ?_
            exact ⟨_, h, ⟨_, Fz8 I <| Fz2 I trivial⟩⟩
        · refine .exit <| .sr <| .p I (.mv I) <| .p I (.fa I (G127_2 _)) <| .p I (.ld Y22 I) <| bK h fun x50_71 hx50_71 h => .p I (.call I K140 I (ref09_number_ok _ _ _ _ hx50_71)) <| .p I (.asg I) <| .nil <| .seq <| .seq <| .plain 18 I <| .p I (.fa I (G127_0 _)) <| .p I (.ld Y9 I) <| bK h fun x53_72 hx53_72 h => .p I (.call I K162 I (ref02_Name_ok _ _ _ hx53_72)) <| .p I (.nt I) <| .p I (.mv I) <| .jOr 3 (b2 := decide (x32_63.kind < 0)) I I I I (.inl I) (fun _ _ _ h1 => by cases h1) I I (fun hb_73 => ?_) ?_
          · refine .q I (.fa I (G127_1 _)) <| .q I (.ld Y3 I) <| .q I (.ls I) ?_
            exact .nil I
          refine .p I (.mv I) <| .jOr 3 (b2 := decide (5 < x32_63.kind)) I I I I (.inl I) (fun _ _ _ h1 => by cases h1) I I (fun hb_74 => ?_) ?_
          · refine .q I (.fa I (G127_1 _)) <| .q I (.ld Y3 I) <| .q I (.gt I) ?_
            exact .nil I
          refine .p I (.mv I) <| .jOr 2 (b2 := x50_71 == 0) I I I I (.inl I) (fun _ _ _ h1 => by cases h1) I I (fun hb_75 => ?_) ?_
          · refine .q I (.mv I) <| .q I (.eq I) ?_
            exact .nil I
          refine .nil <| .nil <| .keep [] [0, 1, 5, 6, 7, 8, 10, 68] (.c8 I .nil) I <| .condS I h (fun h => ?_) fun h => ?_
          · refine .sr <| .p I (.asg I) <| .nil <| .ret ?_
            cases h
            exact retOne I (.d _)
          · refine .skip <| .seq <| .seq <| .plain 19 I <| .p I (.fa I (G127_3 _)) <| .p I (.fa I (G87_0 _)) <| .p I (.ld Y3 I) <| .p I (.fa I (G127_3 _)) <| .p I (.fa I (G87_1 _)) <| .p I (.ld Y3 I) <| .p I (.gt I) <| .p I (.mv I) <| .jOr 4 (b2 := decide (x32_63.range.lo < (-9999))) I I I I (.inl I) (fun _ _ _ h1 => by cases h1) I I (fun hb_76 => ?_) ?_
            · refine .q I (.fa I (G127_3 _)) <| .q I (.fa I (G87_0 _)) <| .q I (.ld Y3 I) <| .q I (.ls I) ?_
              exact .nil I
            refine .p I (.mv I) <| .jOr 4 (b2 := decide (9999 < x32_63.range.hi)) I I I I (.inl I) (fun _ _ _ h1 => by cases h1) I I (fun hb_77 => ?_) ?_
            · refine .q I (.fa I (G127_3 _)) <| .q I (.fa I (G87_1 _)) <| .q I (.ld Y3 I) <| .q I (.gt I) ?_
              exact .nil I
            refine .nil <| .nil <| .keep [] [0, 1, 5, 6, 7, 8, 10, 87] (.c8 I .nil) I <| .condS I h (fun h => ?_) fun h => ?_
            · refine .sr <| .p I (.asg I) <| .nil <| .ret ?_
              cases h
              exact retOne I (.d _)
            · refine .skip <| .seq <| .seq <| .plain 25 I <| .p I (.fa I (G127_1 _)) <| .p I (.ld Y3 I) <| .p I (.eq I) <| .p I (.mv I) <| .jOr 3 (b2 := x32_63.kind == 2) I I I I (.inl I) (fun _ _ _ h1 => by cases h1) I I (fun hb_78 => ?_) ?_
              · refine .q I (.fa I (G127_1 _)) <| .q I (.ld Y3 I) <| .q I (.eq I) ?_
                exact .nil I
              refine .p I (.mv I) <| .jOr 3 (b2 := x32_63.kind == 3) I I I I (.inl I) (fun _ _ _ h1 => by cases h1) I I (fun hb_79 => ?_) ?_
              · refine .q I (.fa I (G127_1 _)) <| .q I (.ld Y3 I) <| .q I (.eq I) ?_
                exact .nil I
              refine .p I (.mv I) <| .jAnd 10 (b2 := (x32_63.range.lo != 0) || (x32_63.range.hi != 1)) I I I I (.inl I) (fun _ _ _ h1 => by cases h1) I I (fun hb_80 => ?_) ?_
              · refine .q I (.fa I (G127_3 _)) <| .q I (.fa I (G87_0 _)) <| .q I (.ld Y3 I) <| .q I (.ne I) <| .q I (.mv I) <| .jOr 4 (b2 := x32_63.range.hi != 1) I I I I (.inr ⟨_, _, _, I, I, I⟩) (fun _ _ _ h1 h2 => by cases h1; cases h2; decide) I I (fun hb_81 => ?_) ?_
                · refine .q I (.fa I (G127_3 _)) <| .q I (.fa I (G87_1 _)) <| .q I (.ld Y3 I) <| .q I (.ne I) ?_
                  exact .nil I
                exact .nil I
              refine .nil <| .nil <| .keep [] [0, 1, 5, 6, 7, 8, 10, 112] (.c8 I .nil) I <| .condS I h (fun h => ?_) fun h => ?_
              · refine .sr <| .p I (.asg I) <| .nil <| .ret ?_
                cases h
                exact retOne I (.d _)
              · refine .skip <| .sr <| .p I (.fa I (G127_1 _)) <| .p I (.ld Y3 I) <| bK h fun x115_82 hx115_82 h => .p I (.call I K139 I (ref09_strict_ok _ _ _ hx115_82)) <| .nil <| .condS I h (fun h => ?_) fun h => ?_
                · refine .seq <| .sr <| .p I (.fa I (G127_4 _)) <| .p I (.ld Y3 I) <| .p I (.mv I) <| .p I (.ne I) <| .nil <| .condS I h (fun h => ?_) fun h => ?_
                  · refine .sr <| .p I (.asg I) <| .nil <| .ret ?_
                    cases h
                    exact retOne I (.d _)
                  · refine .skip <| .region <| .p I (.mv I) <| .p I (.mv I) <| .p I (.ad I) <| .p I (.asg I) <| .nil ?_
                    exact ⟨_, h, ⟨_, Fz8 I trivial⟩⟩
                · refine .seq <| .sr <| .p I (.fa I (G127_4 _)) <| .p I (.ld Y3 I) <| .p I (.mv I) <| .p I (.ne I) <| .nil <| .condS I h (fun h => ?_) fun h => ?_
                  · refine .sr <| .p I (.asg I) <| .nil <| .ret ?_
                    cases h
                    exact retOne I (.d _)
                  · refine .skip <| .region <| .p I (.mv I) <| .p I (.mv I) <| .p I (.ad I) <| .p I (.asg I) <| .nil ?_
                    exact ⟨_, h, ⟨_, Fz8 I trivial⟩⟩
      · obtain ⟨x5_60, x6_61⟩ := v
        refine .region <| .p I (.mv I) <| .p I (.ad I) <| .p I (.asg I) <| .nil ?_
        exact ⟨_, h, ⟨_, Fz8 I trivial⟩⟩
    · refine .exit <| .seq <| .plain 6 I <| .p I (.mv I) <| .p I (.le I) <| .p I (.mv I) <| .jAnd 2 (b2 := decide (x6_57 ≤ 64)) I I I I (.inl I) (fun _ _ _ h1 => by cases h1) I I (fun hb_83 => ?_) ?_
      · refine .q I (.mv I) <| .q I (.le I) ?_
        exact .nil I
      refine .nil <| .p I (.asg I) <| .nil <| .ret ?_
      cases h
      exact retOne I (.d _)
set_option maxHeartbeats 2000000 in
theorem ref09_Ranges_ok (n : Nat) (t0 : List Int) (t1 : List Table) (t2 : Bool) (r : List Range) (h : ref09_Ranges n t0 t1 t2 = some r) : Pure Tryz.prog 93 [.sl 1 (List.map D.int t0), .sl 6 (List.map Table.enc t1), .bool t2] (.sl 2 (List.map Range.enc r)) := by
  refine Pure.ot Tryz.func93 I Tryz.ntmps93 I fun A w => .sr <| .p I (.nilS 2 (α := Range) Range.enc I) <| .nil <| .sr <| .buildVec [] I I I I I E48 I (fun _ => I) I (enc := Range.enc) <| .p I (.asg I) <| .nil <| .seq <| .sr <| .p I (.mv I) <| .p I (.mv I) <| bK h fun x13_1 hx13_1 h => .p I (.call I K101 I (ref09_Valid_ok _ _ _ _ hx13_1)) <| .p I (.nt I) <| .nil <| .condS I h (fun h => ?_) fun h => ?_
  · refine .sr <| .p I (.mv I) <| .p I (.asg I) <| .nil <| .ret ?_
    cases h
    exact retOne I (.vec I (by simp))
  · refine .skip <| .seq <| .sr <| .p I (.asg I) <| .nil <| .block <| .loopS [0, 1, 2] (fun (v : (List Range) × Int) => [(7, .vec 0 (List.length v.1)), (8, .d (.int v.2))]) (fun (v : (List Range) × Int) => [(0, .vec 87 2 (List.map Range.enc v.1))]) (.c2 I <| .c I .nil) h ⟨_, Fz8 I trivial⟩ (fun rec_64 v h => ?_)
    obtain ⟨b0_62, x8_63⟩ := v
    refine .seq <| .sr <| .p I (.mv I) <| .p I (.mv I) <| .p I (.len I U23 I) <| .p I (.ls I) <| .nil <| .keep [.vec 87 2 (List.map Range.enc b0_62)] [0, 1, 2, 7, 8, 19] (.c4 I <| .c2 I .nil) I <| .condS I h (fun h => ?_) fun h => ?_
    · refine .skip <| .seq <| .block <| .sr <| .p I (.asg I) <| .nil <| .block <| .loopS [0, 1, 2, 8] (fun (v : (List Range) × Int) => [(7, .vec 0 (List.length v.1)), (9, .d (.int v.2))]) (fun (v : (List Range) × Int) => [(0, .vec 87 2 (List.map Range.enc v.1))]) (.c4 I .nil) h ⟨_, Fz8 I <| Fz1 I trivial⟩ (fun rec_85 v h => ?_)
      obtain ⟨b0_83, x9_84⟩ := v
      refine .seq <| .seq <| .plain 19 I <| .p I (.mv I) <| .p I (.mv I) <| bK h fun x24_86 hx24_86 h => .p I (.ix I U23 S127 hx24_86) <| .p I (.fa I (G127_1 _)) <| .p I (.ld Y3 I) <| bK h fun x27_87 hx27_87 h => .p I (.call I K139 I (ref09_strict_ok _ _ _ hx27_87)) <| .p I (.mv I) <| .p I (.beq I U4 I I) <| .p I (.mv I) <| gK h fun hc_89 h => gK h fun hc_90 h => .jAnd 9 (b2 := decide (x9_84 < ((ref09_number n t0 (((idx t1 x8_63).getD default).columns)).getD default))) I I I I (.inl I) (fun _ _ _ h1 => by cases h1) I I (fun hb_88 => ?_) ?_
      · refine .q I (.mv I) <| .q I (.mv I) <| .q I (.mv I) <| .q I (.mv I) <| .q I (.ix I U23 S127 (someD (impT hc_89 hb_88))) <| .q I (.fa I (G127_2 _)) <| .q I (.ld Y22 I) <| .q I (.call I K140 I (ref09_number_ok _ _ _ _ (someD (impT hc_90 hb_88)))) <| .q I (.ls I) ?_
        exact .nil I
      refine .nil <| .nil <| .keep [.vec 87 2 (List.map Range.enc b0_83)] [0, 1, 2, 7, 8, 9, 40] (.c4 I <| .c2 I <| .c I .nil) I <| .condS I h (fun h => ?_) fun h => ?_
      · refine .skip <| .seq <| .block <| .region <| .p I (.mv I) <| .p I (.mv I) <| .p I (.mv I) <| bK h fun x46_91 hx46_91 h => .p I (.ix I U23 S127 hx46_91) <| .p I (.fa I (G127_3 _)) <| .p I (.ld Y87 I) <| .p I (.buildSl [_] I I E48 I (fun _ => I) I (enc := Range.enc)) <| bK h fun x50_92 hx50_92 h => .app I I I I I I I I E48 I (fun _ => I) hx50_92 <| .p I (.asg I) <| .nil <| .region <| .p I (.mv I) <| .p I (.ad I) <| .p I (.asg I) <| .nil ?_
        exact ⟨_, h, ⟨_, Fz8 I <| Fz1 I trivial⟩⟩
      · refine .exit <| .region <| .p I (.mv I) <| .p I (.ad I) <| .p I (.asg I) <| .nil ?_
        exact ⟨_, h, ⟨_, Fz8 I trivial⟩⟩
    · refine .exit <| .sr <| .p I (.mv I) <| .p I (.asg I) <| .nil <| .ret ?_
      cases h
      exact retOne I (.vec I (by simp))
theorem ref13_strict_ok (n : Nat) (t0 : Model) (r : List Range) (h : ref13_strict n t0 = some r) : Pure Tryz.prog 38 [Model.enc t0] (.sl 2 (List.map Range.enc r)) := by
  refine Pure.ot Tryz.func38 I Tryz.ntmps38 I fun A w => .sr <| .p I (.bx I) <| .p I (.nilS 2 (α := Range) Range.enc I) <| .nil <| .sr <| .p I (.fa I (G30_0 _)) <| .p I (.ld Y22 I) <| .p I (.fa I (G30_1 _)) <| .p I (.ld Y23 I) <| bK h fun x7_1 hx7_1 h => .p I (.call I K93 I (ref09_Ranges_ok _ _ _ _ _ hx7_1)) <| .p I (.asg I) <| .nil <| .ret ?_
  cases h
  exact retOne I (.d _)
set_option maxHeartbeats 2000000 in
theorem ref13_Few_ok (n : Nat) (t0 : Model) (r : Bool) (h : ref13_Few n t0 = some r) : Pure Tryz.prog 11 [Model.enc t0] (.bool r) := by
  refine Pure.ot Tryz.func11 I Tryz.ntmps11 I fun A w => .sr <| .p I (.bx I) <| .p I (.asg I) <| .nil <| .seq <| .seq <| .plain 15 I <| .p I (.ld Y30 I) <| bK h fun x8_1 hx8_1 h => .p I (.call I K37 I (ref13_Bounded_ok _ _ _ hx8_1)) <| .p I (.nt I) <| .p I (.mv I) <| .jOr 4 (b2 := decide (12 < (t0.actions.length : Int))) I I I I (.inl I) (fun _ _ _ h1 => by cases h1) I I (fun hb_2 => ?_) ?_
  · refine .q I (.fa I (G30_5 _)) <| .q I (.ld Y27 I) <| .q I (.len I U27 I) <| .q I (.gt I) ?_
    exact .nil I
  refine .p I (.mv I) <| .jOr 4 (b2 := decide (40 < (t0.constraints.length : Int))) I I I I (.inl I) (fun _ _ _ h1 => by cases h1) I I (fun hb_3 => ?_) ?_
  · refine .q I (.fa I (G30_3 _)) <| .q I (.ld Y25 I) <| .q I (.len I U25 I) <| .q I (.gt I) ?_
    exact .nil I
  refine .nil <| .nil <| .keep [] [1, 21] (.c2 I .nil) I <| .condS I h (fun h => ?_) fun h => ?_
  · refine .sr <| .p I (.asg I) <| .nil <| .ret ?_
    cases h
    exact retOne I (.d _)
  · refine .skip <| .seq <| .sr <| .p I (.asg I) <| .nil <| .block <| .loopS [1] (fun (v : Int) => [(3, .d (.int v))]) (fun (v : Int) => []) (.c I .nil) h ⟨_, Fz4 I <| Fz1 I trivial⟩ (fun rec_9 x3_8 h => ?_)
    refine .seq <| .sr <| .p I (.mv I) <| .p I (.fa I (G30_5 _)) <| .p I (.ld Y27 I) <| .p I (.len I U27 I) <| .p I (.ls I) <| .nil <| .keep [] [1, 3, 26] (.c2 I <| .c I .nil) I <| .condS I h (fun h => ?_) fun h => ?_
    · refine .skip <| .seq <| .block <| .sr <| .p I (.fa I (G30_5 _)) <| .p I (.ld Y27 I) <| .p I (.mv I) <| bK h fun x32_10 hx32_10 h => .p I (.ix I U27 S84 hx32_10) <| .p I (.fa I (G84_2 _)) <| .p I (.fa I (G82_1 _)) <| .p I (.ld Y49 I) <| .p I (.len I U49 I) <| .p I (.gt I) <| .nil <| .condS I h (fun h => ?_) fun h => ?_
      · refine .sr <| .p I (.asg I) <| .nil <| .ret ?_
        cases h
        exact retOne I (.d _)
      · refine .skip <| .region <| .p I (.mv I) <| .p I (.ad I) <| .p I (.asg I) <| .nil ?_
        exact ⟨_, h, ⟨_, Fz4 I <| Fz1 I trivial⟩⟩
    · refine .exit <| .sr <| .p I (.ld Y30 I) <| bK h fun x39_11 hx39_11 h => .p I (.call I K38 I (ref13_strict_ok _ _ _ hx39_11)) <| .p I (.asg I) <| .nil <| .seq <| .sr <| .p I (.mv I) <| .p I (.len I U48 I) <| .p I (.gt I) <| .nil <| .condS I h (fun h => ?_) fun h => ?_
      · refine .sr <| .p I (.asg I) <| .nil <| .ret ?_
        cases h
        exact retOne I (.d _)
      · refine .skip <| .sr <| .p I (.asg I) <| .nil <| .seq <| .sr <| .p I (.asg I) <| .nil <| .block <| .loopS [4] (fun (v : Int × Int) => [(5, .d (.int v.1)), (6, .d (.int v.2))]) (fun (v : Int × Int) => []) (.c I .nil) h ⟨_, Fz4 I <| Fz2 I trivial⟩ (fun rec_22 v h => ?_)
        obtain ⟨x5_20, x6_21⟩ := v
        refine .seq <| .sr <| .p I (.mv I) <| .p I (.mv I) <| .p I (.len I U48 I) <| .p I (.ls I) <| .nil <| .keep [] [4, 5, 6, 46] (.c4 I .nil) I <| .condS I h (fun h => ?_) fun h => ?_
        · refine .skip <| .seq <| .block <| .seq <| .draw 15 Hm (by kernel_rfl) (by kernel_rfl) <| .p I (.mv I) <| .p I (.mv I) <| .p I (.mv I) <| bK h fun x52_23 hx52_23 h => .p I (.ix I U48 S87 hx52_23) <| .p I (.fa I (G87_1 _)) <| .p I (.ld Y3 I) <| .p I (.mv I) <| .p I (.mv I) <| bK h fun x57_24 hx57_24 h => .p I (.ix I U48 S87 hx57_24) <| .p I (.fa I (G87_0 _)) <| .p I (.ld Y3 I) <| .p I (.sb I) <| .p I (.ad I) <| .p I (.ml I) <| .p I (.asg I) <| .nil <| .nil <| .sr <| .p I (.mv I) <| .p I (.gt I) <| .nil <| .keep [] [4, 5, 6, 64] (.c4 I .nil) I <| .condS I h (fun h => ?_) fun h => ?_
          · refine .sr <| .p I (.asg I) <| .nil <| .ret ?_
            cases h
            exact retOne I (.d _)
          · refine .skip <| .region <| .p I (.mv I) <| .p I (.ad I) <| .p I (.asg I) <| .nil ?_
            exact ⟨_, h, ⟨_, Fz4 I <| Fz2 I trivial⟩⟩
        · refine .exit <| .sr <| .p I (.asg I) <| .nil <| .ret ?_
          cases h
          exact retOne I (.d _)
set_option maxHeartbeats 2000000 in
theorem ref13_distinct_ok (n : Nat) (t0 : List (List UInt8)) (r : Bool) (h : ref13_distinct n t0 = some r) : Pure Tryz.prog 102 [.sl 1 (List.map D.str t0)] (.bool r) := by
  refine Pure.ot Tryz.func102 I Tryz.ntmps102 I fun A w => .sr <| .p I (.asg I) <| .nil <| .seq <| .sr <| .p I (.asg I) <| .nil <| .block <| .loopS [0] (fun (v : Int) => [(3, .d (.int v))]) (fun (v : Int) => []) (.c I .nil) h ⟨_, Fz4 I <| Fz1 I trivial⟩ (fun rec_16 x3_15 h => ?_)
  refine .seq <| .sr <| .p I (.mv I) <| .p I (.mv I) <| .p I (.len I U24 I) <| .p I (.ls I) <| .nil <| .keep [] [0, 3, 7] (.c2 I <| .c I .nil) I <| .condS I h (fun h => ?_) fun h => ?_
  · refine .skip <| .seq <| .block <| .seq <| .draw 16 Hm (by kernel_rfl) (by kernel_rfl) <| .p I (.mv I) <| .p I (.mv I) <| bK h fun x12_17 hx12_17 h => .p I (.ix I U24 S9 hx12_17) <| .p I (.ld Y9 I) <| bK h fun x14_18 hx14_18 h => .p I (.call I K162 I (ref02_Name_ok _ _ _ hx14_18)) <| .p I (.nt I) <| .p I (.mv I) <| gK h fun hc_20 h => gK h fun hc_21 h => gK h fun hc_22 h => .jOr 8 (b2 := ((ref02_Has n ((cut t0 0 x3_15).getD default) ((idx t0 x3_15).getD default)).getD default)) I I I I (.inl I) (fun _ _ _ h1 => by cases h1) I I (fun hb_19 => ?_) ?_
    · refine .q I (.mv I) <| .q I (.mv I) <| .q I (.cutSlH I I I U24 S9 (someD (impF hc_20 hb_19))) <| .q I (.mv I) <| .q I (.mv I) <| .q I (.ix I U24 S9 (someD (impF hc_21 hb_19))) <| .q I (.ld Y9 I) <| .q I (.call I K163 I (ref02_Has_ok _ _ _ _ (someD (impF hc_22 hb_19)))) ?_
      exact .nil I
    refine .nil <| .nil <| .keep [] [0, 3, 25] (.c2 I <| .c I .nil) I <| .condS I h (fun h => ?_) fun h => ?_
    · refine .sr <| .p I (.asg I) <| .nil <| .ret ?_
      cases h
      exact retOne I (.d _)
    · refine .skip <| .region <| .p I (.mv I) <| .p I (.ad I) <| .p I (.asg I) <| .nil ?_
      exact ⟨_, h, ⟨_, Fz4 I <| Fz1 I trivial⟩⟩
  · refine .exit <| .sr <| .p I (.asg I) <| .nil <| .ret ?_
    cases h
    exact retOne I (.d _)
set_option maxHeartbeats 2000000 in
theorem ref11_SameTerms_ok (n : Nat) (t0 : List Term) (t1 : List Term) (r : Bool) (h : ref11_SameTerms n t0 t1 = some r) : Pure Tryz.prog 205 [.sl 2 (List.map Term.enc t0), .sl 2 (List.map Term.enc t1)] (.bool r) := by
  refine Pure.ot Tryz.func205 I Tryz.ntmps205 I fun A w => .sr <| .p I (.asg I) <| .nil <| .seq <| .sr <| .p I (.mv I) <| .p I (.len I U31 I) <| .p I (.mv I) <| .p I (.len I U31 I) <| .p I (.ne I) <| .nil <| .condS I h (fun h => ?_) fun h => ?_
  · refine .sr <| .p I (.asg I) <| .nil <| .ret ?_
    cases h
    exact retOne I (.d _)
  · refine .skip <| .seq <| .sr <| .p I (.asg I) <| .nil <| .block <| .loopS [0, 1] (fun (v : Int) => [(5, .d (.int v))]) (fun (v : Int) => []) (.c2 I .nil) h ⟨_, Fz4 I <| Fz2 I trivial⟩ (fun rec_8 x5_7 h => ?_)
    refine .seq <| .sr <| .p I (.mv I) <| .p I (.mv I) <| .p I (.len I U31 I) <| .p I (.ls I) <| .nil <| .keep [] [0, 1, 5, 14] (.c4 I .nil) I <| .condS I h (fun h => ?_) fun h => ?_
    · refine .skip <| .seq <| .block <| .seq <| .draw 9 Hm (by kernel_rfl) (by kernel_rfl) <| .p I (.mv I) <| .p I (.mv I) <| bK h fun x19_9 hx19_9 h => .p I (.ix I U31 S41 hx19_9) <| .p I (.ld Y41 I) <| .p I (.mv I) <| .p I (.mv I) <| bK h fun x23_10 hx23_10 h => .p I (.ix I U31 S41 hx23_10) <| .p I (.ld Y41 I) <| .p I (.sneq I SE41 I I (xs := Term.vals _) (ys := Term.vals _) I I I I (SQ41 _ _)) <| .nil <| .nil <| .condS I h (fun h => ?_) fun h => ?_
      · refine .sr <| .p I (.asg I) <| .nil <| .ret ?_
        cases h
        exact retOne I (.d _)
      · refine .skip <| .region <| .p I (.mv I) <| .p I (.ad I) <| .p I (.asg I) <| .nil ?_
        exact ⟨_, h, ⟨_, Fz4 I <| Fz2 I trivial⟩⟩
    · refine .exit <| .sr <| .p I (.asg I) <| .nil <| .ret ?_
      cases h
      exact retOne I (.d _)
theorem ref11_SameRow_ok (n : Nat) (t0 : Row) (t1 : Row) (r : Bool) (h : ref11_SameRow n t0 t1 = some r) : Pure Tryz.prog 164 [Row.enc t0, Row.enc t1] (.bool r) := by
  refine Pure.ot Tryz.func164 I Tryz.ntmps164 I fun A w => .sr <| .p I (.bx I) <| .p I (.bx I) <| .p I (.asg I) <| .nil <| .seq <| .plain 12 I <| .p I (.fa I (G33_1 _)) <| .p I (.ld Y3 I) <| .p I (.fa I (G33_1 _)) <| .p I (.ld Y3 I) <| .p I (.eq I) <| .p I (.mv I) <| gK h fun hc_2 h => .jAnd 5 (b2 := ((ref11_SameTerms n t0.terms t1.terms).getD default)) I I I I (.inl I) (fun _ _ _ h1 => by cases h1) I I (fun hb_1 => ?_) ?_
  · refine .q I (.fa I (G33_0 _)) <| .q I (.ld Y31 I) <| .q I (.fa I (G33_0 _)) <| .q I (.ld Y31 I) <| .q I (.call I K205 I (ref11_SameTerms_ok _ _ _ _ (someD (impT hc_2 hb_1)))) ?_
    exact .nil I
  refine .nil <| .p I (.asg I) <| .nil <| .keep [] [4] (.c I .nil) I <| .ret ?_
  cases h
  exact retOne I (.d _)
theorem ref13_between_ok (n : Nat) (t0 : Int) (t1 : Int) (r : Bool) (h : ref13_between n t0 t1 = some r) : Pure Tryz.prog 167 [.int t0, .int t1] (.bool r) := by
  refine Pure.ot Tryz.func167 I Tryz.ntmps167 I fun A w => .sr <| .p I (.asg I) <| .nil <| .seq <| .plain 9 I <| .p I (.mv I) <| .p I (.mv I) <| .p I (.neg6 I I) <| .p I (.ge I) <| .p I (.mv I) <| .jAnd 3 (b2 := decide (t0 ≤ t1)) I I I I (.inl I) (fun _ _ _ h1 => by cases h1) I I (fun hb_1 => ?_) ?_
  · refine .q I (.mv I) <| .q I (.mv I) <| .q I (.le I) ?_
    exact .nil I
  refine .nil <| .p I (.asg I) <| .nil <| .ret ?_
  cases h
  exact retOne I (.d _)
set_option maxHeartbeats 2000000 in
theorem ref13_row_ok (n : Nat) (t0 : Row) (t1 : Int) (r : Bool) (h : ref13_row n t0 t1 = some r) : Pure Tryz.prog 165 [Row.enc t0, .int t1] (.bool r) := by
  refine Pure.ot Tryz.func165 I Tryz.ntmps165 I fun A w => .sr <| .p I (.bx I) <| .p I (.asg I) <| .nil <| .seq <| .sr <| .p I (.asg I) <| .nil <| .block <| .loopS [1, 2] (fun (v : Int) => [(5, .d (.int v))]) (fun (v : Int) => []) (.c2 I .nil) h ⟨_, Fz4 I <| Fz2 I trivial⟩ (fun rec_20 x5_19 h => ?_)
  refine .seq <| .sr <| .p I (.mv I) <| .p I (.fa I (G33_0 _)) <| .p I (.ld Y31 I) <| .p I (.len I U31 I) <| .p I (.ls I) <| .nil <| .keep [] [1, 2, 5, 11] (.c4 I .nil) I <| .condS I h (fun h => ?_) fun h => ?_
  · refine .skip <| .seq <| .block <| .sr <| .p I (.fa I (G33_0 _)) <| .p I (.ld Y31 I) <| .p I (.mv I) <| bK h fun x17_21 hx17_21 h => .p I (.ix I U31 S41 hx17_21) <| .p I (.ld Y41 I) <| .allocStore I I I I I I I I (by simp) I I Z41 <| .nil <| .seq <| .draw 36 Hm (by kernel_rfl) (by kernel_rfl) <| .p I (.fa I (G41_0 _)) <| .p I (.ld Y3 I) <| .p I (.ls I) <| .p I (.mv I) <| .jOr 4 (b2 := decide (t1 ≤ x17_21.cell)) I I I I (.inl I) (fun _ _ _ h1 => by cases h1) I I (fun hb_22 => ?_) ?_
    · refine .q I (.fa I (G41_0 _)) <| .q I (.ld Y3 I) <| .q I (.mv I) <| .q I (.ge I) ?_
      exact .nil I
    refine .p I (.mv I) <| gK h fun hc_25 h => .jOr 14 (b2 := (decide (0 < x5_19)) && (decide (x17_21.cell ≤ ((idx t0.terms (sub64 x5_19 1)).getD default).cell))) I I I I (.inl I) (fun _ _ _ h1 => by cases h1) I I (fun hb_23 => ?_) ?_
    · refine .q I (.mv I) <| .q I (.gt I) <| .q I (.mv I) <| .jAnd 10 (b2 := decide (x17_21.cell ≤ ((idx t0.terms (sub64 x5_19 1)).getD default).cell)) I I I I (.inr ⟨_, _, _, I, I, I⟩) (fun _ _ _ h1 h2 => by cases h1; cases h2; decide) I I (fun hb_24 => ?_) ?_
      · refine .q I (.fa I (G33_0 _)) <| .q I (.ld Y31 I) <| .q I (.mv I) <| .q I (.sb I) <| .q I (.ix I U31 S41 (someD (impT (impF hc_25 hb_23) hb_24))) <| .q I (.fa I (G41_0 _)) <| .q I (.ld Y3 I) <| .q I (.fa I (G41_0 _)) <| .q I (.ld Y3 I) <| .q I (.ge I) ?_
        exact .nil I
      exact .nil I
    refine .p I (.mv I) <| .jOr 3 (b2 := x17_21.factor == 0) I I I I (.inl I) (fun _ _ _ h1 => by cases h1) I I (fun hb_26 => ?_) ?_
    · refine .q I (.fa I (G41_1 _)) <| .q I (.ld Y3 I) <| .q I (.eq I) ?_
      exact .nil I
    refine .p I (.mv I) <| gK h fun hc_28 h => .jOr 4 (b2 := !((ref13_between n x17_21.factor 1000).getD default)) I I I I (.inl I) (fun _ _ _ h1 => by cases h1) I I (fun hb_27 => ?_) ?_
    · refine .q I (.fa I (G41_1 _)) <| .q I (.ld Y3 I) <| .q I (.call I K167 I (ref13_between_ok _ _ _ _ (someD (impF hc_28 hb_27)))) <| .q I (.nt I) ?_
      exact .nil I
    refine .nil <| .nil <| .keep [] [1, 2, 5, 54] (.c4 I .nil) I <| .condS I h (fun h => ?_) fun h => ?_
    · refine .sr <| .p I (.asg I) <| .nil <| .ret ?_
      cases h
      exact retOne I (.d _)
    · refine .skip <| .region <| .p I (.mv I) <| .p I (.ad I) <| .p I (.asg I) <| .nil ?_
      exact ⟨_, h, ⟨_, Fz4 I <| Fz2 I trivial⟩⟩
  · refine .exit <| .sr <| .p I (.fa I (G33_1 _)) <| .p I (.ld Y3 I) <| bK h fun x57_29 hx57_29 h => .p I (.call I K167 I (ref13_between_ok _ _ _ _ hx57_29)) <| .p I (.asg I) <| .nil <| .ret ?_
    cases h
    exact retOne I (.d _)
set_option maxHeartbeats 2000000 in
theorem ref13_graph_ok (n : Nat) (t0 : Model) (t1 : Constraint) (r : Bool) (h : ref13_graph n t0 t1 = some r) : Pure Tryz.prog 166 [Model.enc t0, Constraint.enc t1] (.bool r) := by
  refine Pure.ot Tryz.func166 I Tryz.ntmps166 I fun A w => .sr <| .p I (.bx I) <| .p I (.bx I) <| .p I (.asg I) <| .nil <| .seq <| .seq <| .plain 11 I <| .p I (.fa I (G78_2 _)) <| .p I (.fa I (G33_0 _)) <| .p I (.ld Y31 I) <| .p I (.len I U31 I) <| .p I (.gt I) <| .p I (.mv I) <| .jOr 4 (b2 := t1.row.bound != 0) I I I I (.inl I) (fun _ _ _ h1 => by cases h1) I I (fun hb_1 => ?_) ?_
  · refine .q I (.fa I (G78_2 _)) <| .q I (.fa I (G33_1 _)) <| .q I (.ld Y3 I) <| .q I (.ne I) ?_
    exact .nil I
  refine .nil <| .nil <| .condS I h (fun h => ?_) fun h => ?_
  · refine .sr <| .p I (.asg I) <| .nil <| .ret ?_
    cases h
    exact retOne I (.d _)
  · refine .skip <| .seq <| .sr <| .p I (.asg I) <| .nil <| .block <| .loopS [2, 3] (fun (v : Int) => [(5, .d (.int v))]) (fun (v : Int) => []) (.c2 I .nil) h ⟨_, Fz4 I <| Fz2 I trivial⟩ (fun rec_23 x5_22 h => ?_)
    refine .seq <| .sr <| .p I (.mv I) <| .p I (.fa I (G30_1 _)) <| .p I (.ld Y23 I) <| .p I (.len I U23 I) <| .p I (.ls I) <| .nil <| .keep [] [2, 3, 5, 22] (.c4 I .nil) I <| .condS I h (fun h => ?_) fun h => ?_
    · refine .skip <| .seq <| .block <| .sr <| .p I (.fa I (G30_1 _)) <| .p I (.ld Y23 I) <| .p I (.mv I) <| bK h fun x28_24 hx28_24 h => .p I (.ix I U23 S127 hx28_24) <| .p I (.ld Y127 I) <| .allocStore I I I I I I I I (by simp) I I Z127 <| .nil <| .seq <| .draw 40 Hm (by kernel_rfl) (by kernel_rfl) <| .p I (.fa I (G127_1 _)) <| .p I (.ld Y3 I) <| .p I (.eq I) <| .p I (.mv I) <| .jAnd 4 (b2 := (x28_24.columns.length : Int) == 2) I I I I (.inl I) (fun _ _ _ h1 => by cases h1) I I (fun hb_25 => ?_) ?_
      · refine .q I (.fa I (G127_2 _)) <| .q I (.ld Y22 I) <| .q I (.len I U22 I) <| .q I (.eq I) ?_
        exact .nil I
      refine .p I (.mv I) <| gK h fun hc_27 h => gK h fun hc_28 h => .jAnd 9 (b2 := ((idx x28_24.columns 0).getD default) == ((idx x28_24.columns 1).getD default)) I I I I (.inl I) (fun _ _ _ h1 => by cases h1) I I (fun hb_26 => ?_) ?_
      · refine .q I (.fa I (G127_2 _)) <| .q I (.ld Y22 I) <| .q I (.ix I U22 S3 (someD (impT hc_27 hb_26))) <| .q I (.ld Y3 I) <| .q I (.fa I (G127_2 _)) <| .q I (.ld Y22 I) <| .q I (.ix I U22 S3 (someD (impT hc_28 hb_26))) <| .q I (.ld Y3 I) <| .q I (.eq I) ?_
        exact .nil I
      refine .p I (.mv I) <| .jAnd 5 (b2 := x28_24.first == t1.first) I I I I (.inl I) (fun _ _ _ h1 => by cases h1) I I (fun hb_29 => ?_) ?_
      · refine .q I (.fa I (G127_4 _)) <| .q I (.ld Y3 I) <| .q I (.fa I (G78_3 _)) <| .q I (.ld Y3 I) <| .q I (.eq I) ?_
        exact .nil I
      refine .p I (.mv I) <| gK h fun hc_31 h => gK h fun hc_32 h => .jAnd 11 (b2 := ((idx t0.sorts ((idx x28_24.columns 0).getD default)).getD default) == t1.size) I I I I (.inl I) (fun _ _ _ h1 => by cases h1) I I (fun hb_30 => ?_) ?_
      · refine .q I (.fa I (G30_0 _)) <| .q I (.ld Y22 I) <| .q I (.fa I (G127_2 _)) <| .q I (.ld Y22 I) <| .q I (.ix I U22 S3 (someD (impT hc_31 hb_30))) <| .q I (.ld Y3 I) <| .q I (.ix I U22 S3 (someD (impT hc_32 hb_30))) <| .q I (.ld Y3 I) <| .q I (.fa I (G78_4 _)) <| .q I (.ld Y3 I) <| .q I (.eq I) ?_
        exact .nil I
      refine .nil <| .nil <| .keep [] [2, 3, 5, 69] (.c4 I .nil) I <| .condS I h (fun h => ?_) fun h => ?_
      · refine .sr <| .p I (.asg I) <| .nil <| .ret ?_
        cases h
        exact retOne I (.d _)
      · refine .skip <| .region <| .p I (.mv I) <| .p I (.ad I) <| .p I (.asg I) <| .nil ?_
        exact ⟨_, h, ⟨_, Fz4 I <| Fz2 I trivial⟩⟩
    · refine .exit <| .sr <| .p I (.asg I) <| .nil <| .ret ?_
      cases h
      exact retOne I (.d _)
end Go.Proofs.YtcagdmegicijlaaGreatDoor
