/- Part of the proof of one law of the seat. -/
import Derived.Test.YtcagdmegicijlaaGreatDoorCh04
set_option linter.unusedVariables false
set_option linter.unusedSectionVars false
set_option linter.unusedSimpArgs false
namespace Go.Proofs.YtcagdmegicijlaaGreatDoor
open Go Go.RowKit
theorem slices_ContainsFunc_LRange_api_Range_ok (n : Nat) (t0 : List Range) (t1 : Range → Option Bool) (F1 : D) (hF1 : ∀ (q0 : Range) (y : Bool), t1 q0 = some y → Dyn Tryz.prog F1 [Range.enc q0] (.bool y)) (r : Bool) (h : slices_ContainsFunc_LRange_api_Range n t0 t1 = some r) : Pure Tryz.prog 179 [.sl 2 (List.map Range.enc t0), F1] (.bool r) := by
  refine Pure.ot Tryz.func179 I Tryz.ntmps179 I fun A w => .seq <| .region <| .op I I (.assign I I) <| .nil <| .seq <| .region <| .op I I (.move I I) <| .op I I (.move I I) <| bK h fun x7_1 hx7_1 h => .op I I (.call I K214 I (slices_IndexFunc_LRange_api_Range_ok _ _ _ _ hF1 _ hx7_1)) <| .op I I (.geq I I I) <| .op I I (.assign I I) <| .nil <| .ret ?_
  cases h
  exact retOne I (.d _)
theorem interval_empty_ok (n : Nat) (t0 : Range) (r : Bool) (h : interval_empty n t0 = some r) : Pure Tryz.prog 180 [Range.enc t0] (.bool r) := by
  refine Pure.ot Tryz.func180 I Tryz.ntmps180 I fun A w => .seq <| .region <| .op I I (.box I I) <| .op I I (.assign I I) <| .nil <| .seq <| .region <| .op I I (.fieldAddr I I (G87_0 _)) <| .op I I (.load I I Y3 I) <| .op I I (.fieldAddr I I (G87_1 _)) <| .op I I (.load I I Y3 I) <| .op I I (.gtr I I I) <| .op I I (.assign I I) <| .nil <| .ret ?_
  cases h
  exact retOne I (.d _)
theorem interval_Empty_ok (n : Nat) (t0 : List Range) (r : Bool) (h : interval_Empty n t0 = some r) : Pure Tryz.prog 116 [.sl 2 (List.map Range.enc t0)] (.bool r) := by
  refine Pure.ot Tryz.func116 I Tryz.ntmps116 I fun A w => .seq <| .region <| .op I I (.assign I I) <| .nil <| .seq <| .region <| .op I I (.move I I) <| bK h fun x4_1 hx4_1 h => .op I I (.call I K179 I (slices_ContainsFunc_LRange_api_Range_ok _ _ _ _ (fun q0 y hq => ⟨_, _, I, K180, interval_empty_ok _ q0 _ hq⟩) _ hx4_1)) <| .op I I (.assign I I) <| .nil <| .ret ?_
  cases h
  exact retOne I (.d _)
theorem system_rows_ok (n : Nat) (t0 : System) (t1 : List Row) (t2 : Int) (r : Bool) (h : system_rows n t0 t1 t2 = some r) : Pure Tryz.prog 117 [System.enc t0, .sl 2 (List.map Row.enc t1), .int t2] (.bool r) := by
  refine Pure.ot Tryz.func117 I Tryz.ntmps117 I fun A w => .seq <| .region <| .op I I (.box I I) <| .op I I (.assign I I) <| .nil <| .seq <| .plain 10 I <| .op I I I I (.move I I) <| .op I I I I (.len I U49 I) <| .op I I I I (.move I I) <| .op I I I I (.leq I I I) <| .op I I I I (.move I I) <| gK h fun hc_2 h => .jAnd 4 (b2 := ((interval_Valid n t0.box t1).getD default)) I I I I (.inl I) (fun _ _ _ h1 => by cases h1) I I (fun hb_1 => ?_) ?_
  · refine .gop I I I I I I (.fieldAddr I I (G53_0 _)) <| .gop I I I I I I (.load I I Y48 I) <| .gop I I I I I I (.move I I) <| .gop I I I I I I (.call I K115 I (interval_Valid_ok _ _ _ _ (someD (impT hc_2 hb_1)))) ?_
    exact .nil I
  refine .nil <| .op I I (.assign I I) <| .nil <| .ret ?_
  cases h
  exact retOne I (.d _)
theorem system_graph_1_ok (n : Nat) (t0 : Int) (r : Bool) (h : system_graph_1 n t0 = some r) : Pure Tryz.prog 181 [.int t0] (.bool r) := by
  refine Pure.ot Tryz.func181 I Tryz.ntmps181 I fun A w => .seq <| .region <| .op I I (.assign I I) <| .nil <| .seq <| .plain 6 I <| .op I I I I (.move I I) <| .op I I I I (.lss I I I) <| .op I I I I (.move I I) <| .jOr 2 (b2 := decide (4000000 < t0)) I I I I (.inl I) (fun _ _ _ h1 => by cases h1) I I (fun hb_1 => ?_) ?_
  · refine .gop I I I I I I (.move I I) <| .gop I I I I I I (.gtr I I I) ?_
    exact .nil I
  refine .nil <| .op I I (.assign I I) <| .nil <| .ret ?_
  cases h
  exact retOne I (.d _)
set_option maxHeartbeats 2000000 in
theorem system_graph_ok (n : Nat) (t0 : Int) (t1 : Graph) (r : Bool) (h : system_graph n t0 t1 = some r) : Pure Tryz.prog 118 [.int t0, Graph.enc t1] (.bool r) := by
  refine Pure.ot Tryz.func118 I Tryz.ntmps118 I fun A w => .seq <| .region <| .op I I (.box I I) <| .op I I (.assign I I) <| .nil <| .seq <| .seq <| .plain 36 I <| .op I I I I (.fieldAddr I I (G99_1 _)) <| .op I I I I (.load I I Y3 I) <| .op I I I I (.lss I I I) <| .op I I I I (.move I I) <| .jOr 3 (b2 := decide (6 < t1.size)) I I I I (.inl I) (fun _ _ _ h1 => by cases h1) I I (fun hb_1 => ?_) ?_
  · refine .gop I I I I I I (.fieldAddr I I (G99_1 _)) <| .gop I I I I I I (.load I I Y3 I) <| .gop I I I I I I (.gtr I I I) ?_
    exact .nil I
  refine .op I I I I (.move I I) <| .jOr 3 (b2 := decide (t1.first < 0)) I I I I (.inl I) (fun _ _ _ h1 => by cases h1) I I (fun hb_2 => ?_) ?_
  · refine .gop I I I I I I (.fieldAddr I I (G99_0 _)) <| .gop I I I I I I (.load I I Y3 I) <| .gop I I I I I I (.lss I I I) ?_
    exact .nil I
  refine .op I I I I (.move I I) <| .jOr 10 (b2 := decide (sub64 t0 (mul64 t1.size t1.size) < t1.first)) I I I I (.inl I) (fun _ _ _ h1 => by cases h1) I I (fun hb_3 => ?_) ?_
  · refine .gop I I I I I I (.fieldAddr I I (G99_0 _)) <| .gop I I I I I I (.load I I Y3 I) <| .gop I I I I I I (.move I I) <| .gop I I I I I I (.fieldAddr I I (G99_1 _)) <| .gop I I I I I I (.load I I Y3 I) <| .gop I I I I I I (.fieldAddr I I (G99_1 _)) <| .gop I I I I I I (.load I I Y3 I) <| .gop I I I I I I (.mul6 I I I) <| .gop I I I I I I (.sub6 I I I) <| .gop I I I I I I (.gtr I I I) ?_
    exact .nil I
  refine .op I I I I (.move I I) <| .jOr 9 (b2 := (t1.least.length : Int) != (mul64 t1.size t1.size)) I I I I (.inl I) (fun _ _ _ h1 => by cases h1) I I (fun hb_4 => ?_) ?_
  · refine .gop I I I I I I (.fieldAddr I I (G99_2 _)) <| .gop I I I I I I (.load I I Y22 I) <| .gop I I I I I I (.len I U22 I) <| .gop I I I I I I (.fieldAddr I I (G99_1 _)) <| .gop I I I I I I (.load I I Y3 I) <| .gop I I I I I I (.fieldAddr I I (G99_1 _)) <| .gop I I I I I I (.load I I Y3 I) <| .gop I I I I I I (.mul6 I I I) <| .gop I I I I I I (.neq I I I) ?_
    exact .nil I
  refine .nil <| .nil <| .keep [] [3, 40] (.c I <| .c I .nil) I <| .condS I h (fun h => ?_) fun h => ?_
  · refine .seq <| .region <| .op I I (.assign I I) <| .nil <| .ret ?_
    cases h
    exact retOne I (.d _)
  · refine .skip <| .seq <| .region <| .op I I (.fieldAddr I I (G99_2 _)) <| .op I I (.load I I Y22 I) <| bK h fun x43_5 hx43_5 h => .op I I (.call I K154 I (slices_ContainsFunc_Lint_int_ok _ _ _ _ (fun q0 y hq => ⟨_, _, I, K181, system_graph_1_ok _ q0 _ hq⟩) _ hx43_5)) <| .op I I (.not I I) <| .op I I (.assign I I) <| .nil <| .ret ?_
    cases h
    exact retOne I (.d _)
theorem system_Valid_1_ok (n : Nat) (t0 : List Row) (t1 : System) (r : Bool) (h : system_Valid_1 n t0 t1 = some r) : Pure Tryz.prog 120 [.sl 2 (List.map Row.enc t0), .ref (System.enc t1)] (.bool r) := by
  refine Pure.ot Tryz.func120 I Tryz.ntmps120 I fun A w => .seq <| .region <| .op I I (.assign I I) <| .nil <| .seq <| .region <| .op I I (.load I I Y53 I) <| .op I I (.move I I) <| bK h fun x6_1 hx6_1 h => .op I I (.call I K117 I (system_rows_ok _ _ _ _ _ hx6_1)) <| .op I I (.not I I) <| .op I I (.assign I I) <| .nil <| .ret ?_
  cases h
  exact retOne I (.d _)
theorem slices_IndexFunc_LLRow_LRow_ok (n : Nat) (t0 : List (List Row)) (t1 : (List Row) → Option Bool) (F1 : D) (hF1 : ∀ (q0 : List Row) (y : Bool), t1 q0 = some y → Dyn Tryz.prog F1 [.sl 2 (List.map Row.enc q0)] (.bool y)) (r : Int) (h : slices_IndexFunc_LLRow_LRow n t0 t1 = some r) : Pure Tryz.prog 182 [.sl 1 (List.map (fun l => D.sl 2 (List.map Row.enc l)) t0), F1] (.int r) := by
  refine Pure.ot Tryz.func182 I Tryz.ntmps182 I fun A w => .seq <| .region <| .op I I (.assign I I) <| .nil <| .seq <| .seq <| .region <| .op I I (.move I I) <| .op I I (.len I U51 I) <| .op I I (.move I I) <| .nil <| .block <| .loopS [0, 1, 7] (fun (v : Int) => [(8, .d (.int v))]) (fun (v : Int) => []) (.c I <| .c I <| .c I .nil) h ⟨_, I, I, I, I, I, I, I, trivial⟩ (fun rec_8 x8_7 h => ?_)
  refine .seq <| .region <| .op I I (.lss I I I) <| .nil <| .keep [] [0, 1, 7, 8, 9] (.c I <| .c I <| .c I <| .c I <| .c I .nil) I <| .seq <| .condS I h (fun h => ?_) fun h => ?_
  · refine .skip <| .seq <| .block <| .seq <| .region <| .op I I (.move I I) <| .op I I (.assign I I) <| .nil <| .seq <| .region <| .op I I (.move I I) <| .op I I (.move I I) <| .op I I (.move I I) <| bK h fun x14_9 hx14_9 h => .op I I (.idx I I I U51 S49 hx14_9) <| .op I I (.load I I Y49 I) <| bK h fun x16_10 hx16_10 h => .op I I (.dyn I I I (hF1 _ _ hx16_10)) <| .nil <| .condS I h (fun h => ?_) fun h => ?_
    · refine .seq <| .region <| .op I I (.move I I) <| .op I I (.assign I I) <| .nil <| .ret ?_
      cases h
      exact retOne I (.d _)
    · refine .skip <| .region <| .op I I (.add6 I I I) <| .op I I (.move I I) <| .nil ?_
      exact ⟨_, h, ⟨_, I, I, I, I, I, I, I, trivial⟩⟩
  · refine .exit <| .seq <| .region <| .op I I (.assign I I) <| .nil <| .ret ?_
    cases h
    exact retOne I (.d _)
theorem slices_ContainsFunc_LLRow_LRow_ok (n : Nat) (t0 : List (List Row)) (t1 : (List Row) → Option Bool) (F1 : D) (hF1 : ∀ (q0 : List Row) (y : Bool), t1 q0 = some y → Dyn Tryz.prog F1 [.sl 2 (List.map Row.enc q0)] (.bool y)) (r : Bool) (h : slices_ContainsFunc_LLRow_LRow n t0 t1 = some r) : Pure Tryz.prog 119 [.sl 1 (List.map (fun l => D.sl 2 (List.map Row.enc l)) t0), F1] (.bool r) := by
  refine Pure.ot Tryz.func119 I Tryz.ntmps119 I fun A w => .seq <| .region <| .op I I (.assign I I) <| .nil <| .seq <| .region <| .op I I (.move I I) <| .op I I (.move I I) <| bK h fun x7_1 hx7_1 h => .op I I (.call I K182 I (slices_IndexFunc_LLRow_LRow_ok _ _ _ _ hF1 _ hx7_1)) <| .op I I (.geq I I I) <| .op I I (.assign I I) <| .nil <| .ret ?_
  cases h
  exact retOne I (.d _)
set_option maxHeartbeats 2000000 in
theorem system_Valid_ok (n : Nat) (t0 : System) (r : Bool) (h : system_Valid n t0 = some r) : Pure Tryz.prog 64 [System.enc t0] (.bool r) := by
  refine Pure.ot Tryz.func64 I Tryz.ntmps64 I fun A w => .seq <| .region <| .op I I (.box I I) <| .op I I (.assign I I) <| .nil <| .seq <| .seq <| .plain 28 I <| .op I I I I (.fieldAddr I I (G53_0 _)) <| .op I I I I (.load I I Y48 I) <| bK h fun x7_1 hx7_1 h => .op I I I I (.callLe I K115 I (.cons (.refl _) (.cons (.nil _) (.nil))) (interval_Valid_ok _ _ _ _ hx7_1)) <| .op I I I I (.not I I) <| .op I I I I (.move I I) <| gK h fun hc_3 h => .jOr 3 (b2 := ((interval_Empty n t0.box).getD default)) I I I I (.inl I) (fun _ _ _ h1 => by cases h1) I I (fun hb_2 => ?_) ?_
  · refine .gop I I I I I I (.fieldAddr I I (G53_0 _)) <| .gop I I I I I I (.load I I Y48 I) <| .gop I I I I I I (.call I K116 I (interval_Empty_ok _ _ _ (someD (impF hc_3 hb_2)))) ?_
    exact .nil I
  refine .op I I I I (.move I I) <| gK h fun hc_5 h => .jOr 5 (b2 := !((system_rows n t0 t0.rows 1024).getD default)) I I I I (.inl I) (fun _ _ _ h1 => by cases h1) I I (fun hb_4 => ?_) ?_
  · refine .gop I I I I I I (.load I I Y53 I) <| .gop I I I I I I (.fieldAddr I I (G53_1 _)) <| .gop I I I I I I (.load I I Y49 I) <| .gop I I I I I I (.call I K117 I (system_rows_ok _ _ _ _ _ (someD (impF hc_5 hb_4)))) <| .gop I I I I I I (.not I I) ?_
    exact .nil I
  refine .op I I I I (.move I I) <| .jOr 4 (b2 := decide (64 < (t0.graphs.length : Int))) I I I I (.inl I) (fun _ _ _ h1 => by cases h1) I I (fun hb_6 => ?_) ?_
  · refine .gop I I I I I I (.fieldAddr I I (G53_2 _)) <| .gop I I I I I I (.load I I Y50 I) <| .gop I I I I I I (.len I U50 I) <| .gop I I I I I I (.gtr I I I) ?_
    exact .nil I
  refine .op I I I I (.move I I) <| .jOr 4 (b2 := decide (1024 < (t0.cases.length : Int))) I I I I (.inl I) (fun _ _ _ h1 => by cases h1) I I (fun hb_7 => ?_) ?_
  · refine .gop I I I I I I (.fieldAddr I I (G53_3 _)) <| .gop I I I I I I (.load I I Y51 I) <| .gop I I I I I I (.len I U51 I) <| .gop I I I I I I (.gtr I I I) ?_
    exact .nil I
  refine .nil <| .nil <| .keep [] [1, 32] (.c I <| .c I .nil) I <| .condS I h (fun h => ?_) fun h => ?_
  · refine .seq <| .region <| .op I I (.assign I I) <| .nil <| .ret ?_
    cases h
    exact retOne I (.d _)
  · refine .skip <| .seq <| .seq <| .region <| .op I I (.fieldAddr I I (G53_2 _)) <| .op I I (.load I I Y50 I) <| .op I I (.len I U50 I) <| .op I I (.move I I) <| .nil <| .block <| .loopS [1, 34, 35] (fun (v : Int) => [(36, .d (.int v))]) (fun (v : Int) => []) (.c I <| .c I <| .c I .nil) h ⟨_, I, I, I, I, I, I, I, trivial⟩ (fun rec_15 x36_14 h => ?_)
    refine .seq <| .region <| .op I I (.lss I I I) <| .nil <| .keep [] [1, 34, 35, 36, 37] (.c I <| .c I <| .c I <| .c I <| .c I .nil) I <| .seq <| .condS I h (fun h => ?_) fun h => ?_
    · refine .skip <| .seq <| .block <| .seq <| .region <| bK h fun x38_16 hx38_16 h => .op I I (.idx I I I U50 S99 hx38_16) <| .op I I (.load I I Y99 I) <| .allocStore I I I I I I I I (by simp) I I Z99 <| .nil <| .seq <| .region <| .op I I (.fieldAddr I I (G53_0 _)) <| .op I I (.load I I Y48 I) <| .op I I (.len I U48 I) <| .op I I (.load I I Y99 I) <| bK h fun x44_17 hx44_17 h => .op I I (.call I K118 I (system_graph_ok _ _ _ _ hx44_17)) <| .op I I (.not I I) <| .nil <| .condS I h (fun h => ?_) fun h => ?_
      · refine .seq <| .region <| .op I I (.assign I I) <| .nil <| .ret ?_
        cases h
        exact retOne I (.d _)
      · refine .skip <| .region <| .op I I (.add6 I I I) <| .op I I (.move I I) <| .nil ?_
        exact ⟨_, h, ⟨_, I, I, I, I, I, I, I, trivial⟩⟩
    · refine .exit <| .seq <| .region <| .op I I (.fieldAddr I I (G53_3 _)) <| .op I I (.load I I Y51 I) <| .op I I (.makeFunc I I) <| bK h fun x50_18 hx50_18 h => .op I I (.call I K119 I (slices_ContainsFunc_LLRow_LRow_ok _ _ _ _ (fun q0 y hq => ⟨_, _, I, K120, system_Valid_1_ok _ q0 _ _ hq⟩) _ hx50_18)) <| .op I I (.not I I) <| .op I I (.assign I I) <| .nil <| .ret ?_
      cases h
      exact retOne I (.d _)
set_option maxHeartbeats 2000000 in
theorem condition_System_ok (n : Nat) (t0 : Model) (t1 : Question) (t2 : List Int) (r : System × Int) (h : condition_System n t0 t1 t2 = some r) : Pure Tryz.prog 19 [Model.enc t0, Question.enc t1, .sl 1 (List.map D.int t2)] (.tup [System.enc r.1, .int r.2]) := by
  refine Pure.ot Tryz.func19 I Tryz.ntmps19 I fun A w => .seq <| .region <| .op I I (.box I I) <| .op I I (.box I I) <| .allocZ I I I I (.agg Zc53 (ds' := [.sl 2 (List.map Range.enc []), .sl 2 (List.map Row.enc []), .sl 3 (List.map Graph.enc []), .sl 1 (List.map (fun l => D.sl 2 (List.map Row.enc l)) [])]) (.cons (.nil _) (.cons (.nil _) (.cons (.nil _) (.cons (.nil _) (.nil)))))) I <| .op I I (.assign I I) <| .nil <| .seq <| .seq <| .region <| .op I I (.load I I Y30 I) <| .op I I (.load I I Y37 I) <| bK h fun x28_1 hx28_1 h => .op I I (.call I K43 I (symmetry_Valid_ok _ _ _ _ hx28_1)) <| .op I I (.not I I) <| .nil <| .condS I h (fun h => ?_) fun h => ?_
  · refine .seq <| .region <| .op I I (.castD (System.enc (⟨[], [], [], []⟩ : System)) I (.build I Pl53 (.agg Zc53 (ds' := [.sl 2 (List.map Range.enc []), .sl 2 (List.map Row.enc []), .sl 3 (List.map Graph.enc []), .sl 1 (List.map (fun l => D.sl 2 (List.map Row.enc l)) [])]) (.cons (.nil _) (.cons (.nil _) (.cons (.nil _) (.cons (.nil _) (.nil)))))) I I)) <| .store I I I I I I (.ofD I) C53 I (Nat.le_of_ble_eq_true I) <| .op I I (.assign I I) <| .nil <| .ret ?_
    cases h
    exact retCellTmp I I Y53 (.cons (.d _) (.cons (.d _) (.cons (.d _) (.cons (.d _) (.nil))))) I (.d _)
  · refine .skip <| .seq <| .seq <| .region <| .op I I (.move I I) <| .op I I (.len I U22 I) <| .op I I (.move I I) <| .nil <| .block <| .loopS [2, 3, 4, 6, 31, 32] (fun (v : Int) => [(33, .d (.int v))]) (fun (v : Int) => []) (.c I <| .c I <| .c I <| .c I <| .c I <| .c I .nil) h ⟨_, I, I, I, I, I, I, I, I, I, I, trivial⟩ (fun rec_13 x33_12 h => ?_)
    refine .seq <| .region <| .op I I (.lss I I I) <| .nil <| .keep [.box 53 [.d (.sl 2 (List.map Range.enc [])), .d (.sl 2 (List.map Row.enc [])), .d (.sl 3 (List.map Graph.enc [])), .d (.sl 1 (List.map (fun l => D.sl 2 (List.map Row.enc l)) []))]] [2, 3, 4, 6, 31, 32, 33, 34] (.c I <| .c I <| .c I <| .c I <| .c I <| .c I <| .c I <| .c I .nil) I <| .seq <| .condS I h (fun h => ?_) fun h => ?_
    · refine .skip <| .seq <| .block <| .seq <| .region <| bK h fun x35_14 hx35_14 h => .op I I (.idx I I I U22 S3 hx35_14) <| .op I I (.load I I Y3 I) <| .op I I (.assign I I) <| .nil <| .seq <| .plain 18 I <| .op I I I I (.move I I) <| .op I I I I (.lss I I I) <| .op I I I I (.move I I) <| .jOr 5 (b2 := decide ((t0.constraints.length : Int) ≤ x35_14)) I I I I (.inl I) (fun _ _ _ h1 => by cases h1) I I (fun hb_15 => ?_) ?_
      · refine .gop I I I I I I (.move I I) <| .gop I I I I I I (.fieldAddr I I (G30_3 _)) <| .gop I I I I I I (.load I I Y25 I) <| .gop I I I I I I (.len I U25 I) <| .gop I I I I I I (.geq I I I) ?_
        exact .nil I
      refine .op I I I I (.move I I) <| gK h fun hc_17 h => .jOr 7 (b2 := (((idx t0.constraints x35_14).getD default).kind) != 0) I I I I (.inl I) (fun _ _ _ h1 => by cases h1) I I (fun hb_16 => ?_) ?_
      · refine .gop I I I I I I (.fieldAddr I I (G30_3 _)) <| .gop I I I I I I (.load I I Y25 I) <| .gop I I I I I I (.move I I) <| .gop I I I I I I (.idx I I I U25 S78 (someD (impF hc_17 hb_16))) <| .gop I I I I I I (.fieldAddr I I (G78_0 _)) <| .gop I I I I I I (.load I I Y3 I) <| .gop I I I I I I (.neq I I I) ?_
        exact .nil I
      refine .nil <| .nil <| .keep [.box 53 [.d (.sl 2 (List.map Range.enc [])), .d (.sl 2 (List.map Row.enc [])), .d (.sl 3 (List.map Graph.enc [])), .d (.sl 1 (List.map (fun l => D.sl 2 (List.map Row.enc l)) []))]] [2, 3, 4, 6, 31, 32, 33, 54] (.c I <| .c I <| .c I <| .c I <| .c I <| .c I <| .c I <| .c I .nil) I <| .condS I h (fun h => ?_) fun h => ?_
      · refine .seq <| .region <| .op I I (.castD (System.enc (⟨[], [], [], []⟩ : System)) I (.build I Pl53 (.agg Zc53 (ds' := [.sl 2 (List.map Range.enc []), .sl 2 (List.map Row.enc []), .sl 3 (List.map Graph.enc []), .sl 1 (List.map (fun l => D.sl 2 (List.map Row.enc l)) [])]) (.cons (.nil _) (.cons (.nil _) (.cons (.nil _) (.cons (.nil _) (.nil)))))) I I)) <| .store I I I I I I (.ofD I) C53 I (Nat.le_of_ble_eq_true I) <| .op I I (.assign I I) <| .nil <| .ret ?_
        cases h
        exact retCellTmp I I Y53 (.cons (.d _) (.cons (.d _) (.cons (.d _) (.cons (.d _) (.nil))))) I (.d _)
      · refine .skip <| .region <| .op I I (.add6 I I I) <| .op I I (.move I I) <| .nil ?_
        exact ⟨_, h, ⟨_, I, I, I, I, I, I, I, I, I, I, trivial⟩⟩
    · refine .exit <| .seq <| .draw 16 Hm (by kernel_rfl) (by kernel_rfl) <| .op I I I I (.fieldAddr I I (G30_5 _)) <| .op I I I I (.load I I Y27 I) <| .op I I I I (.fieldAddr I I (G37_0 _)) <| .op I I I I (.load I I Y3 I) <| bK h fun x61_18 hx61_18 h => .op I I I I (.idx I I I U27 S84 hx61_18) <| .op I I I I (.load I I Y84 I) <| .op I I I I (.fieldAddr I I (G30_5 _)) <| .op I I I I (.load I I Y27 I) <| .op I I I I (.fieldAddr I I (G37_1 _)) <| .op I I I I (.load I I Y3 I) <| bK h fun x67_19 hx67_19 h => .op I I I I (.idx I I I U27 S84 hx67_19) <| .op I I I I (.load I I Y84 I) <| .alloc I I I I ZZ84 <| .alloc I I I I ZZ84 <| .store I I I I I I Z84 <| .store I I I I I I Z84 <| .nil <| .freezes [1, 2] (.cons (t := 10) (d := .ref (Action.enc x61_18)) I (.loc (inIds I) I (.cons (.d _) (.cons (.d _) (.cons (.d _) (.cons (.d _) (.cons (.d _) (.nil))))))) (.cons (t := 11) (d := .ref (Action.enc x67_19)) I (.loc (inIds I) I (.cons (.d _) (.cons (.d _) (.cons (.d _) (.cons (.d _) (.cons (.d _) (.nil))))))) (.nil))) <| .nil <| .keep [.box 53 [.d (.sl 2 (List.map Range.enc [])), .d (.sl 2 (List.map Row.enc [])), .d (.sl 3 (List.map Graph.enc [])), .d (.sl 1 (List.map (fun l => D.sl 2 (List.map Row.enc l)) []))], .dead, .dead] [2, 3, 4, 6, 10, 11] (.c I <| .c I <| .c I <| .c I <| .c I <| .c I .nil) I <| .seq <| .region <| .op I I (.load I I Y30 I) <| bK h fun x70_20 hx70_20 h => .op I I (.call I K48 I (model_Strict_ok _ _ _ hx70_20)) <| .op I I (.build I Pl53 (.agg Zc53 (ds' := [_, .val (.slice none 0 0), .val (.slice none 0 0), .sl 1 (List.map (fun l => D.sl 2 (List.map Row.enc l)) [])]) (.cons (.refl _) (.cons (.refl _) (.cons (.refl _) (.cons (.nil _) (.nil)))))) I I) <| .allocZ I I I I (.agg Zc53 (ds' := [.sl 2 (List.map Range.enc []), .val (.slice none 0 0), .val (.slice none 0 0), .sl 1 (List.map (fun l => D.sl 2 (List.map Row.enc l)) [])]) (.cons (.nil _) (.cons (.refl _) (.cons (.refl _) (.cons (.nil _) (.nil)))))) I <| .nilCell 3 1 2 33 I I <| .nilCell 3 2 3 99 I I <| .store I I I I I I (.ofD I) C53 I (Nat.le_of_ble_eq_true I) <| .nilCell 3 1 2 33 I I <| .nilCell 3 2 3 99 I I ?_
      refine .nil <| .seq <| .seq <| .region <| .op I I (.fieldAddr I I (G30_3 _)) <| .op I I (.load I I Y25 I) <| .op I I (.len I U25 I) <| .op I I (.move I I) <| .nil <| .block <| .loopS [2, 3, 4, 6, 10, 11, 12, 73, 74] (fun (v : (List Row) × Int) => [(75, .d (.int v.2))]) (fun (v : (List Row) × Int) => [(3, .box 53 [.d (.sl 2 (List.map Range.enc x70_20)), .vec 6 (List.length v.1), .vec 7 (List.length ([] : List Graph)), .d (.sl 1 (List.map (fun l => D.sl 2 (List.map Row.enc l)) []))]), (6, .vec 33 2 (List.map Row.enc v.1))]) (.c I <| .c I <| .c I <| .c I <| .c I <| .c I <| .c I <| .c I <| .c I .nil) h ⟨_, I, I, I, I, I, I, I, I, I, I, I, I, I, trivial⟩ (fun rec_51 v h => ?_)
      obtain ⟨b6_49, x75_50⟩ := v
      refine .seq <| .region <| .op I I (.lss I I I) <| .nil <| .keep [.box 53 [.d (.sl 2 (List.map Range.enc [])), .d (.sl 2 (List.map Row.enc [])), .d (.sl 3 (List.map Graph.enc [])), .d (.sl 1 (List.map (fun l => D.sl 2 (List.map Row.enc l)) []))], .dead, .dead, .box 53 [.d (.sl 2 (List.map Range.enc x70_20)), .vec 6 (List.length b6_49), .vec 7 (List.length ([] : List Graph)), .d (.sl 1 (List.map (fun l => D.sl 2 (List.map Row.enc l)) []))], .vec 33 2 (List.map Row.enc ([] : List Row)), .vec 99 3 (List.map Graph.enc ([] : List Graph)), .vec 33 2 (List.map Row.enc b6_49), .vec 99 3 (List.map Graph.enc ([] : List Graph))] [2, 3, 4, 6, 10, 11, 12, 73, 74, 75, 76] (.c I <| .c I <| .c I <| .c I <| .c I <| .c I <| .c I <| .c I <| .c I <| .c I <| .c I .nil) I <| .seq <| .condS I h (fun h => ?_) fun h => ?_
      · refine .skip <| .join [2, 3, 4, 6, 10, 11, 12, 73, 74, 75] (fun (v : (List Row)) => []) (fun (v : (List Row)) => [(3, .box 53 [.d (.sl 2 (List.map Range.enc x70_20)), .vec 6 (List.length v), .vec 7 (List.length ([] : List Graph)), .d (.sl 1 (List.map (fun l => D.sl 2 (List.map Row.enc l)) []))]), (6, .vec 33 2 (List.map Row.enc v))]) (.c I <| .c I <| .c I <| .c I <| .c I <| .c I <| .c I <| .c I <| .c I <| .c I .nil) h (fun k_53 h => ?_) (fun b6_52 h => ?_)
        · refine .block <| .seq <| .region <| .op I I (.move I I) <| bK h fun x78_54 hx78_54 h => .op I I (.idx I I I U25 S78 hx78_54) <| .op I I (.load I I Y78 I) <| .allocZ I I I I (.agg Zc78 (ds' := [.int 0, .int 0, .sl 2 (List.map Term.enc []), .int 0, .int 0, .int 0]) (.cons (.refl _) (.cons (.refl _) (.cons (.nil _) (.cons (.refl _) (.cons (.refl _) (.cons (.refl _) (.nil)))))))) I <| .op I I (.assign I I) <| .store I I I I I I (.ofD I) C78 I (Nat.le_of_ble_eq_true I) <| .nil <| .seq <| .seq <| .region <| .op I I (.fieldAddrLoc I I I F78_0) <| .op I I (.loadLoc1 I I I Y3 I) <| .op I I (.neq I I I) <| .nil <| .condS I h (fun h => ?_) fun h => ?_
          · refine .exit ?_
            exact ⟨_, h, ⟨_, I, I, I, I, I, I, I, I, I, I, I, I, I, trivial⟩⟩
          · refine .skip <| .seq <| .draw 10 Hm (by kernel_rfl) (by kernel_rfl) <| .op I I I I (.load I I Y84 I) <| .op I I I I (.fieldAddrLoc I I I F78_2) <| .op I I I I (.loadLoc I I I Y33 (Nat.le_of_ble_eq_true I) (v := .d (Row.enc x78_54.row)) I) <| bK h fun x86_55 hx86_55 h => .op I I I I (.call I K40 I (condition_change_ok _ _ _ _ hx86_55)) <| .op I I I I (.load I I Y84 I) <| .op I I I I (.fieldAddrLoc I I I F78_2) <| .op I I I I (.loadLoc I I I Y33 (Nat.le_of_ble_eq_true I) (v := .d (Row.enc x78_54.row)) I) <| bK h fun x90_56 hx90_56 h => .op I I I I (.call I K40 I (condition_change_ok _ _ _ _ hx90_56)) <| .op I I I I (.assign I I) <| .op I I I I (.assign I I) <| .nil <| .nil <| .keep [.box 53 [.d (.sl 2 (List.map Range.enc [])), .d (.sl 2 (List.map Row.enc [])), .d (.sl 3 (List.map Graph.enc [])), .d (.sl 1 (List.map (fun l => D.sl 2 (List.map Row.enc l)) []))], .dead, .dead, .box 53 [.d (.sl 2 (List.map Range.enc x70_20)), .vec 6 (List.length b6_49), .vec 7 (List.length ([] : List Graph)), .d (.sl 1 (List.map (fun l => D.sl 2 (List.map Row.enc l)) []))], .vec 33 2 (List.map Row.enc ([] : List Row)), .vec 99 3 (List.map Graph.enc ([] : List Graph)), .vec 33 2 (List.map Row.enc b6_49), .vec 99 3 (List.map Graph.enc ([] : List Graph)), .box 78 [.d (.int x78_54.kind), .d (.int x78_54.family), .d (.sl 2 (List.map Term.enc x78_54.row.terms)), .d (.int x78_54.row.bound), .d (.int x78_54.first), .d (.int x78_54.size)]] [2, 3, 4, 6, 10, 11, 12, 13, 14, 15, 16, 73, 74, 75] (.c I <| .c I <| .c I <| .c I <| .c I <| .c I <| .c I <| .c I <| .c I <| .c I <| .c I <| .c I <| .c I <| .c I .nil) I <| .seq <| .region <| .op I I (.move I I) <| .op I I (.move I I) <| .op I I (.max3 I I I I) <| .op I I (.assign I I) <| .nil <| .join [2, 3, 4, 6, 10, 11, 12, 14, 73, 74, 75] (fun (v : Int) => [(17, .d (.int v))]) (fun (v : Int) => []) (.c I <| .c I <| .c I <| .c I <| .c I <| .c I <| .c I <| .c I <| .c I <| .c I <| .c I .nil) h (fun k_58 h => ?_) (fun x17_57 h => ?_)
            · refine .seq <| .plain 15 I <| .op I I I I (.move I I) <| .op I I I I (.move I I) <| bK h fun x96_59 hx96_59 h => .op I I I I (.call I K49 I (slices_Contains_Lint_int_ok _ _ _ _ hx96_59)) <| .op I I I I (.move I I) <| .jAnd 10 (b2 := t1.target.hold || (t1.target.index != x75_50)) I I I I (.inl I) (fun _ _ _ h1 => by cases h1) I I (fun hb_60 => ?_) ?_
              · refine .gop I I I I I I (.fieldAddr I I (G37_2 _)) <| .gop I I I I I I (.fieldAddr I I (G35_0 _)) <| .gop I I I I I I (.load I I Y4 I) <| .gop I I I I I I (.move I I) <| .jOr 5 (b2 := t1.target.index != x75_50) I I I I (.inr ⟨_, _, _, I, I, I⟩) (fun _ _ _ h1 h2 => by cases h1; cases h2; decide) I I (fun hb_61 => ?_) ?_
                · refine .gop I I I I I I (.fieldAddr I I (G37_2 _)) <| .gop I I I I I I (.fieldAddr I I (G35_1 _)) <| .gop I I I I I I (.load I I Y3 I) <| .gop I I I I I I (.move I I) <| .gop I I I I I I (.neq I I I) ?_
                  exact .nil I
                exact .nil I
              refine .nil <| .nil <| .keep [.box 53 [.d (.sl 2 (List.map Range.enc [])), .d (.sl 2 (List.map Row.enc [])), .d (.sl 3 (List.map Graph.enc [])), .d (.sl 1 (List.map (fun l => D.sl 2 (List.map Row.enc l)) []))], .dead, .dead, .box 53 [.d (.sl 2 (List.map Range.enc x70_20)), .vec 6 (List.length b6_49), .vec 7 (List.length ([] : List Graph)), .d (.sl 1 (List.map (fun l => D.sl 2 (List.map Row.enc l)) []))], .vec 33 2 (List.map Row.enc ([] : List Row)), .vec 99 3 (List.map Graph.enc ([] : List Graph)), .vec 33 2 (List.map Row.enc b6_49), .vec 99 3 (List.map Graph.enc ([] : List Graph)), .box 78 [.d (.int x78_54.kind), .d (.int x78_54.family), .d (.sl 2 (List.map Term.enc x78_54.row.terms)), .d (.int x78_54.row.bound), .d (.int x78_54.first), .d (.int x78_54.size)]] [2, 3, 4, 6, 10, 11, 12, 14, 15, 16, 17, 73, 74, 75, 108] (.c I <| .c I <| .c I <| .c I <| .c I <| .c I <| .c I <| .c I <| .c I <| .c I <| .c I <| .c I <| .c I <| .c I <| .c I .nil) I <| .condS I h (fun h => ?_) fun h => ?_
              · refine .region <| .op I I (.move I I) <| .op I I (.move I I) <| .op I I (.move I I) <| .op I I (.add6 I I I) <| .op I I (.max2 I I I) <| .op I I (.assign I I) <| .nil ?_
                exact ⟨_, h, ⟨_, I, I, I, I, I, I, I, I, I, I, I, I, I, I, I, trivial⟩⟩
              · refine .skip ?_
                exact ⟨_, h, ⟨_, I, I, I, I, I, I, I, I, I, I, I, I, I, I, I, trivial⟩⟩
            · refine .draw 8 Hm (by kernel_rfl) (by kernel_rfl) <| .op I I I I (.fieldAddrLoc I I I F53_1) <| .op I I I I (.loadLoc1 I I I Y49 I) <| .op I I I I (.fieldAddrLoc I I I F78_2) <| .op I I I I (.loadLoc I I I Y33 (Nat.le_of_ble_eq_true I) (v := .d (Row.enc x78_54.row)) I) <| .op I I I I (.move I I) <| .op I I I I (.call I K52 I (condition_less_fn n x17_57)) <| bK h fun x120_62 hx120_62 h => .op I I I I (.call I K50 I (condition_changed_ok _ _ _ _ _ (fun q0 y hq => ⟨_, _, I, K51, condition_same_ok _ q0 _ hq⟩) _ (fun q0 y hq => ⟨_, _, I, K112, condition_less_1_ok _ q0 _ _ hq⟩) _ hx120_62)) <| .op I I I I (.buildSl [_] I I E49 I (fun _ => I) I (enc := Row.enc)) <| .nil <| bK h fun x122_63 hx122_63 h => .app I I I I I I I I E49 I (fun _ => I) hx122_63 <| .op I I (.fieldAddrLoc I I I F53_1) <| .store I I I I I I (.cons (.vec I (by simp)) .nil) C49 I (Nat.le_of_ble_eq_true I) <| .nil ?_
              exact ⟨_, h, ⟨_, I, I, I, I, I, I, I, I, I, I, I, I, I, trivial⟩⟩
        · refine .region <| .op I I (.add6 I I I) <| .op I I (.move I I) <| .nil ?_
          exact ⟨_, h, ⟨_, I, I, I, I, I, I, I, I, I, I, I, I, I, trivial⟩⟩
      · refine .exit <| .seq <| .region <| .op I I (.fieldAddr I I (G84_2 _)) <| .op I I (.fieldAddr I I (G82_1 _)) <| .op I I (.load I I Y49 I) <| bK h fun x128_64 hx128_64 h => .clone (enc := Row.enc) I I I I K53 Tryz.func53 I I I I E49 I (fun _ => I) (fun _ => I) hx128_64 I I <| .op I I (.assign I I) <| .nil <| .join [3, 4, 6, 10, 11, 12] (fun (v : (List Row)) => [(18, .vec 8 (List.length v))]) (fun (v : (List Row)) => [(8, .vec 33 2 (List.map Row.enc v))]) (.c I <| .c I <| .c I <| .c I <| .c I <| .c I .nil) h (fun k_66 h => ?_) (fun b8_65 h => ?_)
        · refine .seq <| .region <| .op I I (.fieldAddr I I (G37_0 _)) <| .op I I (.load I I Y3 I) <| .op I I (.fieldAddr I I (G37_1 _)) <| .op I I (.load I I Y3 I) <| .op I I (.neq I I I) <| .nil <| .condS I h (fun h => ?_) fun h => ?_
          · refine .region <| .op I I (.move I I) <| .op I I (.fieldAddr I I (G84_2 _)) <| .op I I (.fieldAddr I I (G82_1 _)) <| .op I I (.load I I Y49 I) <| bK h fun x138_67 hx138_67 h => .app I I I I I I I I E49 I (fun _ => I) hx138_67 <| .op I I (.assign I I) <| .nil ?_
            exact ⟨_, h, ⟨_, I, I, I, I, I, I, I, I, I, I, trivial⟩⟩
          · refine .skip ?_
            exact ⟨_, h, ⟨_, I, I, I, I, I, I, I, I, I, I, trivial⟩⟩
        · refine .seq <| .seq <| .region <| .op I I (.move I I) <| .op I I (.lenV I U49 I I I) <| .op I I (.move I I) <| .nil <| .keep [.box 53 [.d (.sl 2 (List.map Range.enc [])), .d (.sl 2 (List.map Row.enc [])), .d (.sl 3 (List.map Graph.enc [])), .d (.sl 1 (List.map (fun l => D.sl 2 (List.map Row.enc l)) []))], .dead, .dead, .box 53 [.d (.sl 2 (List.map Range.enc x70_20)), .vec 6 (List.length b6_49), .vec 7 (List.length ([] : List Graph)), .d (.sl 1 (List.map (fun l => D.sl 2 (List.map Row.enc l)) []))], .vec 33 2 (List.map Row.enc ([] : List Row)), .vec 99 3 (List.map Graph.enc ([] : List Graph)), .vec 33 2 (List.map Row.enc b6_49), .vec 99 3 (List.map Graph.enc ([] : List Graph)), .vec 33 2 (List.map Row.enc b8_65)] [3, 4, 6, 10, 11, 12, 139, 140, 141] (.c I <| .c I <| .c I <| .c I <| .c I <| .c I <| .c I <| .c I <| .c I .nil) I <| .block <| .loopS [3, 4, 6, 10, 11, 12, 139, 140] (fun (v : (List Row) × Int) => [(141, .d (.int v.2))]) (fun (v : (List Row) × Int) => [(3, .box 53 [.d (.sl 2 (List.map Range.enc x70_20)), .vec 6 (List.length v.1), .vec 7 (List.length ([] : List Graph)), .d (.sl 1 (List.map (fun l => D.sl 2 (List.map Row.enc l)) []))]), (6, .vec 33 2 (List.map Row.enc v.1))]) (.c I <| .c I <| .c I <| .c I <| .c I <| .c I <| .c I <| .c I .nil) h ⟨_, I, I, I, I, I, I, I, I, I, I, I, I, trivial⟩ (fun rec_80 v h => ?_)
          obtain ⟨b6_78, x141_79⟩ := v
          refine .seq <| .region <| .op I I (.lss I I I) <| .nil <| .keep [.box 53 [.d (.sl 2 (List.map Range.enc [])), .d (.sl 2 (List.map Row.enc [])), .d (.sl 3 (List.map Graph.enc [])), .d (.sl 1 (List.map (fun l => D.sl 2 (List.map Row.enc l)) []))], .dead, .dead, .box 53 [.d (.sl 2 (List.map Range.enc x70_20)), .vec 6 (List.length b6_78), .vec 7 (List.length ([] : List Graph)), .d (.sl 1 (List.map (fun l => D.sl 2 (List.map Row.enc l)) []))], .vec 33 2 (List.map Row.enc ([] : List Row)), .vec 99 3 (List.map Graph.enc ([] : List Graph)), .vec 33 2 (List.map Row.enc b6_78), .vec 99 3 (List.map Graph.enc ([] : List Graph)), .vec 33 2 (List.map Row.enc b8_65)] [3, 4, 6, 10, 11, 12, 139, 140, 141, 142] (.c I <| .c I <| .c I <| .c I <| .c I <| .c I <| .c I <| .c I <| .c I <| .c I .nil) I <| .seq <| .condS I h (fun h => ?_) fun h => ?_
          · refine .skip <| .seq <| .block <| .seq <| .region <| bK h fun x143_81 hx143_81 h => .op I I (.idxV I I I I I U49 S33 hx143_81) <| .op I I (.loadEl I I I I hx143_81 Y33 I) <| .allocStore I I I I I I I I (by simp) I I Z33 <| .nil <| .draw 5 Hm (by kernel_rfl) (by kernel_rfl) <| .op I I I I (.fieldAddrLoc I I I F53_1) <| .op I I I I (.loadLoc1 I I I Y49 I) <| .op I I I I (.load I I Y33 I) <| bK h fun x148_82 hx148_82 h => .op I I I I (.call I K50 I (condition_changed_ok _ _ _ _ _ (fun q0 y hq => ⟨_, _, I, K51, condition_same_ok _ q0 _ hq⟩) _ (fun q0 y hq => ⟨_, _, I, K51, condition_same_ok _ q0 _ hq⟩) _ hx148_82)) <| .op I I I I (.buildSl [_] I I E49 I (fun _ => I) I (enc := Row.enc)) <| .nil <| bK h fun x150_83 hx150_83 h => .app I I I I I I I I E49 I (fun _ => I) hx150_83 <| .op I I (.fieldAddrLoc I I I F53_1) <| .store I I I I I I (.cons (.vec I (by simp)) .nil) C49 I (Nat.le_of_ble_eq_true I) <| .nil <| .region <| .op I I (.add6 I I I) <| .op I I (.move I I) <| .nil ?_
            exact ⟨_, h, ⟨_, I, I, I, I, I, I, I, I, I, I, I, I, trivial⟩⟩
          · refine .exit <| .seq <| .region <| .op I I (.makeFuncV I I) <| .op I I (.assign I I) <| .nil <| .seq <| .region <| .op I I (.castD (Constraint.enc (⟨0, 0, (⟨[], 0⟩ : Row), 0, 0⟩ : Constraint)) I (.build I Pl78 (.agg Zc78 (ds' := [_, _, .sl 2 (List.map Term.enc []), _, _, _]) (.cons (.refl _) (.cons (.refl _) (.cons (.nil _) (.cons (.refl _) (.cons (.refl _) (.cons (.refl _) (.nil)))))))) I I)) <| .allocZ I I I I (.agg Zc78 (ds' := [.int 0, .int 0, .sl 2 (List.map Term.enc []), .int 0, .int 0, .int 0]) (.cons (.refl _) (.cons (.refl _) (.cons (.nil _) (.cons (.refl _) (.cons (.refl _) (.cons (.refl _) (.nil)))))))) I <| .store I I I I I I (.ofD I) C78 I (Nat.le_of_ble_eq_true I) <| .nil <| .join [3, 4, 6, 10, 11, 12, 22] (fun (v : (List Row) × Int × Int × (List Term) × Int × Int × Int) => []) (fun (v : (List Row) × Int × Int × (List Term) × Int × Int × Int) => [(3, .box 53 [.d (.sl 2 (List.map Range.enc x70_20)), .vec 6 (List.length v.1), .vec 7 (List.length ([] : List Graph)), .d (.sl 1 (List.map (fun l => D.sl 2 (List.map Row.enc l)) []))]), (6, .vec 33 2 (List.map Row.enc v.1)), (9, .box 78 [.d (.int v.2.1), .d (.int v.2.2.1), .d (.sl 2 (List.map Term.enc v.2.2.2.1)), .d (.int v.2.2.2.2.1), .d (.int v.2.2.2.2.2.1), .d (.int v.2.2.2.2.2.2)])]) (.c I <| .c I <| .c I <| .c I <| .c I <| .c I <| .c I .nil) h (fun k_91 h => ?_) (fun v h => ?_)
            · refine .seq <| .region <| .op I I (.fieldAddr I I (G37_2 _)) <| .op I I (.fieldAddr I I (G35_0 _)) <| .op I I (.load I I Y4 I) <| .nil <| .condS I h (fun h => ?_) fun h => ?_
              · refine .seq <| .region <| .op I I (.fieldAddr I I (G84_2 _)) <| .op I I (.fieldAddr I I (G82_1 _)) <| .op I I (.load I I Y49 I) <| .op I I (.fieldAddr I I (G37_2 _)) <| .op I I (.fieldAddr I I (G35_1 _)) <| .op I I (.load I I Y3 I) <| bK h fun x164_92 hx164_92 h => .op I I (.idx I I I U49 S33 hx164_92) <| .op I I (.load I I Y33 I) <| .allocStore I I I I I I I I (by simp) I I Z33 <| .nil <| .keep [.box 53 [.d (.sl 2 (List.map Range.enc [])), .d (.sl 2 (List.map Row.enc [])), .d (.sl 3 (List.map Graph.enc [])), .d (.sl 1 (List.map (fun l => D.sl 2 (List.map Row.enc l)) []))], .dead, .dead, .box 53 [.d (.sl 2 (List.map Range.enc x70_20)), .vec 6 (List.length b6_78), .vec 7 (List.length ([] : List Graph)), .d (.sl 1 (List.map (fun l => D.sl 2 (List.map Row.enc l)) []))], .vec 33 2 (List.map Row.enc ([] : List Row)), .vec 99 3 (List.map Graph.enc ([] : List Graph)), .vec 33 2 (List.map Row.enc b6_78), .vec 99 3 (List.map Graph.enc ([] : List Graph)), .vec 33 2 (List.map Row.enc b8_65), .box 78 [.d (.int 0), .d (.int 0), .d (.sl 2 (List.map Term.enc [])), .d (.int 0), .d (.int 0), .d (.int 0)]] [3, 4, 6, 10, 11, 12, 21, 22, 23] (.c I <| .c I <| .c I <| .c I <| .c I <| .c I <| .c I <| .c I <| .c I .nil) I <| .draw 5 Hm (by kernel_rfl) (by kernel_rfl) <| .op I I I I (.move I I) <| .op I I I I (.load I I Y33 I) <| .op I I I I (.load I I Y84 I) <| .op I I I I (.load I I Y33 I) <| bK h fun x170_93 hx170_93 h => .op I I I I (.call I K40 I (condition_change_ok _ _ _ _ hx170_93)) <| .nil <| .inline (rs := []) I I (.clos I I K54 I) Tryz.func54 I Tryz.ntmps54 I I I I (fun own0 w gh => ?_)
                refine .seq <| .region <| .op I I (.box I I) <| .op I I (.box I I) <| .nil <| .keep [.box 53 [.d (.sl 2 (List.map Range.enc [])), .d (.sl 2 (List.map Row.enc [])), .d (.sl 3 (List.map Graph.enc [])), .d (.sl 1 (List.map (fun l => D.sl 2 (List.map Row.enc l)) []))], .dead, .dead, .box 53 [.d (.sl 2 (List.map Range.enc x70_20)), .vec 6 (List.length b6_78), .vec 7 (List.length ([] : List Graph)), .d (.sl 1 (List.map (fun l => D.sl 2 (List.map Row.enc l)) []))], .vec 33 2 (List.map Row.enc ([] : List Row)), .vec 99 3 (List.map Graph.enc ([] : List Graph)), .vec 33 2 (List.map Row.enc b6_78), .vec 99 3 (List.map Graph.enc ([] : List Graph)), .vec 33 2 (List.map Row.enc b8_65), .box 78 [.d (.int 0), .d (.int 0), .d (.sl 2 (List.map Term.enc [])), .d (.int 0), .d (.int 0), .d (.int 0)]] [2, 3, 4] (.c I <| .c I <| .c I .nil) I <| .draw 6 Hm (by kernel_rfl) (by kernel_rfl) <| .op I I I I (.fieldAddrLoc I I I F53_1) <| .op I I I I (.loadLoc1 I I I Y49 I) <| .op I I I I (.load I I Y33 I) <| .op I I I I (.makeFunc I I) <| bK h fun x9_94 hx9_94 h => .op I I I I (.call I K50 I (condition_changed_ok _ _ _ _ _ (fun q0 y hq => ⟨_, _, I, K55, condition_negated_ok _ q0 _ hq⟩) _ (fun q0 y hq => ⟨_, _, I, K56, condition_System_1_1_ok _ q0 _ _ hq⟩) _ hx9_94)) <| .op I I I I (.buildSl [_] I I E49 I (fun _ => I) I (enc := Row.enc)) <| .nil <| bK h fun x11_95 hx11_95 h => .app I I I I I I I I E49 I (fun _ => I) hx11_95 <| .op I I (.fieldAddrLoc I I I F53_1) <| .store I I I I I I (.cons (.vec I (by simp)) .nil) C49 I (Nat.le_of_ble_eq_true I) <| .nil <| ⟨.inr I, _, I, ?_⟩
                refine .nil ?_
                exact ⟨_, h, ⟨_, I, I, I, I, I, I, I, I, I, I, trivial⟩⟩
              · refine .seq <| .region <| .op I I (.fieldAddr I I (G30_3 _)) <| .op I I (.load I I Y25 I) <| .op I I (.fieldAddr I I (G37_2 _)) <| .op I I (.fieldAddr I I (G35_1 _)) <| .op I I (.load I I Y3 I) <| bK h fun x177_96 hx177_96 h => .op I I (.idx I I I U25 S78 hx177_96) <| .op I I (.load I I Y78 I) <| .store I I I I I I (.ofD I) C78 I (Nat.le_of_ble_eq_true I) <| .nil <| .keep [.box 53 [.d (.sl 2 (List.map Range.enc [])), .d (.sl 2 (List.map Row.enc [])), .d (.sl 3 (List.map Graph.enc [])), .d (.sl 1 (List.map (fun l => D.sl 2 (List.map Row.enc l)) []))], .dead, .dead, .box 53 [.d (.sl 2 (List.map Range.enc x70_20)), .vec 6 (List.length b6_78), .vec 7 (List.length ([] : List Graph)), .d (.sl 1 (List.map (fun l => D.sl 2 (List.map Row.enc l)) []))], .vec 33 2 (List.map Row.enc ([] : List Row)), .vec 99 3 (List.map Graph.enc ([] : List Graph)), .vec 33 2 (List.map Row.enc b6_78), .vec 99 3 (List.map Graph.enc ([] : List Graph)), .vec 33 2 (List.map Row.enc b8_65), .box 78 [.d (.int x177_96.kind), .d (.int x177_96.family), .d (.sl 2 (List.map Term.enc x177_96.row.terms)), .d (.int x177_96.row.bound), .d (.int x177_96.first), .d (.int x177_96.size)]] [3, 4, 6, 10, 11, 12, 21, 22] (.c I <| .c I <| .c I <| .c I <| .c I <| .c I <| .c I <| .c I .nil) I <| .seq <| .region <| .op I I (.fieldAddrLoc I I I F78_0) <| .op I I (.loadLoc1 I I I Y3 I) <| .op I I (.eql I I I) <| .nil <| .condS I h (fun h => ?_) fun h => ?_
                · refine .draw 12 Hm (by kernel_rfl) (by kernel_rfl) <| .op I I I I (.move I I) <| .op I I I I (.fieldAddrLoc I I I F78_2) <| .op I I I I (.loadLoc I I I Y33 (Nat.le_of_ble_eq_true I) (v := .d (Row.enc x177_96.row)) I) <| .op I I I I (.load I I Y84 I) <| .op I I I I (.fieldAddrLoc I I I F78_2) <| .op I I I I (.loadLoc I I I Y33 (Nat.le_of_ble_eq_true I) (v := .d (Row.enc x177_96.row)) I) <| bK h fun x188_97 hx188_97 h => .op I I I I (.call I K40 I (condition_change_ok _ _ _ _ hx188_97)) <| .op I I I I (.load I I Y84 I) <| .op I I I I (.fieldAddrLoc I I I F78_2) <| .op I I I I (.loadLoc I I I Y33 (Nat.le_of_ble_eq_true I) (v := .d (Row.enc x177_96.row)) I) <| bK h fun x192_98 hx192_98 h => .op I I I I (.call I K40 I (condition_change_ok _ _ _ _ hx192_98)) <| .op I I I I (.add6 I I I) <| .nil <| .inline (rs := []) I I (.clos I I K54 I) Tryz.func54 I Tryz.ntmps54 I I I I (fun own0 w gh => ?_)
                  refine .seq <| .region <| .op I I (.box I I) <| .op I I (.box I I) <| .nil <| .keep [.box 53 [.d (.sl 2 (List.map Range.enc [])), .d (.sl 2 (List.map Row.enc [])), .d (.sl 3 (List.map Graph.enc [])), .d (.sl 1 (List.map (fun l => D.sl 2 (List.map Row.enc l)) []))], .dead, .dead, .box 53 [.d (.sl 2 (List.map Range.enc x70_20)), .vec 6 (List.length b6_78), .vec 7 (List.length ([] : List Graph)), .d (.sl 1 (List.map (fun l => D.sl 2 (List.map Row.enc l)) []))], .vec 33 2 (List.map Row.enc ([] : List Row)), .vec 99 3 (List.map Graph.enc ([] : List Graph)), .vec 33 2 (List.map Row.enc b6_78), .vec 99 3 (List.map Graph.enc ([] : List Graph)), .vec 33 2 (List.map Row.enc b8_65), .box 78 [.d (.int x177_96.kind), .d (.int x177_96.family), .d (.sl 2 (List.map Term.enc x177_96.row.terms)), .d (.int x177_96.row.bound), .d (.int x177_96.first), .d (.int x177_96.size)]] [2, 3, 4] (.c I <| .c I <| .c I .nil) I <| .draw 6 Hm (by kernel_rfl) (by kernel_rfl) <| .op I I I I (.fieldAddrLoc I I I F53_1) <| .op I I I I (.loadLoc1 I I I Y49 I) <| .op I I I I (.load I I Y33 I) <| .op I I I I (.makeFunc I I) <| bK h fun x9_99 hx9_99 h => .op I I I I (.call I K50 I (condition_changed_ok _ _ _ _ _ (fun q0 y hq => ⟨_, _, I, K55, condition_negated_ok _ q0 _ hq⟩) _ (fun q0 y hq => ⟨_, _, I, K56, condition_System_1_1_ok _ q0 _ _ hq⟩) _ hx9_99)) <| .op I I I I (.buildSl [_] I I E49 I (fun _ => I) I (enc := Row.enc)) <| .nil <| bK h fun x11_100 hx11_100 h => .app I I I I I I I I E49 I (fun _ => I) hx11_100 <| .op I I (.fieldAddrLoc I I I F53_1) <| .store I I I I I I (.cons (.vec I (by simp)) .nil) C49 I (Nat.le_of_ble_eq_true I) <| .nil <| ⟨.inr I, _, I, ?_⟩
                  refine .nil ?_
                  exact ⟨_, h, ⟨_, I, I, I, I, I, I, I, I, I, I, trivial⟩⟩
                · refine .skip ?_
                  exact ⟨_, h, ⟨_, I, I, I, I, I, I, I, I, I, I, trivial⟩⟩
            · obtain ⟨b6_84, c9_0_85, c9_1_86, c9_2_87, c9_3_88, c9_4_89, c9_5_90⟩ := v
              refine .seq <| .seq <| .region <| .op I I (.fieldAddr I I (G30_3 _)) <| .op I I (.load I I Y25 I) <| .op I I (.len I U25 I) <| .op I I (.move I I) <| .nil <| .keep [.box 53 [.d (.sl 2 (List.map Range.enc [])), .d (.sl 2 (List.map Row.enc [])), .d (.sl 3 (List.map Graph.enc [])), .d (.sl 1 (List.map (fun l => D.sl 2 (List.map Row.enc l)) []))], .dead, .dead, .box 53 [.d (.sl 2 (List.map Range.enc x70_20)), .vec 6 (List.length b6_84), .vec 7 (List.length ([] : List Graph)), .d (.sl 1 (List.map (fun l => D.sl 2 (List.map Row.enc l)) []))], .vec 33 2 (List.map Row.enc ([] : List Row)), .vec 99 3 (List.map Graph.enc ([] : List Graph)), .vec 33 2 (List.map Row.enc b6_84), .vec 99 3 (List.map Graph.enc ([] : List Graph)), .vec 33 2 (List.map Row.enc b8_65), .box 78 [.d (.int c9_0_85), .d (.int c9_1_86), .d (.sl 2 (List.map Term.enc c9_2_87)), .d (.int c9_3_88), .d (.int c9_4_89), .d (.int c9_5_90)]] [4, 6, 10, 11, 12, 22, 196, 197, 198] (.c I <| .c I <| .c I <| .c I <| .c I <| .c I <| .c I <| .c I <| .c I .nil) I <| .block <| .loopS [4, 6, 10, 11, 12, 22, 196, 197] (fun (v : (List Graph) × Int) => [(198, .d (.int v.2))]) (fun (v : (List Graph) × Int) => [(3, .box 53 [.d (.sl 2 (List.map Range.enc x70_20)), .vec 6 (List.length b6_84), .vec 7 (List.length v.1), .d (.sl 1 (List.map (fun l => D.sl 2 (List.map Row.enc l)) []))]), (7, .vec 99 3 (List.map Graph.enc v.1))]) (.c I <| .c I <| .c I <| .c I <| .c I <| .c I <| .c I <| .c I .nil) h ⟨_, I, I, I, I, I, I, I, I, I, I, I, I, trivial⟩ (fun rec_135 v h => ?_)
              obtain ⟨b7_133, x198_134⟩ := v
              refine .seq <| .region <| .op I I (.lss I I I) <| .nil <| .keep [.box 53 [.d (.sl 2 (List.map Range.enc [])), .d (.sl 2 (List.map Row.enc [])), .d (.sl 3 (List.map Graph.enc [])), .d (.sl 1 (List.map (fun l => D.sl 2 (List.map Row.enc l)) []))], .dead, .dead, .box 53 [.d (.sl 2 (List.map Range.enc x70_20)), .vec 6 (List.length b6_84), .vec 7 (List.length b7_133), .d (.sl 1 (List.map (fun l => D.sl 2 (List.map Row.enc l)) []))], .vec 33 2 (List.map Row.enc ([] : List Row)), .vec 99 3 (List.map Graph.enc ([] : List Graph)), .vec 33 2 (List.map Row.enc b6_84), .vec 99 3 (List.map Graph.enc b7_133), .vec 33 2 (List.map Row.enc b8_65), .box 78 [.d (.int c9_0_85), .d (.int c9_1_86), .d (.sl 2 (List.map Term.enc c9_2_87)), .d (.int c9_3_88), .d (.int c9_4_89), .d (.int c9_5_90)]] [4, 6, 10, 11, 12, 22, 196, 197, 198, 199] (.c I <| .c I <| .c I <| .c I <| .c I <| .c I <| .c I <| .c I <| .c I <| .c I .nil) I <| .seq <| .condS I h (fun h => ?_) fun h => ?_
              · refine .skip <| .join [4, 6, 10, 11, 12, 22, 196, 197, 198] (fun (v : (List Graph)) => []) (fun (v : (List Graph)) => [(3, .box 53 [.d (.sl 2 (List.map Range.enc x70_20)), .vec 6 (List.length b6_84), .vec 7 (List.length v), .d (.sl 1 (List.map (fun l => D.sl 2 (List.map Row.enc l)) []))]), (7, .vec 99 3 (List.map Graph.enc v))]) (.c I <| .c I <| .c I <| .c I <| .c I <| .c I <| .c I <| .c I <| .c I .nil) h (fun k_137 h => ?_) (fun b7_136 h => ?_)
                · refine .block <| .seq <| .region <| bK h fun x200_138 hx200_138 h => .op I I (.idx I I I U25 S78 hx200_138) <| .op I I (.load I I Y78 I) <| .allocStore I I I I I I I I (by simp) I I Z78 <| .nil <| .seq <| .seq <| .region <| .op I I (.fieldAddr I I (G78_0 _)) <| .op I I (.load I I Y3 I) <| .op I I (.neq I I I) <| .nil <| .condS I h (fun h => ?_) fun h => ?_
                  · refine .exit ?_
                    exact ⟨_, h, ⟨_, I, I, I, I, I, I, I, I, I, I, I, I, trivial⟩⟩
                  · refine .skip <| .seq <| .draw 5 Hm (by kernel_rfl) (by kernel_rfl) <| .op I I I I (.fieldAddrLoc I I I F53_2) <| .op I I I I (.loadLoc1 I I I Y50 I) <| .op I I I I (.load I I Y78 I) <| bK h fun x208_139 hx208_139 h => .op I I I I (.call I K57 I (condition_graph_ok _ _ _ _ (fun q0 y hq => ⟨_, _, I, K58, condition_System_2_ok _ q0 _ hq⟩) _ hx208_139)) <| .op I I I I (.buildSl [_] I I E50 I (fun _ => I) I (enc := Graph.enc)) <| .nil <| bK h fun x210_140 hx210_140 h => .app I I I I I I I I E50 I (fun _ => I) hx210_140 <| .op I I (.fieldAddrLoc I I I F53_2) <| .store I I I I I I (.cons (.vec I (by simp)) .nil) C50 I (Nat.le_of_ble_eq_true I) <| .nil <| .join [4, 6, 10, 11, 12, 22, 25, 196, 197, 198] (fun (v : (List Graph)) => []) (fun (v : (List Graph)) => [(3, .box 53 [.d (.sl 2 (List.map Range.enc x70_20)), .vec 6 (List.length b6_84), .vec 7 (List.length v), .d (.sl 1 (List.map (fun l => D.sl 2 (List.map Row.enc l)) []))]), (7, .vec 99 3 (List.map Graph.enc v))]) (.c I <| .c I <| .c I <| .c I <| .c I <| .c I <| .c I <| .c I <| .c I <| .c I .nil) h (fun k_142 h => ?_) (fun b7_141 h => ?_)
                    · refine .seq <| .region <| .op I I (.load I I Y84 I) <| .op I I (.load I I Y78 I) <| bK h fun x214_143 hx214_143 h => .op I I (.call I K59 I (condition_raised_ok _ _ _ _ hx214_143)) <| .op I I (.len I U22 I) <| .op I I (.gtr I I I) <| .nil <| .keep [.box 53 [.d (.sl 2 (List.map Range.enc [])), .d (.sl 2 (List.map Row.enc [])), .d (.sl 3 (List.map Graph.enc [])), .d (.sl 1 (List.map (fun l => D.sl 2 (List.map Row.enc l)) []))], .dead, .dead, .box 53 [.d (.sl 2 (List.map Range.enc x70_20)), .vec 6 (List.length b6_84), .vec 7 (List.length x210_140), .d (.sl 1 (List.map (fun l => D.sl 2 (List.map Row.enc l)) []))], .vec 33 2 (List.map Row.enc ([] : List Row)), .vec 99 3 (List.map Graph.enc ([] : List Graph)), .vec 33 2 (List.map Row.enc b6_84), .vec 99 3 (List.map Graph.enc x210_140), .vec 33 2 (List.map Row.enc b8_65), .box 78 [.d (.int c9_0_85), .d (.int c9_1_86), .d (.sl 2 (List.map Term.enc c9_2_87)), .d (.int c9_3_88), .d (.int c9_4_89), .d (.int c9_5_90)]] [4, 6, 10, 11, 12, 22, 25, 196, 197, 198, 216] (.c I <| .c I <| .c I <| .c I <| .c I <| .c I <| .c I <| .c I <| .c I <| .c I <| .c I .nil) I <| .condS I h (fun h => ?_) fun h => ?_
                      · refine .draw 6 Hm (by kernel_rfl) (by kernel_rfl) <| .op I I I I (.fieldAddrLoc I I I F53_2) <| .op I I I I (.loadLoc1 I I I Y50 I) <| .op I I I I (.load I I Y78 I) <| .op I I I I (.makeFunc I I) <| bK h fun x221_144 hx221_144 h => .op I I I I (.call I K57 I (condition_graph_ok _ _ _ _ (fun q0 y hq => ⟨_, _, I, K60, condition_System_3_ok _ q0 _ _ hq⟩) _ hx221_144)) <| .op I I I I (.buildSl [_] I I E50 I (fun _ => I) I (enc := Graph.enc)) <| .nil <| bK h fun x223_145 hx223_145 h => .app I I I I I I I I E50 I (fun _ => I) hx223_145 <| .op I I (.fieldAddrLoc I I I F53_2) <| .store I I I I I I (.cons (.vec I (by simp)) .nil) C50 I (Nat.le_of_ble_eq_true I) <| .nil ?_
                        exact ⟨_, h, ⟨_, I, I, I, I, I, I, I, I, I, I, I, I, I, trivial⟩⟩
                      · refine .skip ?_
                        exact ⟨_, h, ⟨_, I, I, I, I, I, I, I, I, I, I, I, I, I, trivial⟩⟩
                    · refine .seq <| .plain 12 I <| .op I I I I (.fieldAddr I I (G37_0 _)) <| .op I I I I (.load I I Y3 I) <| .op I I I I (.fieldAddr I I (G37_1 _)) <| .op I I I I (.load I I Y3 I) <| .op I I I I (.neq I I I) <| .op I I I I (.move I I) <| gK h fun hc_147 h => .jAnd 5 (b2 := decide (0 < (((condition_raised n x67_19 x200_138).getD default).length : Int))) I I I I (.inl I) (fun _ _ _ h1 => by cases h1) I I (fun hb_146 => ?_) ?_
                      · refine .gop I I I I I I (.load I I Y84 I) <| .gop I I I I I I (.load I I Y78 I) <| .gop I I I I I I (.call I K59 I (condition_raised_ok _ _ _ _ (someD (impT hc_147 hb_146)))) <| .gop I I I I I I (.len I U22 I) <| .gop I I I I I I (.gtr I I I) ?_
                        exact .nil I
                      refine .nil <| .nil <| .keep [.box 53 [.d (.sl 2 (List.map Range.enc [])), .d (.sl 2 (List.map Row.enc [])), .d (.sl 3 (List.map Graph.enc [])), .d (.sl 1 (List.map (fun l => D.sl 2 (List.map Row.enc l)) []))], .dead, .dead, .box 53 [.d (.sl 2 (List.map Range.enc x70_20)), .vec 6 (List.length b6_84), .vec 7 (List.length b7_141), .d (.sl 1 (List.map (fun l => D.sl 2 (List.map Row.enc l)) []))], .vec 33 2 (List.map Row.enc ([] : List Row)), .vec 99 3 (List.map Graph.enc ([] : List Graph)), .vec 33 2 (List.map Row.enc b6_84), .vec 99 3 (List.map Graph.enc b7_141), .vec 33 2 (List.map Row.enc b8_65), .box 78 [.d (.int c9_0_85), .d (.int c9_1_86), .d (.sl 2 (List.map Term.enc c9_2_87)), .d (.int c9_3_88), .d (.int c9_4_89), .d (.int c9_5_90)]] [4, 6, 10, 11, 12, 22, 25, 196, 197, 198, 236] (.c I <| .c I <| .c I <| .c I <| .c I <| .c I <| .c I <| .c I <| .c I <| .c I <| .c I .nil) I <| .condS I h (fun h => ?_) fun h => ?_
                      · refine .draw 6 Hm (by kernel_rfl) (by kernel_rfl) <| .op I I I I (.fieldAddrLoc I I I F53_2) <| .op I I I I (.loadLoc1 I I I Y50 I) <| .op I I I I (.load I I Y78 I) <| .op I I I I (.makeFunc I I) <| bK h fun x241_148 hx241_148 h => .op I I I I (.call I K57 I (condition_graph_ok _ _ _ _ (fun q0 y hq => ⟨_, _, I, K62, condition_System_4_ok _ q0 _ _ hq⟩) _ hx241_148)) <| .op I I I I (.buildSl [_] I I E50 I (fun _ => I) I (enc := Graph.enc)) <| .nil <| bK h fun x243_149 hx243_149 h => .app I I I I I I I I E50 I (fun _ => I) hx243_149 <| .op I I (.fieldAddrLoc I I I F53_2) <| .store I I I I I I (.cons (.vec I (by simp)) .nil) C50 I (Nat.le_of_ble_eq_true I) <| .nil ?_
                        exact ⟨_, h, ⟨_, I, I, I, I, I, I, I, I, I, I, I, I, trivial⟩⟩
                      · refine .skip ?_
                        exact ⟨_, h, ⟨_, I, I, I, I, I, I, I, I, I, I, I, I, trivial⟩⟩
                · refine .region <| .op I I (.add6 I I I) <| .op I I (.move I I) <| .nil ?_
                  exact ⟨_, h, ⟨_, I, I, I, I, I, I, I, I, I, I, I, I, trivial⟩⟩
              · refine .exit <| .seq <| .seq <| .region <| .op I I (.fieldAddrLoc I I I F78_0) <| .op I I (.loadLoc1 I I I Y3 I) <| .op I I (.eql I I I) <| .nil <| .condS I h (fun h => ?_) fun h => ?_
                · refine .seq <| .region ?_
                  cases h
                · refine .skip <| .seq <| .seq <| .region <| .op I I (.loadLoc I I I Y53 (Nat.le_of_ble_eq_true I) I) <| bK h fun x267_150 hx267_150 h => .op I I (.callB I K64 (.cons I (.agg (.cons (.d _) (.cons (.vec I (by simp)) (.cons (.vec I (by simp)) (.cons (.d _) (.nil)))))) (.nil)) I (system_Valid_ok _ _ _ hx267_150)) <| .op I I (.not I I) <| .nil <| .condS I h (fun h => ?_) fun h => ?_
                  · refine .seq <| .region <| .op I I (.castD (System.enc (⟨[], [], [], []⟩ : System)) I (.build I Pl53 (.agg Zc53 (ds' := [.sl 2 (List.map Range.enc []), .sl 2 (List.map Row.enc []), .sl 3 (List.map Graph.enc []), .sl 1 (List.map (fun l => D.sl 2 (List.map Row.enc l)) [])]) (.cons (.nil _) (.cons (.nil _) (.cons (.nil _) (.cons (.nil _) (.nil)))))) I I)) <| .store I I I I I I (.ofD I) C53 I (Nat.le_of_ble_eq_true I) <| .op I I (.assign I I) <| .nil <| .ret ?_
                    cases h
                    exact retCellTmp I I Y53 (.cons (.d _) (.cons (.d _) (.cons (.d _) (.cons (.d _) (.nil))))) I (.d _)
                  · refine .skip <| .seq <| .region <| .op I I (.loadLoc I I I Y53 (Nat.le_of_ble_eq_true I) I) <| .store I I I I I I (.cons (.d I) (.cons (.vec I (by simp)) (.cons (.vec I (by simp)) (.cons (.d I) (.nil))))) C53 I (Nat.le_of_ble_eq_true I) <| .op I I (.assign I I) <| .nil <| .ret ?_
                    cases h
                    exact retCellTmp I I Y53 (.cons (.d _) (.cons (.vec I (by simp)) (.cons (.vec I (by simp)) (.cons (.d _) (.nil))))) I (.d _)
set_option maxHeartbeats 2000000 in
theorem condition_open_ok (n : Nat) (t0 : Model) (t1 : Question) (r : Bool) (h : condition_open n t0 t1 = some r) : Pure Tryz.prog 44 [Model.enc t0, Question.enc t1] (.bool r) := by
  refine Pure.ot Tryz.func44 I Tryz.ntmps44 I fun A w => .seq <| .region <| .op I I (.box I I) <| .op I I (.box I I) <| .op I I (.assign I I) <| .nil <| .seq <| .draw 16 Hm (by kernel_rfl) (by kernel_rfl) <| .op I I I I (.fieldAddr I I (G30_5 _)) <| .op I I I I (.load I I Y27 I) <| .op I I I I (.fieldAddr I I (G37_0 _)) <| .op I I I I (.load I I Y3 I) <| bK h fun x12_1 hx12_1 h => .op I I I I (.idx I I I U27 S84 hx12_1) <| .op I I I I (.load I I Y84 I) <| .op I I I I (.fieldAddr I I (G30_5 _)) <| .op I I I I (.load I I Y27 I) <| .op I I I I (.fieldAddr I I (G37_1 _)) <| .op I I I I (.load I I Y3 I) <| bK h fun x18_2 hx18_2 h => .op I I I I (.idx I I I U27 S84 hx18_2) <| .op I I I I (.load I I Y84 I) <| .alloc I I I I ZZ84 <| .alloc I I I I ZZ84 <| .store I I I I I I Z84 <| .store I I I I I I Z84 <| .nil <| .freezes [0, 1] (.cons (t := 5) (d := .ref (Action.enc x12_1)) I (.loc (inIds I) I (.cons (.d _) (.cons (.d _) (.cons (.d _) (.cons (.d _) (.cons (.d _) (.nil))))))) (.cons (t := 6) (d := .ref (Action.enc x18_2)) I (.loc (inIds I) I (.cons (.d _) (.cons (.d _) (.cons (.d _) (.cons (.d _) (.cons (.d _) (.nil))))))) (.nil))) <| .nil <| .keep [.dead, .dead] [2, 3, 5, 6] (.c I <| .c I <| .c I <| .c I .nil) I <| .seq <| .seq <| .region <| .op I I (.fieldAddr I I (G37_2 _)) <| .op I I (.fieldAddr I I (G35_0 _)) <| .op I I (.load I I Y4 I) <| .nil <| .condS I h (fun h => ?_) fun h => ?_
  · refine .seq <| .draw 12 Hm (by kernel_rfl) (by kernel_rfl) <| .op I I I I (.load I I Y84 I) <| .op I I I I (.fieldAddr I I (G84_2 _)) <| .op I I I I (.fieldAddr I I (G82_1 _)) <| .op I I I I (.load I I Y49 I) <| .op I I I I (.fieldAddr I I (G37_2 _)) <| .op I I I I (.fieldAddr I I (G35_1 _)) <| .op I I I I (.load I I Y3 I) <| bK h fun x30_3 hx30_3 h => .op I I I I (.idx I I I U49 S33 hx30_3) <| .op I I I I (.load I I Y33 I) <| bK h fun x32_4 hx32_4 h => .op I I I I (.call I K40 I (condition_change_ok _ _ _ _ hx32_4)) <| .op I I I I (.gtr I I I) <| .op I I I I (.assign I I) <| .nil <| .nil <| .ret ?_
    cases h
    exact retOne I (.d _)
  · refine .skip <| .seq <| .region <| .op I I (.fieldAddr I I (G30_3 _)) <| .op I I (.load I I Y25 I) <| .op I I (.fieldAddr I I (G37_2 _)) <| .op I I (.fieldAddr I I (G35_1 _)) <| .op I I (.load I I Y3 I) <| bK h fun x39_5 hx39_5 h => .op I I (.idx I I I U25 S78 hx39_5) <| .op I I (.load I I Y78 I) <| .allocStore I I I I I I I I (by simp) I I Z78 <| .nil <| .seq <| .seq <| .region <| .op I I (.fieldAddr I I (G78_0 _)) <| .op I I (.load I I Y3 I) <| .op I I (.eql I I I) <| .nil <| .condS I h (fun h => ?_) fun h => ?_
    · refine .seq <| .plain 12 I <| .op I I I I (.load I I Y84 I) <| .op I I I I (.fieldAddr I I (G78_2 _)) <| .op I I I I (.load I I Y33 I) <| bK h fun x47_6 hx47_6 h => .op I I I I (.call I K40 I (condition_change_ok _ _ _ _ hx47_6)) <| .op I I I I (.gtr I I I) <| .op I I I I (.move I I) <| gK h fun hc_8 h => .jAnd 5 (b2 := decide (0 < ((condition_change n x18_2 x39_5.row).getD default))) I I I I (.inl I) (fun _ _ _ h1 => by cases h1) I I (fun hb_7 => ?_) ?_
      · refine .gop I I I I I I (.load I I Y84 I) <| .gop I I I I I I (.fieldAddr I I (G78_2 _)) <| .gop I I I I I I (.load I I Y33 I) <| .gop I I I I I I (.call I K40 I (condition_change_ok _ _ _ _ (someD (impT hc_8 hb_7)))) <| .gop I I I I I I (.gtr I I I) ?_
        exact .nil I
      refine .nil <| .op I I (.assign I I) <| .nil <| .keep [.dead, .dead] [4] (.c I .nil) I <| .ret ?_
      cases h
      exact retOne I (.d _)
    · refine .skip <| .seq <| .plain 12 I <| .op I I I I (.load I I Y84 I) <| .op I I I I (.load I I Y78 I) <| bK h fun x58_9 hx58_9 h => .op I I I I (.call I K59 I (condition_raised_ok _ _ _ _ hx58_9)) <| .op I I I I (.len I U22 I) <| .op I I I I (.gtr I I I) <| .op I I I I (.move I I) <| gK h fun hc_11 h => .jAnd 5 (b2 := decide (0 < (((condition_raised n x18_2 x39_5).getD default).length : Int))) I I I I (.inl I) (fun _ _ _ h1 => by cases h1) I I (fun hb_10 => ?_) ?_
      · refine .gop I I I I I I (.load I I Y84 I) <| .gop I I I I I I (.load I I Y78 I) <| .gop I I I I I I (.call I K59 I (condition_raised_ok _ _ _ _ (someD (impT hc_11 hb_10)))) <| .gop I I I I I I (.len I U22 I) <| .gop I I I I I I (.gtr I I I) ?_
        exact .nil I
      refine .nil <| .op I I (.assign I I) <| .nil <| .keep [.dead, .dead] [4] (.c I .nil) I <| .ret ?_
      cases h
      exact retOne I (.d _)
theorem condition_Questions_1_ok (n : Nat) (t0 : Question) (t1 : Model) (r : Bool) (h : condition_Questions_1 n t0 t1 = some r) : Pure Tryz.prog 47 [Question.enc t0, .ref (Model.enc t1)] (.bool r) := by
  refine Pure.ot Tryz.func47 I Tryz.ntmps47 I fun A w => .seq <| .region <| .op I I (.box I I) <| .op I I (.assign I I) <| .nil <| .seq <| .region <| .op I I (.load I I Y30 I) <| .op I I (.load I I Y37 I) <| bK h fun x6_1 hx6_1 h => .op I I (.call I K44 I (condition_open_ok _ _ _ _ hx6_1)) <| .op I I (.not I I) <| .op I I (.assign I I) <| .nil <| .ret ?_
  cases h
  exact retOne I (.d _)
theorem slices_IndexFunc_LQuestion_api_Question_ok (n : Nat) (t0 : List Question) (t1 : Question → Option Bool) (F1 : D) (hF1 : ∀ (q0 : Question) (y : Bool), t1 q0 = some y → Dyn Tryz.prog F1 [Question.enc q0] (.bool y)) (r : Int) (h : slices_IndexFunc_LQuestion_api_Question n t0 t1 = some r) : Pure Tryz.prog 109 [.sl 4 (List.map Question.enc t0), F1] (.int r) := by
  refine Pure.ot Tryz.func109 I Tryz.ntmps109 I fun A w => .seq <| .region <| .op I I (.assign I I) <| .nil <| .seq <| .seq <| .region <| .op I I (.move I I) <| .op I I (.len I U46 I) <| .op I I (.move I I) <| .nil <| .block <| .loopS [0, 1, 7] (fun (v : Int) => [(8, .d (.int v))]) (fun (v : Int) => []) (.c I <| .c I <| .c I .nil) h ⟨_, I, I, I, I, I, I, I, trivial⟩ (fun rec_8 x8_7 h => ?_)
  refine .seq <| .region <| .op I I (.lss I I I) <| .nil <| .keep [] [0, 1, 7, 8, 9] (.c I <| .c I <| .c I <| .c I <| .c I .nil) I <| .seq <| .condS I h (fun h => ?_) fun h => ?_
  · refine .skip <| .seq <| .block <| .seq <| .region <| .op I I (.move I I) <| .op I I (.assign I I) <| .nil <| .seq <| .region <| .op I I (.move I I) <| .op I I (.move I I) <| .op I I (.move I I) <| bK h fun x14_9 hx14_9 h => .op I I (.idx I I I U46 S37 hx14_9) <| .op I I (.load I I Y37 I) <| bK h fun x16_10 hx16_10 h => .op I I (.dyn I I I (hF1 _ _ hx16_10)) <| .nil <| .condS I h (fun h => ?_) fun h => ?_
    · refine .seq <| .region <| .op I I (.move I I) <| .op I I (.assign I I) <| .nil <| .ret ?_
      cases h
      exact retOne I (.d _)
    · refine .skip <| .region <| .op I I (.add6 I I I) <| .op I I (.move I I) <| .nil ?_
      exact ⟨_, h, ⟨_, I, I, I, I, I, I, I, trivial⟩⟩
  · refine .exit <| .seq <| .region <| .op I I (.assign I I) <| .nil <| .ret ?_
    cases h
    exact retOne I (.d _)
set_option maxHeartbeats 2000000 in
theorem condition_Questions_ok (n : Nat) (t0 : Model) (r : List Question) (h : condition_Questions n t0 = some r) : Pure Tryz.prog 17 [Model.enc t0] (.sl 4 (List.map Question.enc r)) := by
  refine Pure.ot Tryz.func17 I Tryz.ntmps17 I fun A w => .seq <| .region <| .op I I (.box I I) <| .op I I (.nilS 4 (α := Question) Question.enc I) <| .nil <| .seq <| .seq <| .region <| .op I I (.load I I Y30 I) <| bK h fun x10_1 hx10_1 h => .op I I (.call I K39 I (model_Valid_ok _ _ _ hx10_1)) <| .op I I (.not I I) <| .nil <| .condS I h (fun h => ?_) fun h => ?_
  · refine .seq <| .region <| .op I I (.nilS 4 (α := Question) Question.enc I) <| .nil <| .ret ?_
    cases h
    exact retOne I (.d _)
  · refine .skip <| .seq <| .region <| .op I I (.assign I I) <| .nilVec 3 4 37 I <| .nil <| .seq <| .seq <| .region <| .op I I (.fieldAddr I I (G30_5 _)) <| .op I I (.load I I Y27 I) <| .op I I (.len I U27 I) <| .op I I (.move I I) <| .nil <| .block <| .loopS [1, 14] (fun (v : (List Question) × Int) => [(3, .vec 0 (List.length v.1)), (15, .d (.int v.2))]) (fun (v : (List Question) × Int) => [(0, .vec 37 4 (List.map Question.enc v.1))]) (.c I <| .c I .nil) h ⟨_, I, I, I, I, I, I, I, trivial⟩ (fun rec_982 v h => ?_)
    obtain ⟨b0_980, x15_981⟩ := v
    refine .seq <| .region <| .op I I (.lss I I I) <| .nil <| .keep [.vec 37 4 (List.map Question.enc b0_980)] [1, 3, 14, 15, 16] (.c I <| .c I <| .c I <| .c I <| .c I .nil) I <| .seq <| .condS I h (fun h => ?_) fun h => ?_
    · refine .skip <| .seq <| .block <| .seq <| .region <| .op I I (.move I I) <| .op I I (.assign I I) <| .nil <| .seq <| .region <| .op I I (.fieldAddr I I (G30_5 _)) <| .op I I (.load I I Y27 I) <| .op I I (.len I U27 I) <| .op I I (.move I I) <| .nil <| .block <| .loopS [1, 4, 14, 15, 20] (fun (v : (List Question) × Int) => [(3, .vec 0 (List.length v.1)), (21, .d (.int v.2))]) (fun (v : (List Question) × Int) => [(0, .vec 37 4 (List.map Question.enc v.1))]) (.c I <| .c I <| .c I <| .c I <| .c I .nil) h ⟨_, I, I, I, I, I, I, I, I, I, I, trivial⟩ (fun rec_1309 v h => ?_)
      obtain ⟨b0_1307, x21_1308⟩ := v
      refine .seq <| .region <| .op I I (.lss I I I) <| .nil <| .keep [.vec 37 4 (List.map Question.enc b0_1307)] [1, 3, 4, 14, 15, 20, 21, 22] (.c I <| .c I <| .c I <| .c I <| .c I <| .c I <| .c I <| .c I .nil) I <| .seq <| .condS I h (fun h => ?_) fun h => ?_
      · refine .skip <| .join [1, 4, 14, 15, 20, 21] (fun (v : (List Question)) => [(3, .vec 0 (List.length v))]) (fun (v : (List Question)) => [(0, .vec 37 4 (List.map Question.enc v))]) (.c I <| .c I <| .c I <| .c I <| .c I <| .c I .nil) h (fun k_1311 h => ?_) (fun b0_1310 h => ?_)
        · refine .block <| .seq <| .region <| .op I I (.move I I) <| .op I I (.assign I I) <| .nil <| .seq <| .region <| .op I I (.assign I I) <| .nilVec 6 4 37 I <| .nil <| .seq <| .seq <| .region <| .op I I (.fieldAddr I I (G30_3 _)) <| .op I I (.load I I Y25 I) <| .op I I (.len I U25 I) <| .op I I (.move I I) <| .nil <| .block <| .loopS [1, 3, 4, 5, 14, 15, 20, 21, 26] (fun (v : (List Question) × Int) => [(6, .vec 1 (List.length v.1)), (27, .d (.int v.2))]) (fun (v : (List Question) × Int) => [(1, .vec 37 4 (List.map Question.enc v.1))]) (.c I <| .c I <| .c I <| .c I <| .c I <| .c I <| .c I <| .c I <| .c I .nil) h ⟨_, I, I, I, I, I, I, I, I, I, I, I, I, I, I, trivial⟩ (fun rec_1324 v h => ?_)
          obtain ⟨b1_1322, x27_1323⟩ := v
          refine .seq <| .region <| .op I I (.lss I I I) <| .nil <| .keep [.vec 37 4 (List.map Question.enc b0_1307), .vec 37 4 (List.map Question.enc b1_1322)] [1, 3, 4, 5, 6, 14, 15, 20, 21, 26, 27, 28] (.c I <| .c I <| .c I <| .c I <| .c I <| .c I <| .c I <| .c I <| .c I <| .c I <| .c I <| .c I .nil) I <| .seq <| .condS I h (fun h => ?_) fun h => ?_
          · refine .skip <| .join [1, 3, 4, 5, 14, 15, 20, 21, 26, 27] (fun (v : (List Question)) => [(6, .vec 1 (List.length v))]) (fun (v : (List Question)) => [(1, .vec 37 4 (List.map Question.enc v))]) (.c I <| .c I <| .c I <| .c I <| .c I <| .c I <| .c I <| .c I <| .c I <| .c I .nil) h (fun k_1326 h => ?_) (fun b1_1325 h => ?_)
            · refine .block <| .seq <| .region <| .op I I (.move I I) <| .op I I (.assign I I) <| .nil <| .seq <| .region <| .op I I (.move I I) <| .op I I (.move I I) <| .op I I (.leq I I I) <| .nil <| .condS I h (fun h => ?_) fun h => ?_
              · refine .region <| .op I I (.move I I) <| .op I I (.move I I) <| .op I I (.move I I) <| .op I I (.move I I) <| .op I I (.castD (Target.enc (⟨false, x27_1323⟩ : Target)) I (.build I Pl35 (.agg Zc35 (ds' := [_, _]) (.cons (.refl _) (.cons (.refl _) (.nil)))) I I)) <| .op I I (.castD (Question.enc (⟨x15_981, x21_1308, (⟨false, x27_1323⟩ : Target)⟩ : Question)) I (.build I Pl37 (.agg Zc37 (ds' := [_, _, _, _]) (.cons (.refl _) (.cons (.refl _) (.cons (.refl _) (.cons (.refl _) (.nil)))))) I I)) <| .op I I (.buildSl [_] I I E46 I (fun _ => I) I (enc := Question.enc)) <| bK h fun x40_1327 hx40_1327 h => .app I I I I I I I I E46 I (fun _ => I) hx40_1327 <| .op I I (.assign I I) <| .nil ?_
                exact ⟨_, h, ⟨_, I, I, I, I, I, I, I, I, I, I, I, I, I, I, trivial⟩⟩
              · refine .skip ?_
                exact ⟨_, h, ⟨_, I, I, I, I, I, I, I, I, I, I, I, I, I, I, trivial⟩⟩
            · refine .region <| .op I I (.add6 I I I) <| .op I I (.move I I) <| .nil ?_
              exact ⟨_, h, ⟨_, I, I, I, I, I, I, I, I, I, I, I, I, I, I, trivial⟩⟩
          · refine .exit <| .seq <| .seq <| .region <| .op I I (.fieldAddr I I (G30_5 _)) <| .op I I (.load I I Y27 I) <| .op I I (.move I I) <| bK h fun x45_1328 hx45_1328 h => .op I I (.idx I I I U27 S84 hx45_1328) <| .op I I (.fieldAddr I I (G84_2 _)) <| .op I I (.fieldAddr I I (G82_1 _)) <| .op I I (.load I I Y49 I) <| .op I I (.len I U49 I) <| .op I I (.move I I) <| .nil <| .block <| .loopS [1, 3, 4, 5, 14, 15, 20, 21, 49] (fun (v : (List Question) × Int) => [(6, .vec 1 (List.length v.1)), (50, .d (.int v.2))]) (fun (v : (List Question) × Int) => [(1, .vec 37 4 (List.map Question.enc v.1))]) (.c I <| .c I <| .c I <| .c I <| .c I <| .c I <| .c I <| .c I <| .c I .nil) h ⟨_, I, I, I, I, I, I, I, I, I, I, I, I, I, I, trivial⟩ (fun rec_1337 v h => ?_)
            obtain ⟨b1_1335, x50_1336⟩ := v
            refine .seq <| .region <| .op I I (.lss I I I) <| .nil <| .keep [.vec 37 4 (List.map Question.enc b0_1307), .vec 37 4 (List.map Question.enc b1_1335)] [1, 3, 4, 5, 6, 14, 15, 20, 21, 49, 50, 51] (.c I <| .c I <| .c I <| .c I <| .c I <| .c I <| .c I <| .c I <| .c I <| .c I <| .c I <| .c I .nil) I <| .seq <| .condS I h (fun h => ?_) fun h => ?_
            · refine .skip <| .seq <| .block <| .seq <| .region <| .op I I (.move I I) <| .op I I (.assign I I) <| .nil <| .region <| .op I I (.move I I) <| .op I I (.move I I) <| .op I I (.move I I) <| .op I I (.move I I) <| .op I I (.castD (Target.enc (⟨true, x50_1336⟩ : Target)) I (.build I Pl35 (.agg Zc35 (ds' := [_, _]) (.cons (.refl _) (.cons (.refl _) (.nil)))) I I)) <| .op I I (.castD (Question.enc (⟨x15_981, x21_1308, (⟨true, x50_1336⟩ : Target)⟩ : Question)) I (.build I Pl37 (.agg Zc37 (ds' := [_, _, _, _]) (.cons (.refl _) (.cons (.refl _) (.cons (.refl _) (.cons (.refl _) (.nil)))))) I I)) <| .op I I (.buildSl [_] I I E46 I (fun _ => I) I (enc := Question.enc)) <| bK h fun x60_1338 hx60_1338 h => .app I I I I I I I I E46 I (fun _ => I) hx60_1338 <| .op I I (.assign I I) <| .nil <| .region <| .op I I (.add6 I I I) <| .op I I (.move I I) <| .nil ?_
              exact ⟨_, h, ⟨_, I, I, I, I, I, I, I, I, I, I, I, I, I, I, trivial⟩⟩
            · refine .exit <| .region <| .op I I (.move I I) <| .op I I (.move I I) <| .op I I (.makeFunc I I) <| .inline (rs := [.tmp 4]) I I (.stat I K46 I) Tryz.func46 I Tryz.ntmps46 I I I I (fun own0 w gh => ?_)
              refine .seq <| .region <| .op I I (.nilS 4 (α := Question) Question.enc I) <| .nil <| .keep [.vec 37 4 (List.map Question.enc b0_1307), .vec 37 4 (List.map Question.enc b1_1335)] [0, 1] (.c I <| .c I .nil) I <| .seq <| .region <| .op I I (.move I I) <| .op I I (.move I I) <| bK h fun x10_1340 hx10_1340 h => .op I I (.callB I K109 (.cons I (.vec I (by simp)) (.cons I (.d _) (.nil))) I (slices_IndexFunc_LQuestion_api_Question_ok _ _ _ _ (fun q0 y hq => ⟨_, _, I, K47, condition_Questions_1_ok _ q0 _ _ hq⟩) _ hx10_1340)) <| .op I I (.assign I I) <| .nil <| .seq <| .seq <| .region <| .op I I (.move I I) <| .op I I (.eql I I I) <| .nil <| .condS I h (fun h => ?_) fun h => ?_
              · refine .seq <| .region <| .op I I (.move I I) <| .op I I (.assign I I) <| .nil <| .ret <| ⟨.inl I, _, ⟨_, _, I, I, I⟩, ?_⟩
                refine .freezes [1] (.cons (t := 65) I (.vec (inIds I) I (by simp)) (.nil)) <| bK h fun x66_1342 hx66_1342 h => .app I I I I I I I I E46 I (fun _ => I) hx66_1342 <| .op I I (.assign I I) <| .nil ?_
                exact ⟨_, h, ⟨_, I, I, I, I, I, I, I, I, I, I, trivial⟩⟩
              · refine .skip <| .seq <| .seq <| .region <| .op I I (.move I I) <| .op I I (.add6 I I I) <| .op I I (.assign I I) <| .nil <| .block <| .loopS [1] (fun (v : (List Question) × Int × Int) => [(0, .vec 1 (List.length v.1)), (5, .d (.int v.2.1)), (6, .d (.int v.2.2))]) (fun (v : (List Question) × Int × Int) => [(1, .vec 37 4 (List.map Question.enc v.1))]) (.c I .nil) h ⟨_, I, I, I, I, I, I, I, trivial⟩ (fun rec_1447 v h => ?_)
                obtain ⟨b1_1444, x5_1445, x6_1446⟩ := v
                refine .seq <| .seq <| .region <| .op I I (.move I I) <| .op I I (.move I I) <| .op I I (.lenV I U46 I I I) <| .op I I (.lss I I I) <| .nil <| .keep [.vec 37 4 (List.map Question.enc b0_1307), .vec 37 4 (List.map Question.enc b1_1444)] [0, 1, 5, 6, 19] (.c I <| .c I <| .c I <| .c I <| .c I .nil) I <| .condS I h (fun h => ?_) fun h => ?_
                · refine .skip <| .join [1, 6] (fun (v : (List Question) × Int) => [(0, .vec 1 (List.length v.1)), (5, .d (.int v.2))]) (fun (v : (List Question) × Int) => [(1, .vec 37 4 (List.map Question.enc v.1))]) (.c I <| .c I .nil) h (fun k_1457 h => ?_) (fun v h => ?_)
                  · refine .block <| .seq <| .region <| .op I I (.move I I) <| .op I I (.move I I) <| bK h fun x24_1459 hx24_1459 h => .op I I (.idxV I I I I I U46 S37 hx24_1459) <| .op I I (.loadEl I I I I hx24_1459 Y37 I) <| .allocStore I I I I I I I I (by simp) I I Z37 <| .nil <| .seq <| .region <| .op I I (.move I I) <| .op I I (.load I I Y37 I) <| bK h fun x28_1461 hx28_1461 h => .op I I (.dyn I I I ⟨_, _, I, K47, condition_Questions_1_ok _ _ _ _ hx28_1461⟩) <| .op I I (.not I I) <| .nil <| .condS I h (fun h => ?_) fun h => ?_
                    · refine .seq <| .region <| .op I I (.move I I) <| .op I I (.move I I) <| .op I I (.load I I Y37 I) <| bK h fun x33_1463 hx33_1463 h => .op I I (.idxV I I I I I U46 S37 hx33_1463) <| bK h fun b1_1464 hb1_1464 h => .storeEl (enc := Question.enc) I I I I I I I I I C37 hb1_1464 <| .relen 0 I (sto_len hb1_1464) <| .relen 22 I (sto_len hb1_1464) <| .relen 30 I (sto_len hb1_1464) <| .nil <| .region <| .op I I (.move I I) <| .op I I (.add6 I I I) <| .op I I (.assign I I) <| .nil ?_
                      exact ⟨_, h, ⟨_, I, I, I, I, I, I, I, trivial⟩⟩
                    · refine .skip ?_
                      exact ⟨_, h, ⟨_, I, I, I, I, I, I, I, trivial⟩⟩
                  · obtain ⟨b1_1455, x5_1456⟩ := v
                    refine .region <| .op I I (.move I I) <| .op I I (.add6 I I I) <| .op I I (.assign I I) <| .nil ?_
                    exact ⟨_, h, ⟨_, I, I, I, I, I, I, I, trivial⟩⟩
                · refine .exit <| .seq <| .region <| .op I I (.move I I) <| .op I I (.move I I) <| bK h fun x38_1466 hx38_1466 h => .op I I (.subL I I I I I U46 S37 hx38_1466) <| .clearSub (enc := Question.enc) (l := b1_1444) (⟨0, 0, ⟨false, 0⟩⟩ : Question) I I I E46 I I I (fun _ => I) (.agg Zc37 (ds' := [.int 0, .int 0, .bool false, .int 0]) (.cons (.refl _) (.cons (.refl _) (.cons (.refl _) (.cons (.refl _) (.nil)))))) <| .relen 0 I (copyTo_lenL hx38_1466 (List.replicate (b1_1444.length - x5_1445.toNat) (⟨0, 0, ⟨false, 0⟩⟩ : Question))).symm <| .relen 36 I (copyTo_lenL hx38_1466 (List.replicate (b1_1444.length - x5_1445.toNat) (⟨0, 0, ⟨false, 0⟩⟩ : Question))).symm <| .nil <| .seq <| .region <| .op I I (.move I I) <| .op I I (.move I I) <| bK h fun x41_1468 hx41_1468 h => .op I I (.subH I I I I I U46 S37 hx41_1468) <| .op I I (.assign I I) <| .nil <| .ret <| ⟨.inl I, _, ⟨_, _, I, I, I⟩, ?_⟩
                  refine .freezes [1] (.cons (t := 65) I (.subM (inIds I) I I) (.nil)) <| bK h fun x66_1469 hx66_1469 h => .app I I I I I I I I E46 I (fun _ => I) hx66_1469 <| .op I I (.assign I I) <| .nil ?_
                  exact ⟨_, h, ⟨_, I, I, I, I, I, I, I, I, I, I, trivial⟩⟩
        · refine .region <| .op I I (.add6 I I I) <| .op I I (.move I I) <| .nil ?_
          exact ⟨_, h, ⟨_, I, I, I, I, I, I, I, I, I, I, trivial⟩⟩
      · refine .exit <| .region <| .op I I (.add6 I I I) <| .op I I (.move I I) <| .nil ?_
        exact ⟨_, h, ⟨_, I, I, I, I, I, I, I, trivial⟩⟩
    · refine .exit <| .seq <| .region <| .op I I (.move I I) <| .op I I (.assign I I) <| .nil <| .ret ?_
      cases h
      exact retOne I (.vec I (by simp))
theorem condition_Open_ok (n : Nat) (t0 : Model) (t1 : Question) (r : Bool) (h : condition_Open n t0 t1 = some r) : Pure Tryz.prog 14 [Model.enc t0, Question.enc t1] (.bool r) := by
  refine Pure.ot Tryz.func14 I Tryz.ntmps14 I fun A w => .seq <| .region <| .op I I (.box I I) <| .op I I (.box I I) <| .op I I (.assign I I) <| .nil <| .seq <| .plain 8 I <| .op I I I I (.load I I Y30 I) <| .op I I I I (.load I I Y37 I) <| bK h fun x7_1 hx7_1 h => .op I I I I (.call I K43 I (symmetry_Valid_ok _ _ _ _ hx7_1)) <| .op I I I I (.move I I) <| gK h fun hc_3 h => .jAnd 3 (b2 := ((condition_open n t0 t1).getD default)) I I I I (.inl I) (fun _ _ _ h1 => by cases h1) I I (fun hb_2 => ?_) ?_
  · refine .gop I I I I I I (.load I I Y30 I) <| .gop I I I I I I (.load I I Y37 I) <| .gop I I I I I I (.call I K44 I (condition_open_ok _ _ _ _ (someD (impT hc_3 hb_2)))) ?_
    exact .nil I
  refine .nil <| .op I I (.assign I I) <| .nil <| .ret ?_
  cases h
  exact retOne I (.d _)
theorem condition_Change_ok (n : Nat) (t0 : Model) (t1 : Int) (t2 : Row) (r : Int) (h : condition_Change n t0 t1 t2 = some r) : Pure Tryz.prog 12 [Model.enc t0, .int t1, Row.enc t2] (.int r) := by
  refine Pure.ot Tryz.func12 I Tryz.ntmps12 I fun A w => .seq <| .region <| .op I I (.box I I) <| .op I I (.box I I) <| .op I I (.assign I I) <| .nil <| .seq <| .seq <| .plain 14 I <| .op I I I I (.load I I Y30 I) <| bK h fun x8_1 hx8_1 h => .op I I I I (.call I K39 I (model_Valid_ok _ _ _ hx8_1)) <| .op I I I I (.not I I) <| .op I I I I (.move I I) <| .jOr 2 (b2 := decide (t1 < 0)) I I I I (.inl I) (fun _ _ _ h1 => by cases h1) I I (fun hb_2 => ?_) ?_
  · refine .gop I I I I I I (.move I I) <| .gop I I I I I I (.lss I I I) ?_
    exact .nil I
  refine .op I I I I (.move I I) <| .jOr 5 (b2 := decide ((t0.actions.length : Int) ≤ t1)) I I I I (.inl I) (fun _ _ _ h1 => by cases h1) I I (fun hb_3 => ?_) ?_
  · refine .gop I I I I I I (.move I I) <| .gop I I I I I I (.fieldAddr I I (G30_5 _)) <| .gop I I I I I I (.load I I Y27 I) <| .gop I I I I I I (.len I U27 I) <| .gop I I I I I I (.geq I I I) ?_
    exact .nil I
  refine .nil <| .nil <| .keep [] [1, 3, 5, 20] (.c I <| .c I <| .c I <| .c I .nil) I <| .condS I h (fun h => ?_) fun h => ?_
  · refine .seq <| .region <| .op I I (.assign I I) <| .nil <| .ret ?_
    cases h
    exact retOne I (.d _)
  · refine .skip <| .seq <| .draw 8 Hm (by kernel_rfl) (by kernel_rfl) <| .op I I I I (.fieldAddr I I (G30_5 _)) <| .op I I I I (.load I I Y27 I) <| .op I I I I (.move I I) <| bK h fun x24_4 hx24_4 h => .op I I I I (.idx I I I U27 S84 hx24_4) <| .op I I I I (.load I I Y84 I) <| .op I I I I (.load I I Y33 I) <| bK h fun x27_5 hx27_5 h => .op I I I I (.call I K40 I (condition_change_ok _ _ _ _ hx27_5)) <| .op I I I I (.assign I I) <| .nil <| .nil <| .ret ?_
    cases h
    exact retOne I (.d _)
set_option maxHeartbeats 2000000 in
theorem slices_Equal_LQuestion_api_Question_ok (n : Nat) (t0 : List Question) (t1 : List Question) (r : Bool) (h : slices_Equal_LQuestion_api_Question n t0 t1 = some r) : Pure Tryz.prog 16 [.sl 4 (List.map Question.enc t0), .sl 4 (List.map Question.enc t1)] (.bool r) := by
  refine Pure.ot Tryz.func16 I Tryz.ntmps16 I fun A w => .seq <| .region <| .op I I (.assign I I) <| .nil <| .seq <| .seq <| .region <| .op I I (.move I I) <| .op I I (.len I U46 I) <| .op I I (.move I I) <| .op I I (.len I U46 I) <| .op I I (.neq I I I) <| .nil <| .condS I h (fun h => ?_) fun h => ?_
  · refine .seq <| .region <| .op I I (.assign I I) <| .nil <| .ret ?_
    cases h
    exact retOne I (.d _)
  · refine .skip <| .seq <| .seq <| .region <| .op I I (.move I I) <| .op I I (.len I U46 I) <| .op I I (.move I I) <| .nil <| .block <| .loopS [0, 1, 12] (fun (v : Int) => [(13, .d (.int v))]) (fun (v : Int) => []) (.c I <| .c I <| .c I .nil) h ⟨_, I, I, I, I, I, I, I, trivial⟩ (fun rec_8 x13_7 h => ?_)
    refine .seq <| .region <| .op I I (.lss I I I) <| .nil <| .keep [] [0, 1, 12, 13, 14] (.c I <| .c I <| .c I <| .c I <| .c I .nil) I <| .seq <| .condS I h (fun h => ?_) fun h => ?_
    · refine .skip <| .seq <| .block <| .seq <| .region <| .op I I (.move I I) <| .op I I (.assign I I) <| .nil <| .seq <| .draw 9 Hm (by kernel_rfl) (by kernel_rfl) <| .op I I I I (.move I I) <| .op I I I I (.move I I) <| bK h fun x18_9 hx18_9 h => .op I I I I (.idx I I I U46 S37 hx18_9) <| .op I I I I (.load I I Y37 I) <| .op I I I I (.move I I) <| .op I I I I (.move I I) <| bK h fun x22_10 hx22_10 h => .op I I I I (.idx I I I U46 S37 hx22_10) <| .op I I I I (.load I I Y37 I) <| .op I I I I (.sneq I SE37 I I (xs := Question.vals _) (ys := Question.vals _) I I I I (SQ37 _ _)) <| .nil <| .nil <| .condS I h (fun h => ?_) fun h => ?_
      · refine .seq <| .region <| .op I I (.assign I I) <| .nil <| .ret ?_
        cases h
        exact retOne I (.d _)
      · refine .skip <| .region <| .op I I (.add6 I I I) <| .op I I (.move I I) <| .nil ?_
        exact ⟨_, h, ⟨_, I, I, I, I, I, I, I, trivial⟩⟩
    · refine .exit <| .seq <| .region <| .op I I (.assign I I) <| .nil <| .ret ?_
      cases h
      exact retOne I (.d _)
set_option maxHeartbeats 2000000 in
theorem law22_awake_ok (n : Nat) (r : Bool) (h : law22_awake n = some r) : Pure Tryz.prog 10 [] (.bool r) := by
  refine Pure.ot Tryz.func10 I Tryz.ntmps10 I fun A w => .seq <| .region <| .op I I (.assign I I) <| .nil <| .seq <| .region <| bK h fun x6_1 hx6_1 h => .op I I (.call I K36 I (law22_example_ok _  _ hx6_1)) <| .allocStore I I I I I I I I (by simp) I I Z30 <| .nil <| .seq <| .region <| .op I I (.castD (Target.enc (⟨false, 1⟩ : Target)) I (.build I Pl35 (.agg Zc35 (ds' := [_, _]) (.cons (.refl _) (.cons (.refl _) (.nil)))) I I)) <| .op I I (.castD (Question.enc (⟨0, 0, (⟨false, 1⟩ : Target)⟩ : Question)) I (.build I Pl37 (.agg Zc37 (ds' := [_, _, _, _]) (.cons (.refl _) (.cons (.refl _) (.cons (.refl _) (.cons (.refl _) (.nil)))))) I I)) <| .allocStore I I I I I I I I (by simp) I I Z37 <| .nil <| .seq <| .region <| .op I I (.load I I Y30 I) <| .op I I (.load I I Y37 I) <| bK h fun x12_2 hx12_2 h => .op I I (.callLe I K19 I (.cons (.refl _) (.cons (.refl _) (.cons (.nil _) (.nil)))) (condition_System_ok _ _ _ _ _ hx12_2)) <| .op I I (.move I I) <| .op I I (.extract I I I) <| .op I I (.extract I I I) <| .allocStore I I I I I I I I (by simp) I I Z53 <| .op I I (.assign I I) <| .nil <| .keep [] [1, 2, 3, 4] (.c I <| .c I <| .c I <| .c I .nil) I <| .seq <| .region <| .op I I (.load I I Y30 I) <| bK h fun x16_3 hx16_3 h => .op I I (.call I K17 I (condition_Questions_ok _ _ _ hx16_3)) <| .op I I (.assign I I) <| .nil <| .seq <| .draw 72 Hm (by kernel_rfl) (by kernel_rfl) <| .op I I I I (.move I I) ?_
  refine .op I I I I (.eql I I I) <| .op I I I I (.move I I) <| .jAnd 4 (b2 := (x12_2.1.rows.length : Int) == 3) I I I I (.inl I) (fun _ _ _ h1 => by cases h1) I I (fun hb_4 => ?_) ?_
  · refine .gop I I I I I I (.fieldAddr I I (G53_1 _)) <| .gop I I I I I I (.load I I Y49 I) <| .gop I I I I I I (.len I U49 I) <| .gop I I I I I I (.eql I I I) ?_
    exact .nil I
  refine .op I I I I (.move I I) <| gK h fun hc_6 h => .jAnd 6 (b2 := (((idx x12_2.1.rows 1).getD default).bound) == 1) I I I I (.inl I) (fun _ _ _ h1 => by cases h1) I I (fun hb_5 => ?_) ?_
  · refine .gop I I I I I I (.fieldAddr I I (G53_1 _)) <| .gop I I I I I I (.load I I Y49 I) <| .gop I I I I I I (.idx I I I U49 S33 (someD (impT hc_6 hb_5))) <| .gop I I I I I I (.fieldAddr I I (G33_1 _)) <| .gop I I I I I I (.load I I Y3 I) <| .gop I I I I I I (.eql I I I) ?_
    exact .nil I
  refine .op I I I I (.move I I) <| gK h fun hc_8 h => .jAnd 6 (b2 := (((idx x12_2.1.rows 2).getD default).bound) == 0) I I I I (.inl I) (fun _ _ _ h1 => by cases h1) I I (fun hb_7 => ?_) ?_
  · refine .gop I I I I I I (.fieldAddr I I (G53_1 _)) <| .gop I I I I I I (.load I I Y49 I) <| .gop I I I I I I (.idx I I I U49 S33 (someD (impT hc_8 hb_7))) <| .gop I I I I I I (.fieldAddr I I (G33_1 _)) <| .gop I I I I I I (.load I I Y3 I) <| .gop I I I I I I (.eql I I I) ?_
    exact .nil I
  refine .op I I I I (.move I I) <| gK h fun hc_10 h => .jAnd 7 (b2 := ((((idx x12_2.1.rows 2).getD default).terms).length : Int) == 1) I I I I (.inl I) (fun _ _ _ h1 => by cases h1) I I (fun hb_9 => ?_) ?_
  · refine .gop I I I I I I (.fieldAddr I I (G53_1 _)) <| .gop I I I I I I (.load I I Y49 I) <| .gop I I I I I I (.idx I I I U49 S33 (someD (impT hc_10 hb_9))) <| .gop I I I I I I (.fieldAddr I I (G33_0 _)) <| .gop I I I I I I (.load I I Y31 I) <| .gop I I I I I I (.len I U31 I) <| .gop I I I I I I (.eql I I I) ?_
    exact .nil I
  refine .op I I I I (.move I I) <| gK h fun hc_12 h => gK h fun hc_13 h => .jAnd 9 (b2 := (((idx (((idx x12_2.1.rows 2).getD default).terms) 0).getD default).factor) == (-1)) I I I I (.inl I) (fun _ _ _ h1 => by cases h1) I I (fun hb_11 => ?_) ?_
  · refine .gop I I I I I I (.fieldAddr I I (G53_1 _)) <| .gop I I I I I I (.load I I Y49 I) <| .gop I I I I I I (.idx I I I U49 S33 (someD (impT hc_12 hb_11))) <| .gop I I I I I I (.fieldAddr I I (G33_0 _)) <| .gop I I I I I I (.load I I Y31 I) <| .gop I I I I I I (.idx I I I U31 S41 (someD (impT hc_13 hb_11))) <| .gop I I I I I I (.fieldAddr I I (G41_1 _)) <| .gop I I I I I I (.load I I Y3 I) <| .gop I I I I I I (.eql I I I) ?_
    exact .nil I
  refine .op I I I I (.move I I) <| gK h fun hc_15 h => .jAnd 3 (b2 := ((condition_Open n x6_1 (⟨0, 0, (⟨false, 1⟩ : Target)⟩ : Question)).getD default)) I I I I (.inl I) (fun _ _ _ h1 => by cases h1) I I (fun hb_14 => ?_) ?_
  · refine .gop I I I I I I (.load I I Y30 I) <| .gop I I I I I I (.load I I Y37 I) <| .gop I I I I I I (.call I K14 I (condition_Open_ok _ _ _ _ (someD (impT hc_15 hb_14)))) ?_
    exact .nil I
  refine .op I I I I (.move I I) <| gK h fun hc_17 h => .jAnd 4 (b2 := !((condition_Open n x6_1 (⟨0, 0, (⟨false, 0⟩ : Target)⟩ : Question)).getD default)) I I I I (.inl I) (fun _ _ _ h1 => by cases h1) I I (fun hb_16 => ?_) ?_
  · refine .gop I I I I I I (.load I I Y30 I) <| .gop I I I I I I (.castD (Question.enc (⟨0, 0, (⟨false, 0⟩ : Target)⟩ : Question)) I (.build I Pl37 (.agg Zc37 (ds' := [_, _, _, _]) (.cons (.refl _) (.cons (.refl _) (.cons (.refl _) (.cons (.refl _) (.nil)))))) I I)) <| .gop I I I I I I (.call I K14 I (condition_Open_ok _ _ _ _ (someD (impT hc_17 hb_16)))) <| .gop I I I I I I (.not I I) ?_
    exact .nil I
  refine .op I I I I (.move I I) <| gK h fun hc_19 h => gK h fun hc_20 h => .jAnd 8 (b2 := ((condition_Change n x6_1 0 (((idx x6_1.constraints 0).getD default).row)).getD default) == (-2)) I I I I (.inl I) (fun _ _ _ h1 => by cases h1) I I (fun hb_18 => ?_) ?_
  · refine .gop I I I I I I (.load I I Y30 I) <| .gop I I I I I I (.fieldAddr I I (G30_3 _)) <| .gop I I I I I I (.load I I Y25 I) <| .gop I I I I I I (.idx I I I U25 S78 (someD (impT hc_19 hb_18))) <| .gop I I I I I I (.fieldAddr I I (G78_2 _)) <| .gop I I I I I I (.load I I Y33 I) <| .gop I I I I I I (.call I K12 I (condition_Change_ok _ _ _ _ _ (someD (impT hc_20 hb_18)))) <| .gop I I I I I I (.eql I I I) ?_
    exact .nil I
  refine .op I I I I (.move I I) <| gK h fun hc_22 h => .jAnd 4 (b2 := ((slices_Equal_LQuestion_api_Question n x16_3 [(⟨0, 0, (⟨false, 1⟩ : Target)⟩ : Question)]).getD default)) I I I I (.inl I) (fun _ _ _ h1 => by cases h1) I I (fun hb_21 => ?_) ?_
  · refine .gop I I I I I I (.move I I) <| .gop I I I I I I (.load I I Y37 I) <| .gop I I I I I I (.buildSl [_] I I E46 I (fun _ => I) I (enc := Question.enc)) <| .gop I I I I I I (.call I K16 I (slices_Equal_LQuestion_api_Question_ok _ _ _ _ (someD (impT hc_22 hb_21)))) ?_
    exact .nil I
  refine .op I I I I (.assign I I) <| .nil <| .nil <| .keep [] [0] (.c I .nil) I <| .ret ?_
  cases h
  exact retOne I (.d _)
set_option maxHeartbeats 2000000 in
theorem ref09_Few_ok (n : Nat) (t0 : List Int) (t1 : List Table) (r : Bool) (h : ref09_Few n t0 t1 = some r) : Pure Tryz.prog 92 [.sl 1 (List.map D.int t0), .sl 6 (List.map Table.enc t1)] (.bool r) := by
  refine Pure.ot Tryz.func92 I Tryz.ntmps92 I fun A w => .seq <| .region <| .op I I (.assign I I) <| .nil <| .seq <| .seq <| .region <| .op I I (.assign I I) <| .nil <| .block <| .loopS [0, 1] (fun (v : Int) => [(5, .d (.int v))]) (fun (v : Int) => []) (.c I <| .c I .nil) h ⟨_, I, I, I, I, I, I, trivial⟩ (fun rec_10 x5_9 h => ?_)
  refine .seq <| .seq <| .region <| .op I I (.move I I) <| .op I I (.move I I) <| .op I I (.len I U23 I) <| .op I I (.lss I I I) <| .nil <| .keep [] [0, 1, 5, 9] (.c I <| .c I <| .c I <| .c I .nil) I <| .condS I h (fun h => ?_) fun h => ?_
  · refine .skip <| .seq <| .block <| .seq <| .plain 16 I <| .op I I I I (.move I I) <| .op I I I I (.move I I) <| bK h fun x14_11 hx14_11 h => .op I I I I (.idx I I I U23 S127 hx14_11) <| .op I I I I (.fieldAddr I I (G127_0 _)) <| .op I I I I (.load I I Y9 I) <| .op I I I I (.len_str I U9 I) <| .op I I I I (.gtr I I I) <| .op I I I I (.move I I) <| gK h fun hc_13 h => .jOr 7 (b2 := decide (12 < ((((idx t1 x5_9).getD default).columns).length : Int))) I I I I (.inl I) (fun _ _ _ h1 => by cases h1) I I (fun hb_12 => ?_) ?_
    · refine .gop I I I I I I (.move I I) <| .gop I I I I I I (.move I I) <| .gop I I I I I I (.idx I I I U23 S127 (someD (impF hc_13 hb_12))) <| .gop I I I I I I (.fieldAddr I I (G127_2 _)) <| .gop I I I I I I (.load I I Y22 I) <| .gop I I I I I I (.len I U22 I) <| .gop I I I I I I (.gtr I I I) ?_
      exact .nil I
    refine .nil <| .nil <| .keep [] [0, 1, 5, 27] (.c I <| .c I <| .c I <| .c I .nil) I <| .condS I h (fun h => ?_) fun h => ?_
    · refine .seq <| .region <| .op I I (.assign I I) <| .nil <| .ret ?_
      cases h
      exact retOne I (.d _)
    · refine .skip <| .region <| .op I I (.move I I) <| .op I I (.add6 I I I) <| .op I I (.assign I I) <| .nil ?_
      exact ⟨_, h, ⟨_, I, I, I, I, I, I, trivial⟩⟩
  · refine .exit <| .seq <| .plain 8 I <| .op I I I I (.move I I) <| .op I I I I (.len I U22 I) <| .op I I I I (.leq I I I) <| .op I I I I (.move I I) <| .jAnd 3 (b2 := decide ((t1.length : Int) ≤ 20)) I I I I (.inl I) (fun _ _ _ h1 => by cases h1) I I (fun hb_14 => ?_) ?_
    · refine .gop I I I I I I (.move I I) <| .gop I I I I I I (.len I U23 I) <| .gop I I I I I I (.leq I I I) ?_
      exact .nil I
    refine .nil <| .op I I (.assign I I) <| .nil <| .ret ?_
    cases h
    exact retOne I (.d _)
set_option maxHeartbeats 2000000 in
theorem ref13_Bounded_ok (n : Nat) (t0 : Model) (r : Bool) (h : ref13_Bounded n t0 = some r) : Pure Tryz.prog 37 [Model.enc t0] (.bool r) := by
  refine Pure.ot Tryz.func37 I Tryz.ntmps37 I fun A w => .seq <| .region <| .op I I (.box I I) <| .op I I (.assign I I) <| .nil <| .seq <| .seq <| .plain 48 I <| .op I I I I (.fieldAddr I I (G30_0 _)) <| .op I I I I (.load I I Y22 I) <| .op I I I I (.len I U22 I) <| .op I I I I (.gtr I I I) <| .op I I I I (.move I I) <| .jOr 4 (b2 := decide (6 < (t0.tables.length : Int))) I I I I (.inl I) (fun _ _ _ h1 => by cases h1) I I (fun hb_1 => ?_) ?_
  · refine .gop I I I I I I (.fieldAddr I I (G30_1 _)) <| .gop I I I I I I (.load I I Y23 I) <| .gop I I I I I I (.len I U23 I) <| .gop I I I I I I (.gtr I I I) ?_
    exact .nil I
  refine .op I I I I (.move I I) <| .jOr 4 (b2 := decide (20 < (t0.families.length : Int))) I I I I (.inl I) (fun _ _ _ h1 => by cases h1) I I (fun hb_2 => ?_) ?_
  · refine .gop I I I I I I (.fieldAddr I I (G30_2 _)) <| .gop I I I I I I (.load I I Y24 I) <| .gop I I I I I I (.len I U24 I) <| .gop I I I I I I (.gtr I I I) ?_
    exact .nil I
  refine .op I I I I (.move I I) <| .jOr 4 (b2 := decide (60 < (t0.constraints.length : Int))) I I I I (.inl I) (fun _ _ _ h1 => by cases h1) I I (fun hb_3 => ?_) ?_
  · refine .gop I I I I I I (.fieldAddr I I (G30_3 _)) <| .gop I I I I I I (.load I I Y25 I) <| .gop I I I I I I (.len I U25 I) <| .gop I I I I I I (.gtr I I I) ?_
    exact .nil I
  refine .op I I I I (.move I I) <| .jOr 4 (b2 := decide (8 < (t0.operations.length : Int))) I I I I (.inl I) (fun _ _ _ h1 => by cases h1) I I (fun hb_4 => ?_) ?_
  · refine .gop I I I I I I (.fieldAddr I I (G30_4 _)) <| .gop I I I I I I (.load I I Y26 I) <| .gop I I I I I I (.len I U26 I) <| .gop I I I I I I (.gtr I I I) ?_
    exact .nil I
  refine .op I I I I (.move I I) <| .jOr 4 (b2 := decide (30 < (t0.actions.length : Int))) I I I I (.inl I) (fun _ _ _ h1 => by cases h1) I I (fun hb_5 => ?_) ?_
  · refine .gop I I I I I I (.fieldAddr I I (G30_5 _)) <| .gop I I I I I I (.load I I Y27 I) <| .gop I I I I I I (.len I U27 I) <| .gop I I I I I I (.gtr I I I) ?_
    exact .nil I
  refine .op I I I I (.move I I) <| .jOr 4 (b2 := decide (12 < (t0.hides.length : Int))) I I I I (.inl I) (fun _ _ _ h1 => by cases h1) I I (fun hb_6 => ?_) ?_
  · refine .gop I I I I I I (.fieldAddr I I (G30_6 _)) <| .gop I I I I I I (.load I I Y28 I) <| .gop I I I I I I (.len I U28 I) <| .gop I I I I I I (.gtr I I I) ?_
    exact .nil I
  refine .op I I I I (.move I I) <| gK h fun hc_8 h => .jOr 6 (b2 := !((ref09_Few n t0.sorts t0.tables).getD default)) I I I I (.inl I) (fun _ _ _ h1 => by cases h1) I I (fun hb_7 => ?_) ?_
  · refine .gop I I I I I I (.fieldAddr I I (G30_0 _)) <| .gop I I I I I I (.load I I Y22 I) <| .gop I I I I I I (.fieldAddr I I (G30_1 _)) <| .gop I I I I I I (.load I I Y23 I) <| .gop I I I I I I (.call I K92 I (ref09_Few_ok _ _ _ _ (someD (impF hc_8 hb_7)))) <| .gop I I I I I I (.not I I) ?_
    exact .nil I
  refine .nil <| .nil <| .keep [] [1, 56] (.c I <| .c I .nil) I <| .condS I h (fun h => ?_) fun h => ?_
  · refine .seq <| .region <| .op I I (.assign I I) <| .nil <| .ret ?_
    cases h
    exact retOne I (.d _)
  · refine .skip <| .seq <| .seq <| .region <| .op I I (.assign I I) <| .nil <| .block <| .loopS [1] (fun (v : Int) => [(3, .d (.int v))]) (fun (v : Int) => []) (.c I .nil) h ⟨_, I, I, I, I, I, trivial⟩ (fun rec_14 x3_13 h => ?_)
    refine .seq <| .seq <| .region <| .op I I (.move I I) <| .op I I (.fieldAddr I I (G30_2 _)) <| .op I I (.load I I Y24 I) <| .op I I (.len I U24 I) <| .op I I (.lss I I I) <| .nil <| .keep [] [1, 3, 61] (.c I <| .c I <| .c I .nil) I <| .condS I h (fun h => ?_) fun h => ?_
    · refine .skip <| .seq <| .block <| .seq <| .region <| .op I I (.fieldAddr I I (G30_2 _)) <| .op I I (.load I I Y24 I) <| .op I I (.move I I) <| bK h fun x67_15 hx67_15 h => .op I I (.idx I I I U24 S9 hx67_15) <| .op I I (.load I I Y9 I) <| .op I I (.len_str I U9 I) <| .op I I (.gtr I I I) <| .nil <| .condS I h (fun h => ?_) fun h => ?_
      · refine .seq <| .region <| .op I I (.assign I I) <| .nil <| .ret ?_
        cases h
        exact retOne I (.d _)
      · refine .skip <| .region <| .op I I (.move I I) <| .op I I (.add6 I I I) <| .op I I (.assign I I) <| .nil ?_
        exact ⟨_, h, ⟨_, I, I, I, I, I, trivial⟩⟩
    · refine .exit <| .seq <| .seq <| .region <| .op I I (.assign I I) <| .nil <| .block <| .loopS [1] (fun (v : Int) => [(4, .d (.int v))]) (fun (v : Int) => []) (.c I .nil) h ⟨_, I, I, I, I, I, trivial⟩ (fun rec_21 x4_20 h => ?_)
      refine .seq <| .seq <| .region <| .op I I (.move I I) <| .op I I (.fieldAddr I I (G30_3 _)) <| .op I I (.load I I Y25 I) <| .op I I (.len I U25 I) <| .op I I (.lss I I I) <| .nil <| .keep [] [1, 4, 75] (.c I <| .c I <| .c I .nil) I <| .condS I h (fun h => ?_) fun h => ?_
      · refine .skip <| .seq <| .block <| .seq <| .region <| .op I I (.fieldAddr I I (G30_3 _)) <| .op I I (.load I I Y25 I) <| .op I I (.move I I) <| bK h fun x81_22 hx81_22 h => .op I I (.idx I I I U25 S78 hx81_22) <| .op I I (.fieldAddr I I (G78_2 _)) <| .op I I (.fieldAddr I I (G33_0 _)) <| .op I I (.load I I Y31 I) <| .op I I (.len I U31 I) <| .op I I (.gtr I I I) <| .nil <| .condS I h (fun h => ?_) fun h => ?_
        · refine .seq <| .region <| .op I I (.assign I I) <| .nil <| .ret ?_
          cases h
          exact retOne I (.d _)
        · refine .skip <| .region <| .op I I (.move I I) <| .op I I (.add6 I I I) <| .op I I (.assign I I) <| .nil ?_
          exact ⟨_, h, ⟨_, I, I, I, I, I, trivial⟩⟩
      · refine .exit <| .seq <| .seq <| .region <| .op I I (.assign I I) <| .nil <| .block <| .loopS [1] (fun (v : Int) => [(5, .d (.int v))]) (fun (v : Int) => []) (.c I .nil) h ⟨_, I, I, I, I, I, trivial⟩ (fun rec_32 x5_31 h => ?_)
        refine .seq <| .seq <| .region <| .op I I (.move I I) <| .op I I (.fieldAddr I I (G30_4 _)) <| .op I I (.load I I Y26 I) <| .op I I (.len I U26 I) <| .op I I (.lss I I I) <| .nil <| .keep [] [1, 5, 91] (.c I <| .c I <| .c I .nil) I <| .condS I h (fun h => ?_) fun h => ?_
        · refine .skip <| .seq <| .block <| .seq <| .plain 18 I <| .op I I I I (.fieldAddr I I (G30_4 _)) <| .op I I I I (.load I I Y26 I) <| .op I I I I (.move I I) <| bK h fun x97_33 hx97_33 h => .op I I I I (.idx I I I U26 S129 hx97_33) <| .op I I I I (.fieldAddr I I (G129_0 _)) <| .op I I I I (.load I I Y9 I) <| .op I I I I (.len_str I U9 I) <| .op I I I I (.gtr I I I) <| .op I I I I (.move I I) <| gK h fun hc_35 h => .jOr 8 (b2 := decide (6 < ((((idx t0.operations x5_31).getD default).sorts).length : Int))) I I I I (.inl I) (fun _ _ _ h1 => by cases h1) I I (fun hb_34 => ?_) ?_
          · refine .gop I I I I I I (.fieldAddr I I (G30_4 _)) <| .gop I I I I I I (.load I I Y26 I) <| .gop I I I I I I (.move I I) <| .gop I I I I I I (.idx I I I U26 S129 (someD (impF hc_35 hb_34))) <| .gop I I I I I I (.fieldAddr I I (G129_2 _)) <| .gop I I I I I I (.load I I Y22 I) <| .gop I I I I I I (.len I U22 I) <| .gop I I I I I I (.gtr I I I) ?_
            exact .nil I
          refine .nil <| .nil <| .keep [] [1, 5, 111] (.c I <| .c I <| .c I .nil) I <| .condS I h (fun h => ?_) fun h => ?_
          · refine .seq <| .region <| .op I I (.assign I I) <| .nil <| .ret ?_
            cases h
            exact retOne I (.d _)
          · refine .skip <| .region <| .op I I (.move I I) <| .op I I (.add6 I I I) <| .op I I (.assign I I) <| .nil ?_
            exact ⟨_, h, ⟨_, I, I, I, I, I, trivial⟩⟩
        · refine .exit <| .seq <| .seq <| .region <| .op I I (.assign I I) <| .nil <| .block <| .loopS [1] (fun (v : Int) => [(6, .d (.int v))]) (fun (v : Int) => []) (.c I .nil) h ⟨_, I, I, I, I, I, trivial⟩ (fun rec_63 x6_62 h => ?_)
          refine .seq <| .seq <| .region <| .op I I (.move I I) <| .op I I (.fieldAddr I I (G30_5 _)) <| .op I I (.load I I Y27 I) <| .op I I (.len I U27 I) <| .op I I (.lss I I I) <| .nil <| .keep [] [1, 6, 116] (.c I <| .c I <| .c I .nil) I <| .condS I h (fun h => ?_) fun h => ?_
          · refine .skip <| .seq <| .block <| .seq <| .region <| .op I I (.fieldAddr I I (G30_5 _)) <| .op I I (.load I I Y27 I) <| .op I I (.move I I) <| bK h fun x122_64 hx122_64 h => .op I I (.idx I I I U27 S84 hx122_64) <| .op I I (.fieldAddr I I (G84_2 _)) <| .op I I (.load I I Y82 I) <| .allocStore I I I I I I I I (by simp) I I Z82 <| .nil <| .seq <| .seq <| .plain 26 I <| .op I I I I (.fieldAddr I I (G30_5 _)) <| .op I I I I (.load I I Y27 I) <| .op I I I I (.move I I) <| bK h fun x128_65 hx128_65 h => .op I I I I (.idx I I I U27 S84 hx128_65) <| .op I I I I (.fieldAddr I I (G84_1 _)) <| .op I I I I (.load I I Y22 I) <| .op I I I I (.len I U22 I) <| .op I I I I (.gtr I I I) <| .op I I I I (.move I I) <| .jOr 4 (b2 := decide (20 < (x122_64.effect.delta.length : Int))) I I I I (.inl I) (fun _ _ _ h1 => by cases h1) I I (fun hb_66 => ?_) ?_
            · refine .gop I I I I I I (.fieldAddr I I (G82_0 _)) <| .gop I I I I I I (.load I I Y79 I) <| .gop I I I I I I (.len I U79 I) <| .gop I I I I I I (.gtr I I I) ?_
              exact .nil I
            refine .op I I I I (.move I I) <| .jOr 4 (b2 := decide (10 < (x122_64.effect.hold.length : Int))) I I I I (.inl I) (fun _ _ _ h1 => by cases h1) I I (fun hb_67 => ?_) ?_
            · refine .gop I I I I I I (.fieldAddr I I (G82_1 _)) <| .gop I I I I I I (.load I I Y49 I) <| .gop I I I I I I (.len I U49 I) <| .gop I I I I I I (.gtr I I I) ?_
              exact .nil I
            refine .op I I I I (.move I I) <| .jOr 4 (b2 := decide (40 < (x122_64.effect.updates.length : Int))) I I I I (.inl I) (fun _ _ _ h1 => by cases h1) I I (fun hb_68 => ?_) ?_
            · refine .gop I I I I I I (.fieldAddr I I (G82_2 _)) <| .gop I I I I I I (.load I I Y80 I) <| .gop I I I I I I (.len I U80 I) <| .gop I I I I I I (.gtr I I I) ?_
              exact .nil I
            refine .nil <| .nil <| .keep [] [1, 6, 7, 150] (.c I <| .c I <| .c I <| .c I .nil) I <| .condS I h (fun h => ?_) fun h => ?_
            · refine .seq <| .region <| .op I I (.assign I I) <| .nil <| .ret ?_
              cases h
              exact retOne I (.d _)
            · refine .skip <| .seq <| .region <| .op I I (.assign I I) <| .nil <| .block <| .loopS [1, 6, 7] (fun (v : Int) => [(8, .d (.int v))]) (fun (v : Int) => []) (.c I <| .c I <| .c I .nil) h ⟨_, I, I, I, I, I, I, I, trivial⟩ (fun rec_74 x8_73 h => ?_)
              refine .seq <| .seq <| .region <| .op I I (.move I I) <| .op I I (.fieldAddr I I (G82_1 _)) <| .op I I (.load I I Y49 I) <| .op I I (.len I U49 I) <| .op I I (.lss I I I) <| .nil <| .keep [] [1, 6, 7, 8, 155] (.c I <| .c I <| .c I <| .c I <| .c I .nil) I <| .condS I h (fun h => ?_) fun h => ?_
              · refine .skip <| .seq <| .block <| .seq <| .region <| .op I I (.fieldAddr I I (G82_1 _)) <| .op I I (.load I I Y49 I) <| .op I I (.move I I) <| bK h fun x161_75 hx161_75 h => .op I I (.idx I I I U49 S33 hx161_75) <| .op I I (.fieldAddr I I (G33_0 _)) <| .op I I (.load I I Y31 I) <| .op I I (.len I U31 I) <| .op I I (.gtr I I I) <| .nil <| .condS I h (fun h => ?_) fun h => ?_
                · refine .seq <| .region <| .op I I (.assign I I) <| .nil <| .ret ?_
                  cases h
                  exact retOne I (.d _)
                · refine .skip <| .region <| .op I I (.move I I) <| .op I I (.add6 I I I) <| .op I I (.assign I I) <| .nil ?_
                  exact ⟨_, h, ⟨_, I, I, I, I, I, I, I, trivial⟩⟩
              · refine .exit <| .region <| .op I I (.move I I) <| .op I I (.add6 I I I) <| .op I I (.assign I I) <| .nil ?_
                exact ⟨_, h, ⟨_, I, I, I, I, I, trivial⟩⟩
          · refine .exit <| .seq <| .region <| .op I I (.assign I I) <| .nil <| .ret ?_
            cases h
            exact retOne I (.d _)
theorem ref09_sound_ok (n : Nat) (t0 : List Int) (r : Bool) (h : ref09_sound n t0 = some r) : Pure Tryz.prog 161 [.sl 1 (List.map D.int t0)] (.bool r) := by
  refine Pure.ot Tryz.func161 I Tryz.ntmps161 I fun A w => .seq <| .region <| .op I I (.assign I I) <| .nil <| .seq <| .seq <| .region <| .op I I (.assign I I) <| .nil <| .block <| .loopS [0] (fun (v : Int) => [(3, .d (.int v))]) (fun (v : Int) => []) (.c I .nil) h ⟨_, I, I, I, I, I, trivial⟩ (fun rec_10 x3_9 h => ?_)
  refine .seq <| .seq <| .region <| .op I I (.move I I) <| .op I I (.move I I) <| .op I I (.len I U22 I) <| .op I I (.lss I I I) <| .nil <| .keep [] [0, 3, 7] (.c I <| .c I <| .c I .nil) I <| .condS I h (fun h => ?_) fun h => ?_
  · refine .skip <| .seq <| .block <| .seq <| .plain 12 I <| .op I I I I (.move I I) <| .op I I I I (.move I I) <| bK h fun x12_11 hx12_11 h => .op I I I I (.idx I I I U22 S3 hx12_11) <| .op I I I I (.load I I Y3 I) <| .op I I I I (.lss I I I) <| .op I I I I (.move I I) <| gK h fun hc_13 h => .jOr 5 (b2 := decide (6 < ((idx t0 x3_9).getD default))) I I I I (.inl I) (fun _ _ _ h1 => by cases h1) I I (fun hb_12 => ?_) ?_
    · refine .gop I I I I I I (.move I I) <| .gop I I I I I I (.move I I) <| .gop I I I I I I (.idx I I I U22 S3 (someD (impF hc_13 hb_12))) <| .gop I I I I I I (.load I I Y3 I) <| .gop I I I I I I (.gtr I I I) ?_
      exact .nil I
    refine .nil <| .nil <| .condS I h (fun h => ?_) fun h => ?_
    · refine .seq <| .region <| .op I I (.assign I I) <| .nil <| .ret ?_
      cases h
      exact retOne I (.d _)
    · refine .skip <| .region <| .op I I (.move I I) <| .op I I (.add6 I I I) <| .op I I (.assign I I) <| .nil ?_
      exact ⟨_, h, ⟨_, I, I, I, I, I, trivial⟩⟩
  · refine .exit <| .seq <| .region <| .op I I (.assign I I) <| .nil <| .ret ?_
    cases h
    exact retOne I (.d _)
set_option maxHeartbeats 2000000 in
theorem ref09_number_ok (n : Nat) (t0 : List Int) (t1 : List Int) (r : Int) (h : ref09_number n t0 t1 = some r) : Pure Tryz.prog 140 [.sl 1 (List.map D.int t0), .sl 1 (List.map D.int t1)] (.int r) := by
  refine Pure.ot Tryz.func140 I Tryz.ntmps140 I fun A w => .seq <| .region <| .op I I (.assign I I) <| .nil <| .seq <| .seq <| .plain 8 I <| .op I I I I (.move I I) <| .op I I I I (.len I U22 I) <| .op I I I I (.gtr I I I) <| .op I I I I (.move I I) <| gK h fun hc_2 h => .jOr 3 (b2 := !((ref09_sound n t0).getD default)) I I I I (.inl I) (fun _ _ _ h1 => by cases h1) I I (fun hb_1 => ?_) ?_
  · refine .gop I I I I I I (.move I I) <| .gop I I I I I I (.call I K161 I (ref09_sound_ok _ _ _ (someD (impF hc_2 hb_1)))) <| .gop I I I I I I (.not I I) ?_
    exact .nil I
  refine .nil <| .nil <| .condS I h (fun h => ?_) fun h => ?_
  · refine .seq <| .region <| .op I I (.assign I I) <| .nil <| .ret ?_
    cases h
    exact retOne I (.d _)
  · refine .skip <| .seq <| .region <| .op I I (.assign I I) <| .nil <| .seq <| .seq <| .region <| .op I I (.assign I I) <| .nil <| .block <| .loopS [0, 1] (fun (v : Int × Int) => [(5, .d (.int v.1)), (6, .d (.int v.2))]) (fun (v : Int × Int) => []) (.c I <| .c I .nil) h ⟨_, I, I, I, I, I, I, I, trivial⟩ (fun rec_19 v h => ?_)
    obtain ⟨x5_17, x6_18⟩ := v
    refine .seq <| .seq <| .region <| .op I I (.move I I) <| .op I I (.move I I) <| .op I I (.len I U22 I) <| .op I I (.lss I I I) <| .nil <| .keep [] [0, 1, 5, 6, 18] (.c I <| .c I <| .c I <| .c I <| .c I .nil) I <| .condS I h (fun h => ?_) fun h => ?_
    · refine .skip <| .seq <| .block <| .seq <| .seq <| .plain 14 I <| .op I I I I (.move I I) <| .op I I I I (.move I I) <| bK h fun x23_20 hx23_20 h => .op I I I I (.idx I I I U22 S3 hx23_20) <| .op I I I I (.load I I Y3 I) <| .op I I I I (.lss I I I) <| .op I I I I (.move I I) <| gK h fun hc_22 h => .jOr 7 (b2 := decide ((t0.length : Int) ≤ ((idx t1 x6_18).getD default))) I I I I (.inl I) (fun _ _ _ h1 => by cases h1) I I (fun hb_21 => ?_) ?_
      · refine .gop I I I I I I (.move I I) <| .gop I I I I I I (.move I I) <| .gop I I I I I I (.idx I I I U22 S3 (someD (impF hc_22 hb_21))) <| .gop I I I I I I (.load I I Y3 I) <| .gop I I I I I I (.move I I) <| .gop I I I I I I (.len I U22 I) <| .gop I I I I I I (.geq I I I) ?_
        exact .nil I
      refine .nil <| .nil <| .condS I h (fun h => ?_) fun h => ?_
      · refine .seq <| .region <| .op I I (.assign I I) <| .nil <| .ret ?_
        cases h
        exact retOne I (.d _)
      · refine .skip <| .region <| .op I I (.move I I) <| .op I I (.move I I) <| .op I I (.move I I) <| .op I I (.move I I) <| bK h fun x39_23 hx39_23 h => .op I I (.idx I I I U22 S3 hx39_23) <| .op I I (.load I I Y3 I) <| bK h fun x41_24 hx41_24 h => .op I I (.idx I I I U22 S3 hx41_24) <| .op I I (.load I I Y3 I) <| .op I I (.mul6 I I I) <| .op I I (.assign I I) <| .nil <| .keep [] [0, 1, 5, 6] (.c I <| .c I <| .c I <| .c I .nil) I <| .region <| .op I I (.move I I) <| .op I I (.add6 I I I) <| .op I I (.assign I I) <| .nil ?_
        exact ⟨_, h, ⟨_, I, I, I, I, I, I, I, trivial⟩⟩
    · refine .exit <| .seq <| .region <| .op I I (.move I I) <| .op I I (.assign I I) <| .nil <| .ret ?_
      cases h
      exact retOne I (.d _)
theorem ref02_white_ok (n : Nat) (t0 : Int) (r : Bool) (h : ref02_white n t0 = some r) : Pure Tryz.prog 259 [.val (.int .u8 t0)] (.bool r) := by
  refine Pure.ot Tryz.func259 I Tryz.ntmps259 I fun A w => .seq <| .region <| .op I I (.assign I I) <| .nil <| .seq <| .plain 14 I <| .op I I I I (.move I I) <| .op I I I I (.eql I I I) <| .op I I I I (.move I I) <| .jOr 2 (b2 := t0 == 10) I I I I (.inl I) (fun _ _ _ h1 => by cases h1) I I (fun hb_1 => ?_) ?_
  · refine .gop I I I I I I (.move I I) <| .gop I I I I I I (.eql I I I) ?_
    exact .nil I
  refine .op I I I I (.move I I) <| .jOr 2 (b2 := t0 == 13) I I I I (.inl I) (fun _ _ _ h1 => by cases h1) I I (fun hb_2 => ?_) ?_
  · refine .gop I I I I I I (.move I I) <| .gop I I I I I I (.eql I I I) ?_
    exact .nil I
  refine .op I I I I (.move I I) <| .jOr 2 (b2 := t0 == 32) I I I I (.inl I) (fun _ _ _ h1 => by cases h1) I I (fun hb_3 => ?_) ?_
  · refine .gop I I I I I I (.move I I) <| .gop I I I I I I (.eql I I I) ?_
    exact .nil I
  refine .nil <| .op I I (.assign I I) <| .nil <| .keep [] [2] (.c I .nil) I <| .ret ?_
  cases h
  exact retOne I (.d _)
set_option maxHeartbeats 2000000 in
theorem ref02_skip_ok (n : Nat) (t0 : List UInt8) (t1 : Int) (r : Int) (h : ref02_skip n t0 t1 = some r) : Pure Tryz.prog 248 [.str t0, .int t1] (.int r) := by
  refine Pure.ot Tryz.func248 I Tryz.ntmps248 I fun A w => .seq <| .region <| .op I I (.assign I I) <| .nil <| .seq <| .block <| .loopS [0] (fun (v : Int) => [(1, .d (.int v))]) (fun (v : Int) => []) (.c I .nil) h ⟨_, I, I, I, I, I, trivial⟩ (fun rec_36 x1_35 h => ?_)
  refine .seq <| .seq <| .plain 16 I <| .op I I I I (.move I I) <| .op I I I I (.move I I) <| .op I I I I (.len_str I U9 I) <| .op I I I I (.lss I I I) <| .op I I I I (.move I I) <| gK h fun hc_38 h => gK h fun hc_39 h => gK h fun hc_41 h => .jAnd 10 (b2 := ((ref02_white n ((sidx t0 x1_35).getD default)).getD default) || (((sidx t0 x1_35).getD default) == 35)) I I I I (.inl I) (fun _ _ _ h1 => by cases h1) I I (fun hb_37 => ?_) ?_
  · refine .gop I I I I I I (.move I I) <| .gop I I I I I I (.move I I) <| .gop I I I I I I (.sidx I I I U9 (someD (impT hc_38 hb_37))) <| .gop I I I I I I (.call I K259 I (ref02_white_ok _ _ _ (someD (impT hc_39 hb_37)))) <| .gop I I I I I I (.move I I) <| .jOr 4 (b2 := ((sidx t0 x1_35).getD default) == 35) I I I I (.inr ⟨_, _, _, I, I, I⟩) (fun _ _ _ h1 h2 => by cases h1; cases h2; decide) I I (fun hb_40 => ?_) ?_
    · refine .gop I I I I I I (.move I I) <| .gop I I I I I I (.move I I) <| .gop I I I I I I (.sidx I I I U9 (someD (impF (impT hc_41 hb_37) hb_40))) <| .gop I I I I I I (.eql I I I) ?_
      exact .nil I
    exact .nil I
  refine .nil <| .nil <| .keep [] [0, 1, 20] (.c I <| .c I <| .c I .nil) I <| .condS I h (fun h => ?_) fun h => ?_
  · refine .skip <| .block <| .seq <| .region <| .op I I (.move I I) <| .op I I (.move I I) <| bK h fun x23_42 hx23_42 h => .op I I (.sidx I I I U9 hx23_42) <| .op I I (.eql I I I) <| .nil <| .condS I h (fun h => ?_) fun h => ?_
    · refine .block <| .loopS [0] (fun (v : Int) => [(1, .d (.int v))]) (fun (v : Int) => []) (.c I .nil) h ⟨_, I, I, I, I, I, trivial⟩ (fun rec_50 x1_49 h => ?_)
      refine .seq <| .seq <| .plain 10 I <| .op I I I I (.move I I) <| .op I I I I (.move I I) <| .op I I I I (.len_str I U9 I) <| .op I I I I (.lss I I I) <| .op I I I I (.move I I) <| gK h fun hc_52 h => .jAnd 4 (b2 := ((sidx t0 x1_49).getD default) != 10) I I I I (.inl I) (fun _ _ _ h1 => by cases h1) I I (fun hb_51 => ?_) ?_
      · refine .gop I I I I I I (.move I I) <| .gop I I I I I I (.move I I) <| .gop I I I I I I (.sidx I I I U9 (someD (impT hc_52 hb_51))) <| .gop I I I I I I (.neq I I I) ?_
        exact .nil I
      refine .nil <| .nil <| .keep [] [0, 1, 34] (.c I <| .c I <| .c I .nil) I <| .condS I h (fun h => ?_) fun h => ?_
      · refine .skip <| .block <| .region <| .op I I (.move I I) <| .op I I (.add6 I I I) <| .op I I (.assign I I) <| .nil ?_
        exact ⟨_, h, ⟨_, I, I, I, I, I, trivial⟩⟩
      · refine .exit ?_
        exact ⟨_, h, ⟨_, I, I, I, I, I, trivial⟩⟩
    · refine .region <| .op I I (.move I I) <| .op I I (.add6 I I I) <| .op I I (.assign I I) <| .nil ?_
      exact ⟨_, h, ⟨_, I, I, I, I, I, trivial⟩⟩
  · refine .exit <| .seq <| .region <| .op I I (.move I I) <| .op I I (.assign I I) <| .nil <| .ret ?_
    cases h
    exact retOne I (.d _)
theorem ref02_letter_ok (n : Nat) (t0 : Int) (r : Bool) (h : ref02_letter n t0 = some r) : Pure Tryz.prog 260 [.val (.int .u8 t0)] (.bool r) := by
  refine Pure.ot Tryz.func260 I Tryz.ntmps260 I fun A w => .seq <| .region <| .op I I (.assign I I) <| .nil <| .seq <| .plain 6 I <| .op I I I I (.move I I) <| .op I I I I (.geq I I I) <| .op I I I I (.move I I) <| .jAnd 2 (b2 := decide (t0 ≤ 122)) I I I I (.inl I) (fun _ _ _ h1 => by cases h1) I I (fun hb_1 => ?_) ?_
  · refine .gop I I I I I I (.move I I) <| .gop I I I I I I (.leq I I I) ?_
    exact .nil I
  refine .nil <| .op I I (.assign I I) <| .nil <| .ret ?_
  cases h
  exact retOne I (.d _)
theorem ref02_digit_ok (n : Nat) (t0 : Int) (r : Bool) (h : ref02_digit n t0 = some r) : Pure Tryz.prog 261 [.val (.int .u8 t0)] (.bool r) := by
  refine Pure.ot Tryz.func261 I Tryz.ntmps261 I fun A w => .seq <| .region <| .op I I (.assign I I) <| .nil <| .seq <| .plain 6 I <| .op I I I I (.move I I) <| .op I I I I (.geq I I I) <| .op I I I I (.move I I) <| .jAnd 2 (b2 := decide (t0 ≤ 57)) I I I I (.inl I) (fun _ _ _ h1 => by cases h1) I I (fun hb_1 => ?_) ?_
  · refine .gop I I I I I I (.move I I) <| .gop I I I I I I (.leq I I I) ?_
    exact .nil I
  refine .nil <| .op I I (.assign I I) <| .nil <| .ret ?_
  cases h
  exact retOne I (.d _)
theorem ref02_Keywords_ok (n : Nat) (r : List (List UInt8)) (h : ref02_Keywords n = some r) : Pure Tryz.prog 262 [] (.sl 1 (List.map D.str r)) := by
  refine Pure.ot Tryz.func262 I Tryz.ntmps262 I fun A w => .seq <| .region <| .op I I (.nilS 1 (α := List UInt8) D.str I) <| .nil <| .seq <| .region <| .op I I (.buildSl [_, _, _, _, _, _, _, _, _, _, _, _, _, _, _, _, _, _, _, _, _, _, _, _, _, _, _, _, _, _, _, _, _, _, _] I I E24 I (fun _ => I) I (enc := D.str)) <| .op I I (.assign I I) <| .nil <| .ret ?_
  cases h
  exact retOne I (.d _)
theorem ref02_Has_ok (n : Nat) (t0 : List (List UInt8)) (t1 : List UInt8) (r : Bool) (h : ref02_Has n t0 t1 = some r) : Pure Tryz.prog 163 [.sl 1 (List.map D.str t0), .str t1] (.bool r) := by
  refine Pure.ot Tryz.func163 I Tryz.ntmps163 I fun A w => .seq <| .region <| .op I I (.assign I I) <| .nil <| .seq <| .seq <| .region <| .op I I (.assign I I) <| .nil <| .block <| .loopS [0, 1] (fun (v : Int) => [(5, .d (.int v))]) (fun (v : Int) => []) (.c I <| .c I .nil) h ⟨_, I, I, I, I, I, I, trivial⟩ (fun rec_6 x5_5 h => ?_)
  refine .seq <| .seq <| .region <| .op I I (.move I I) <| .op I I (.move I I) <| .op I I (.len I U24 I) <| .op I I (.lss I I I) <| .nil <| .keep [] [0, 1, 5, 9] (.c I <| .c I <| .c I <| .c I .nil) I <| .condS I h (fun h => ?_) fun h => ?_
  · refine .skip <| .seq <| .block <| .seq <| .region <| .op I I (.move I I) <| .op I I (.move I I) <| bK h fun x14_7 hx14_7 h => .op I I (.idx I I I U24 S9 hx14_7) <| .op I I (.load I I Y9 I) <| .op I I (.move I I) <| .op I I (.str_eql I I I) <| .nil <| .condS I h (fun h => ?_) fun h => ?_
    · refine .seq <| .region <| .op I I (.assign I I) <| .nil <| .ret ?_
      cases h
      exact retOne I (.d _)
    · refine .skip <| .region <| .op I I (.move I I) <| .op I I (.add6 I I I) <| .op I I (.assign I I) <| .nil ?_
      exact ⟨_, h, ⟨_, I, I, I, I, I, I, trivial⟩⟩
  · refine .exit <| .seq <| .region <| .op I I (.assign I I) <| .nil <| .ret ?_
    cases h
    exact retOne I (.d _)
theorem ref02_Symbols_ok (n : Nat) (r : List (List UInt8)) (h : ref02_Symbols n = some r) : Pure Tryz.prog 269 [] (.sl 1 (List.map D.str r)) := by
  refine Pure.ot Tryz.func269 I Tryz.ntmps269 I fun A w => .seq <| .region <| .op I I (.nilS 1 (α := List UInt8) D.str I) <| .nil <| .seq <| .region <| .op I I (.buildSl [_, _, _, _, _, _, _, _, _, _, _, _, _, _, _, _, _, _] I I E24 I (fun _ => I) I (enc := D.str)) <| .op I I (.assign I I) <| .nil <| .ret ?_
  cases h
  exact retOne I (.d _)
set_option maxHeartbeats 2000000 in
theorem ref02_symbol_ok (n : Nat) (t0 : List UInt8) (t1 : Int) (r : Int) (h : ref02_symbol n t0 t1 = some r) : Pure Tryz.prog 263 [.str t0, .int t1] (.int r) := by
  refine Pure.ot Tryz.func263 I Tryz.ntmps263 I fun A w => .seq <| .region <| .op I I (.assign I I) <| .nil <| .seq <| .region <| bK h fun x8_1 hx8_1 h => .op I I (.call I K269 I (ref02_Symbols_ok _  _ hx8_1)) <| .op I I (.assign I I) <| .nil <| .seq <| .seq <| .region <| .op I I (.assign I I) <| .nil <| .block <| .loopS [0, 1, 5] (fun (v : Int) => [(6, .d (.int v))]) (fun (v : Int) => []) (.c I <| .c I <| .c I .nil) h ⟨_, I, I, I, I, I, I, I, trivial⟩ (fun rec_13 x6_12 h => ?_)
  refine .seq <| .seq <| .region <| .op I I (.move I I) <| .op I I (.move I I) <| .op I I (.len I U24 I) <| .op I I (.lss I I I) <| .nil <| .keep [] [0, 1, 5, 6, 12] (.c I <| .c I <| .c I <| .c I <| .c I .nil) I <| .condS I h (fun h => ?_) fun h => ?_
  · refine .skip <| .seq <| .block <| .seq <| .region <| .op I I (.move I I) <| .op I I (.move I I) <| bK h fun x17_14 hx17_14 h => .op I I (.idx I I I U24 S9 hx17_14) <| .op I I (.load I I Y9 I) <| .op I I (.len_str I U9 I) <| .op I I (.assign I I) <| .nil <| .seq <| .draw 19 Hm (by kernel_rfl) (by kernel_rfl) <| .op I I I I (.move I I) <| .op I I I I (.move I I) <| .op I I I I (.add6 I I I) <| .op I I I I (.move I I) <| .op I I I I (.len_str I U9 I) <| .op I I I I (.leq I I I) <| .op I I I I (.move I I) <| gK h fun hc_16 h => gK h fun hc_17 h => .jAnd 11 (b2 := decide (((cut t0 t1 (add64 t1 (x17_14.length : Int))).getD default) = ((idx x8_1 x6_12).getD default))) I I I I (.inl I) (fun _ _ _ h1 => by cases h1) I I (fun hb_15 => ?_) ?_
    · refine .gop I I I I I I (.move I I) <| .gop I I I I I I (.move I I) <| .gop I I I I I I (.move I I) <| .gop I I I I I I (.move I I) <| .gop I I I I I I (.add6 I I I) <| .gop I I I I I I (.cutStrLH I I I I U9 (someD (impT hc_16 hb_15))) <| .gop I I I I I I (.move I I) <| .gop I I I I I I (.move I I) <| .gop I I I I I I (.idx I I I U24 S9 (someD (impT hc_17 hb_15))) <| .gop I I I I I I (.load I I Y9 I) <| .gop I I I I I I (.str_eql I I I) ?_
      exact .nil I
    refine .nil <| .nil <| .keep [] [0, 1, 5, 6, 7, 38] (.c I <| .c I <| .c I <| .c I <| .c I <| .c I .nil) I <| .condS I h (fun h => ?_) fun h => ?_
    · refine .seq <| .region <| .op I I (.move I I) <| .op I I (.assign I I) <| .nil <| .ret ?_
      cases h
      exact retOne I (.d _)
    · refine .skip <| .region <| .op I I (.move I I) <| .op I I (.add6 I I I) <| .op I I (.assign I I) <| .nil ?_
      exact ⟨_, h, ⟨_, I, I, I, I, I, I, I, trivial⟩⟩
  · refine .exit <| .seq <| .region <| .op I I (.assign I I) <| .nil <| .ret ?_
    cases h
    exact retOne I (.d _)
set_option maxHeartbeats 2000000 in
theorem ref02_token_ok (n : Nat) (t0 : List UInt8) (t1 : Int) (r : Int × Int) (h : ref02_token n t0 t1 = some r) : Pure Tryz.prog 249 [.str t0, .int t1] (.tup [.int r.1, .int r.2]) := by
  refine Pure.ot Tryz.func249 I Tryz.ntmps249 I fun A w => .seq <| .region <| .op I I (.assign I I) <| .op I I (.assign I I) <| .nil <| .seq <| .region <| .op I I (.move I I) <| .op I I (.assign I I) <| .nil <| .seq <| .seq <| .region <| .op I I (.move I I) <| .op I I (.move I I) <| bK h fun x11_1 hx11_1 h => .op I I (.sidx I I I U9 hx11_1) <| bK h fun x12_2 hx12_2 h => .op I I (.call I K260 I (ref02_letter_ok _ _ _ hx12_2)) <| .nil <| .condS I h (fun h => ?_) fun h => ?_
  · refine .seq <| .block <| .loopS [0, 1] (fun (v : Int) => [(6, .d (.int v))]) (fun (v : Int) => []) (.c I <| .c I .nil) h ⟨_, I, I, I, I, I, I, trivial⟩ (fun rec_22 x6_21 h => ?_)
    refine .seq <| .seq <| .plain 22 I <| .op I I I I (.move I I) <| .op I I I I (.move I I) <| .op I I I I (.len_str I U9 I) <| .op I I I I (.lss I I I) <| .op I I I I (.move I I) <| gK h fun hc_24 h => gK h fun hc_25 h => gK h fun hc_27 h => gK h fun hc_28 h => gK h fun hc_30 h => .jAnd 16 (b2 := (((ref02_letter n ((sidx t0 x6_21).getD default)).getD default) || ((ref02_digit n ((sidx t0 x6_21).getD default)).getD default)) || (((sidx t0 x6_21).getD default) == 95)) I I I I (.inl I) (fun _ _ _ h1 => by cases h1) I I (fun hb_23 => ?_) ?_
    · refine .gop I I I I I I (.move I I) <| .gop I I I I I I (.move I I) <| .gop I I I I I I (.sidx I I I U9 (someD (impT hc_24 hb_23))) <| .gop I I I I I I (.call I K260 I (ref02_letter_ok _ _ _ (someD (impT hc_25 hb_23)))) <| .gop I I I I I I (.move I I) <| .jOr 4 (b2 := ((ref02_digit n ((sidx t0 x6_21).getD default)).getD default)) I I I I (.inr ⟨_, _, _, I, I, I⟩) (fun _ _ _ h1 h2 => by cases h1; cases h2; decide) I I (fun hb_26 => ?_) ?_
      · refine .gop I I I I I I (.move I I) <| .gop I I I I I I (.move I I) <| .gop I I I I I I (.sidx I I I U9 (someD (impF (impT hc_27 hb_23) hb_26))) <| .gop I I I I I I (.call I K261 I (ref02_digit_ok _ _ _ (someD (impF (impT hc_28 hb_23) hb_26)))) ?_
        exact .nil I
      refine .gop I I I I I I (.move I I) <| .jOr 4 (b2 := ((sidx t0 x6_21).getD default) == 95) I I I I (.inr ⟨_, _, _, I, I, I⟩) (fun _ _ _ h1 h2 => by cases h1; cases h2; decide) I I (fun hb_29 => ?_) ?_
      · refine .gop I I I I I I (.move I I) <| .gop I I I I I I (.move I I) <| .gop I I I I I I (.sidx I I I U9 (someD (impF (impT hc_30 hb_23) hb_29))) <| .gop I I I I I I (.eql I I I) ?_
        exact .nil I
      exact .nil I
    refine .nil <| .nil <| .keep [] [0, 1, 6, 34] (.c I <| .c I <| .c I <| .c I .nil) I <| .condS I h (fun h => ?_) fun h => ?_
    · refine .skip <| .block <| .region <| .op I I (.move I I) <| .op I I (.add6 I I I) <| .op I I (.assign I I) <| .nil ?_
      exact ⟨_, h, ⟨_, I, I, I, I, I, I, trivial⟩⟩
    · refine .exit <| .seq <| .seq <| .draw 6 Hm (by kernel_rfl) (by kernel_rfl) <| bK h fun x37_31 hx37_31 h => .op I I I I (.call I K262 I (ref02_Keywords_ok _  _ hx37_31)) <| .op I I I I (.move I I) <| .op I I I I (.move I I) <| .op I I I I (.move I I) <| bK h fun x41_32 hx41_32 h => .op I I I I (.cutStrLH I I I I U9 hx41_32) <| bK h fun x42_33 hx42_33 h => .op I I I I (.call I K163 I (ref02_Has_ok _ _ _ _ hx42_33)) <| .nil <| .nil <| .condS I h (fun h => ?_) fun h => ?_
      · refine .seq <| .region <| .op I I (.move I I) <| .op I I (.assign I I) <| .op I I (.assign I I) <| .nil <| .ret ?_
        cases h
        exact retTwo I I (.d _) (.d _)
      · refine .skip <| .seq <| .region <| .op I I (.move I I) <| .op I I (.assign I I) <| .op I I (.assign I I) <| .nil <| .ret ?_
        cases h
        exact retTwo I I (.d _) (.d _)
  · refine .skip <| .seq <| .seq <| .region <| .op I I (.move I I) <| .op I I (.move I I) <| bK h fun x47_34 hx47_34 h => .op I I (.sidx I I I U9 hx47_34) <| bK h fun x48_35 hx48_35 h => .op I I (.call I K261 I (ref02_digit_ok _ _ _ hx48_35)) <| .nil <| .condS I h (fun h => ?_) fun h => ?_
    · refine .seq <| .block <| .loopS [0] (fun (v : Int) => [(6, .d (.int v))]) (fun (v : Int) => []) (.c I .nil) h ⟨_, I, I, I, I, I, trivial⟩ (fun rec_45 x6_44 h => ?_)
      refine .seq <| .seq <| .plain 10 I <| .op I I I I (.move I I) <| .op I I I I (.move I I) <| .op I I I I (.len_str I U9 I) <| .op I I I I (.lss I I I) <| .op I I I I (.move I I) <| gK h fun hc_47 h => gK h fun hc_48 h => .jAnd 4 (b2 := ((ref02_digit n ((sidx t0 x6_44).getD default)).getD default)) I I I I (.inl I) (fun _ _ _ h1 => by cases h1) I I (fun hb_46 => ?_) ?_
      · refine .gop I I I I I I (.move I I) <| .gop I I I I I I (.move I I) <| .gop I I I I I I (.sidx I I I U9 (someD (impT hc_47 hb_46))) <| .gop I I I I I I (.call I K261 I (ref02_digit_ok _ _ _ (someD (impT hc_48 hb_46)))) ?_
        exact .nil I
      refine .nil <| .nil <| .keep [] [0, 6, 58] (.c I <| .c I <| .c I .nil) I <| .condS I h (fun h => ?_) fun h => ?_
      · refine .skip <| .block <| .region <| .op I I (.move I I) <| .op I I (.add6 I I I) <| .op I I (.assign I I) <| .nil ?_
        exact ⟨_, h, ⟨_, I, I, I, I, I, trivial⟩⟩
      · refine .exit <| .seq <| .region <| .op I I (.move I I) <| .op I I (.assign I I) <| .op I I (.assign I I) <| .nil <| .ret ?_
        cases h
        exact retTwo I I (.d _) (.d _)
    · refine .skip <| .seq <| .seq <| .region <| .op I I (.move I I) <| .op I I (.move I I) <| bK h fun x64_49 hx64_49 h => .op I I (.call I K263 I (ref02_symbol_ok _ _ _ _ hx64_49)) <| .op I I (.assign I I) <| .nil <| .keep [] [0, 1, 6, 7] (.c I <| .c I <| .c I <| .c I .nil) I <| .seq <| .region <| .op I I (.move I I) <| .op I I (.gtr I I I) <| .nil <| .condS I h (fun h => ?_) fun h => ?_
      · refine .seq <| .region <| .op I I (.move I I) <| .op I I (.move I I) <| .op I I (.add6 I I I) <| .op I I (.assign I I) <| .op I I (.assign I I) <| .nil <| .ret ?_
        cases h
        exact retTwo I I (.d _) (.d _)
      · refine .skip <| .seq <| .block <| .loopS [0] (fun (v : Int) => [(6, .d (.int v))]) (fun (v : Int) => []) (.c I .nil) h ⟨_, I, I, I, I, I, trivial⟩ (fun rec_79 x6_78 h => ?_)
        refine .seq <| .seq <| .plain 37 I <| .op I I I I (.move I I) <| .op I I I I (.move I I) <| .op I I I I (.len_str I U9 I) <| .op I I I I (.lss I I I) <| .op I I I I (.move I I) <| gK h fun hc_81 h => gK h fun hc_82 h => .jAnd 5 (b2 := !((ref02_white n ((sidx t0 x6_78).getD default)).getD default)) I I I I (.inl I) (fun _ _ _ h1 => by cases h1) I I (fun hb_80 => ?_) ?_
        · refine .gop I I I I I I (.move I I) <| .gop I I I I I I (.move I I) <| .gop I I I I I I (.sidx I I I U9 (someD (impT hc_81 hb_80))) <| .gop I I I I I I (.call I K259 I (ref02_white_ok _ _ _ (someD (impT hc_82 hb_80)))) <| .gop I I I I I I (.not I I) ?_
          exact .nil I
        refine .op I I I I (.move I I) <| gK h fun hc_84 h => .jAnd 4 (b2 := ((sidx t0 x6_78).getD default) != 35) I I I I (.inl I) (fun _ _ _ h1 => by cases h1) I I (fun hb_83 => ?_) ?_
        · refine .gop I I I I I I (.move I I) <| .gop I I I I I I (.move I I) <| .gop I I I I I I (.sidx I I I U9 (someD (impT hc_84 hb_83))) <| .gop I I I I I I (.neq I I I) ?_
          exact .nil I
        refine .op I I I I (.move I I) <| gK h fun hc_86 h => gK h fun hc_87 h => .jAnd 5 (b2 := !((ref02_letter n ((sidx t0 x6_78).getD default)).getD default)) I I I I (.inl I) (fun _ _ _ h1 => by cases h1) I I (fun hb_85 => ?_) ?_
        · refine .gop I I I I I I (.move I I) <| .gop I I I I I I (.move I I) <| .gop I I I I I I (.sidx I I I U9 (someD (impT hc_86 hb_85))) <| .gop I I I I I I (.call I K260 I (ref02_letter_ok _ _ _ (someD (impT hc_87 hb_85)))) <| .gop I I I I I I (.not I I) ?_
          exact .nil I
        refine .op I I I I (.move I I) <| gK h fun hc_89 h => gK h fun hc_90 h => .jAnd 5 (b2 := !((ref02_digit n ((sidx t0 x6_78).getD default)).getD default)) I I I I (.inl I) (fun _ _ _ h1 => by cases h1) I I (fun hb_88 => ?_) ?_
        · refine .gop I I I I I I (.move I I) <| .gop I I I I I I (.move I I) <| .gop I I I I I I (.sidx I I I U9 (someD (impT hc_89 hb_88))) <| .gop I I I I I I (.call I K261 I (ref02_digit_ok _ _ _ (someD (impT hc_90 hb_88)))) <| .gop I I I I I I (.not I I) ?_
          exact .nil I
        refine .op I I I I (.move I I) <| gK h fun hc_92 h => .jAnd 4 (b2 := ((ref02_symbol n t0 x6_78).getD default) == 0) I I I I (.inl I) (fun _ _ _ h1 => by cases h1) I I (fun hb_91 => ?_) ?_
        · refine .gop I I I I I I (.move I I) <| .gop I I I I I I (.move I I) <| .gop I I I I I I (.call I K263 I (ref02_symbol_ok _ _ _ _ (someD (impT hc_92 hb_91)))) <| .gop I I I I I I (.eql I I I) ?_
          exact .nil I
        refine .nil <| .nil <| .keep [] [0, 6, 106] (.c I <| .c I <| .c I .nil) I <| .condS I h (fun h => ?_) fun h => ?_
        · refine .skip <| .block <| .region <| .op I I (.move I I) <| .op I I (.add6 I I I) <| .op I I (.assign I I) <| .nil ?_
          exact ⟨_, h, ⟨_, I, I, I, I, I, trivial⟩⟩
        · refine .exit <| .seq <| .region <| .op I I (.move I I) <| .op I I (.assign I I) <| .op I I (.assign I I) <| .nil <| .ret ?_
          cases h
          exact retTwo I I (.d _) (.d _)
set_option maxHeartbeats 2000000 in
theorem ref02_Scan_ok (n : Nat) (t0 : List UInt8) (r : (List Token) × Int) (h : ref02_Scan n t0 = some r) : Pure Tryz.prog 224 [.str t0] (.tup [.sl 4 (List.map Token.enc r.1), .int r.2]) := by
  refine Pure.ot Tryz.func224 I Tryz.ntmps224 I fun A w => .seq <| .region <| .op I I (.nilS 4 (α := Token) Token.enc I) <| .op I I (.assign I I) <| .nil <| .seq <| .seq <| .region <| .op I I (.move I I) <| .op I I (.len_str I U9 I) <| .op I I (.gtr I I I) <| .nil <| .condS I h (fun h => ?_) fun h => ?_
  · refine .seq <| .region <| .op I I (.nilS 4 (α := Token) Token.enc I) <| .op I I (.assign I I) <| .nil <| .ret ?_
    cases h
    exact retTwo I I (.d _) (.d _)
  · refine .skip <| .seq <| .region <| .buildVec [] I I I I I E242 I (fun _ => I) I (enc := Token.enc) <| .op I I (.assign I I) <| .nil <| .seq <| .region <| .op I I (.assign I I) <| .nil <| .seq <| .block <| .loopS [0] (fun (v : (List Token) × Int) => [(4, .vec 0 (List.length v.1)), (5, .d (.int v.2))]) (fun (v : (List Token) × Int) => [(0, .vec 234 4 (List.map Token.enc v.1))]) (.c I .nil) h ⟨_, I, I, I, I, I, I, trivial⟩ (fun rec_15 v h => ?_)
    obtain ⟨b0_13, x5_14⟩ := v
    refine .seq <| .seq <| .region <| .op I I (.move I I) <| .op I I (.move I I) <| bK h fun x15_16 hx15_16 h => .op I I (.call I K248 I (ref02_skip_ok _ _ _ _ hx15_16)) <| .op I I (.move I I) <| .op I I (.len_str I U9 I) <| .op I I (.lss I I I) <| .nil <| .keep [.vec 234 4 (List.map Token.enc b0_13)] [0, 4, 5, 18] (.c I <| .c I <| .c I <| .c I .nil) I <| .condS I h (fun h => ?_) fun h => ?_
    · refine .skip <| .block <| .seq <| .region <| .op I I (.move I I) <| .op I I (.move I I) <| bK h fun x21_17 hx21_17 h => .op I I (.call I K248 I (ref02_skip_ok _ _ _ _ hx21_17)) <| .op I I (.assign I I) <| .nil <| .seq <| .region <| .op I I (.move I I) <| .op I I (.move I I) <| bK h fun x25_18 hx25_18 h => .op I I (.call I K249 I (ref02_token_ok _ _ _ _ hx25_18)) <| .op I I (.move I I) <| .op I I (.extract I I I) <| .op I I (.extract I I I) <| .op I I (.assign I I) <| .op I I (.assign I I) <| .nil <| .seq <| .region <| .op I I (.move I I) <| .op I I (.move I I) <| .op I I (.move I I) <| .op I I (.move I I) <| .op I I (.move I I) <| .op I I (.castD (Token.enc (⟨x25_18.1, x5_14, x21_17, x25_18.2⟩ : Token)) I (.build I Pl234 (.agg Zc234 (ds' := [_, _, _, _]) (.cons (.refl _) (.cons (.refl _) (.cons (.refl _) (.cons (.refl _) (.nil)))))) I I)) <| .op I I (.buildSl [_] I I E242 I (fun _ => I) I (enc := Token.enc)) <| bK h fun x35_19 hx35_19 h => .app I I I I I I I I E242 I (fun _ => I) hx35_19 <| .op I I (.assign I I) <| .nil <| .keep [.vec 234 4 (List.map Token.enc x35_19)] [0, 4, 8] (.c I <| .c I <| .c I .nil) I <| .region <| .op I I (.move I I) ?_
      refine .op I I (.assign I I) <| .nil ?_
      exact ⟨_, h, ⟨_, I, I, I, I, I, I, trivial⟩⟩
    · refine .exit <| .seq <| .region <| .op I I (.move I I) <| .op I I (.move I I) <| .op I I (.move I I) <| .op I I (.len_str I U9 I) <| .op I I (.move I I) <| .op I I (.len_str I U9 I) <| .op I I (.castD (Token.enc (⟨0, x5_14, (t0.length : Int), (t0.length : Int)⟩ : Token)) I (.build I Pl234 (.agg Zc234 (ds' := [_, _, _, _]) (.cons (.refl _) (.cons (.refl _) (.cons (.refl _) (.cons (.refl _) (.nil)))))) I I)) <| .op I I (.buildSl [_] I I E242 I (fun _ => I) I (enc := Token.enc)) <| bK h fun x45_20 hx45_20 h => .app I I I I I I I I E242 I (fun _ => I) hx45_20 <| .op I I (.assign I I) <| .op I I (.assign I I) <| .nil <| .ret ?_
      cases h
      exact retTwo I I (.vec I (by simp)) (.d _)
set_option maxHeartbeats 2000000 in
theorem ref02_Kind_ok (n : Nat) (t0 : List UInt8) (r : Int) (h : ref02_Kind n t0 = some r) : Pure Tryz.prog 204 [.str t0] (.int r) := by
  refine Pure.ot Tryz.func204 I Tryz.ntmps204 I fun A w => .seq <| .region <| .op I I (.assign I I) <| .nil <| .seq <| .region <| .op I I (.move I I) <| bK h fun x7_1 hx7_1 h => .op I I (.call I K224 I (ref02_Scan_ok _ _ _ hx7_1)) <| .op I I (.move I I) <| .op I I (.extract I I I) <| .op I I (.extract I I I) <| .op I I (.assign I I) <| .op I I (.assign I I) <| .nil <| .seq <| .seq <| .plain 23 I <| .op I I I I (.move I I) <| .op I I I I (.neq I I I) <| .op I I I I (.move I I) <| .jOr 3 (b2 := (x7_1.1.length : Int) != 2) I I I I (.inl I) (fun _ _ _ h1 => by cases h1) I I (fun hb_2 => ?_) ?_
  · refine .gop I I I I I I (.move I I) <| .gop I I I I I I (.len I U242 I) <| .gop I I I I I I (.neq I I I) ?_
    exact .nil I
  refine .op I I I I (.move I I) <| gK h fun hc_4 h => .jOr 5 (b2 := (((idx x7_1.1 0).getD default).at_) != 0) I I I I (.inl I) (fun _ _ _ h1 => by cases h1) I I (fun hb_3 => ?_) ?_
  · refine .gop I I I I I I (.move I I) <| .gop I I I I I I (.idx I I I U242 S234 (someD (impF hc_4 hb_3))) <| .gop I I I I I I (.fieldAddr I I (G234_2 _)) <| .gop I I I I I I (.load I I Y3 I) <| .gop I I I I I I (.neq I I I) ?_
    exact .nil I
  refine .op I I I I (.move I I) <| gK h fun hc_6 h => .jOr 7 (b2 := (((idx x7_1.1 0).getD default).end_) != (t0.length : Int)) I I I I (.inl I) (fun _ _ _ h1 => by cases h1) I I (fun hb_5 => ?_) ?_
  · refine .gop I I I I I I (.move I I) <| .gop I I I I I I (.idx I I I U242 S234 (someD (impF hc_6 hb_5))) <| .gop I I I I I I (.fieldAddr I I (G234_3 _)) <| .gop I I I I I I (.load I I Y3 I) <| .gop I I I I I I (.move I I) <| .gop I I I I I I (.len_str I U9 I) <| .gop I I I I I I (.neq I I I) ?_
    exact .nil I
  refine .nil <| .nil <| .keep [] [3, 32] (.c I <| .c I .nil) I <| .condS I h (fun h => ?_) fun h => ?_
  · refine .seq <| .region <| .op I I (.assign I I) <| .nil <| .ret ?_
    cases h
    exact retOne I (.d _)
  · refine .skip <| .seq <| .region <| .op I I (.move I I) <| bK h fun x34_7 hx34_7 h => .op I I (.idx I I I U242 S234 hx34_7) <| .op I I (.fieldAddr I I (G234_0 _)) <| .op I I (.load I I Y3 I) <| .op I I (.assign I I) <| .nil <| .ret ?_
    cases h
    exact retOne I (.d _)
theorem ref02_Name_ok (n : Nat) (t0 : List UInt8) (r : Bool) (h : ref02_Name n t0 = some r) : Pure Tryz.prog 162 [.str t0] (.bool r) := by
  refine Pure.ot Tryz.func162 I Tryz.ntmps162 I fun A w => .seq <| .region <| .op I I (.assign I I) <| .nil <| .seq <| .plain 8 I <| .op I I I I (.move I I) <| bK h fun x4_1 hx4_1 h => .op I I I I (.call I K204 I (ref02_Kind_ok _ _ _ hx4_1)) <| .op I I I I (.eql I I I) <| .op I I I I (.move I I) <| .jAnd 3 (b2 := decide ((t0.length : Int) ≤ 16)) I I I I (.inl I) (fun _ _ _ h1 => by cases h1) I I (fun hb_2 => ?_) ?_
  · refine .gop I I I I I I (.move I I) <| .gop I I I I I I (.len_str I U9 I) <| .gop I I I I I I (.leq I I I) ?_
    exact .nil I
  refine .nil <| .op I I (.assign I I) <| .nil <| .ret ?_
  cases h
  exact retOne I (.d _)
theorem ref09_strict_ok (n : Nat) (t0 : Int) (r : Bool) (h : ref09_strict n t0 = some r) : Pure Tryz.prog 139 [.int t0] (.bool r) := by
  refine Pure.ot Tryz.func139 I Tryz.ntmps139 I fun A w => .seq <| .region <| .op I I (.assign I I) <| .nil <| .seq <| .plain 6 I <| .op I I I I (.move I I) <| .op I I I I (.eql I I I) <| .op I I I I (.move I I) <| .jOr 2 (b2 := t0 == 1) I I I I (.inl I) (fun _ _ _ h1 => by cases h1) I I (fun hb_1 => ?_) ?_
  · refine .gop I I I I I I (.move I I) <| .gop I I I I I I (.eql I I I) ?_
    exact .nil I
  refine .nil <| .op I I (.assign I I) <| .nil <| .ret ?_
  cases h
  exact retOne I (.d _)
set_option maxHeartbeats 2000000 in
theorem ref09_Valid_ok (n : Nat) (t0 : List Int) (t1 : List Table) (r : Bool) (h : ref09_Valid n t0 t1 = some r) : Pure Tryz.prog 101 [.sl 1 (List.map D.int t0), .sl 6 (List.map Table.enc t1)] (.bool r) := by
  refine Pure.ot Tryz.func101 I Tryz.ntmps101 I fun A w => .seq <| .region <| .op I I (.assign I I) <| .nil <| .seq <| .seq <| .plain 13 I <| .op I I I I (.move I I) <| .op I I I I (.len I U22 I) <| .op I I I I (.gtr I I I) <| .op I I I I (.move I I) <| gK h fun hc_2 h => .jOr 3 (b2 := !((ref09_sound n t0).getD default)) I I I I (.inl I) (fun _ _ _ h1 => by cases h1) I I (fun hb_1 => ?_) ?_
  · refine .gop I I I I I I (.move I I) <| .gop I I I I I I (.call I K161 I (ref09_sound_ok _ _ _ (someD (impF hc_2 hb_1)))) <| .gop I I I I I I (.not I I) ?_
    exact .nil I
  refine .op I I I I (.move I I) <| .jOr 3 (b2 := decide (12 < (t1.length : Int))) I I I I (.inl I) (fun _ _ _ h1 => by cases h1) I I (fun hb_3 => ?_) ?_
  · refine .gop I I I I I I (.move I I) <| .gop I I I I I I (.len I U23 I) <| .gop I I I I I I (.gtr I I I) ?_
    exact .nil I
  refine .nil <| .nil <| .condS I h (fun h => ?_) fun h => ?_
  · refine .seq <| .region <| .op I I (.assign I I) <| .nil <| .ret ?_
    cases h
    exact retOne I (.d _)
  · refine .skip <| .seq <| .region <| .op I I (.assign I I) <| .op I I (.assign I I) <| .nil <| .keep [] [0, 1, 5, 6] (.c I <| .c I <| .c I <| .c I .nil) I <| .seq <| .seq <| .region <| .op I I (.assign I I) <| .nil <| .block <| .loopS [0, 1] (fun (v : Int × Int × Int) => [(5, .d (.int v.1)), (6, .d (.int v.2.1)), (7, .d (.int v.2.2))]) (fun (v : Int × Int × Int) => []) (.c I <| .c I .nil) h ⟨_, I, I, I, I, I, I, I, I, trivial⟩ (fun rec_59 v h => ?_)
    obtain ⟨x5_56, x6_57, x7_58⟩ := v
    refine .seq <| .seq <| .region <| .op I I (.move I I) <| .op I I (.move I I) <| .op I I (.len I U23 I) <| .op I I (.lss I I I) <| .nil <| .keep [] [0, 1, 5, 6, 7, 27] (.c I <| .c I <| .c I <| .c I <| .c I <| .c I .nil) I <| .condS I h (fun h => ?_) fun h => ?_
    · refine .skip <| .join [0, 1, 7] (fun (v : Int × Int) => [(5, .d (.int v.1)), (6, .d (.int v.2))]) (fun (v : Int × Int) => []) (.c I <| .c I <| .c I .nil) h (fun k_62 h => ?_) (fun v h => ?_)
      · refine .block <| .seq <| .region <| .op I I (.move I I) <| .op I I (.move I I) <| bK h fun x32_63 hx32_63 h => .op I I (.idx I I I U23 S127 hx32_63) <| .op I I (.load I I Y127 I) <| .allocStore I I I I I I I I (by simp) I I Z127 <| .nil <| .seq <| .seq <| .region <| .op I I (.assign I I) <| .nil <| .block <| .loopS [0, 1, 5, 6, 7, 8] (fun (v : Int) => [(9, .d (.int v))]) (fun (v : Int) => []) (.c I <| .c I <| .c I <| .c I <| .c I <| .c I .nil) h ⟨_, I, I, I, I, I, I, I, I, I, I, trivial⟩ (fun rec_69 x9_68 h => ?_)
        refine .seq <| .seq <| .region <| .op I I (.move I I) <| .op I I (.move I I) <| .op I I (.lss I I I) <| .nil <| .keep [] [0, 1, 5, 6, 7, 8, 9, 36] (.c I <| .c I <| .c I <| .c I <| .c I <| .c I <| .c I <| .c I .nil) I <| .condS I h (fun h => ?_) fun h => ?_
        · refine .skip <| .seq <| .block <| .seq <| .draw 8 Hm (by kernel_rfl) (by kernel_rfl) <| .op I I I I (.move I I) <| .op I I I I (.move I I) <| bK h fun x41_70 hx41_70 h => .op I I I I (.idx I I I U23 S127 hx41_70) <| .op I I I I (.fieldAddr I I (G127_0 _)) <| .op I I I I (.load I I Y9 I) <| .op I I I I (.fieldAddr I I (G127_0 _)) <| .op I I I I (.load I I Y9 I) <| .op I I I I (.str_eql I I I) <| .nil <| .nil <| .condS I h (fun h => ?_) fun h => ?_
          · refine .seq <| .region <| .op I I (.assign I I) <| .nil <| .ret ?_
            cases h
            exact retOne I (.d _)
          · refine .skip <| .region <| .op I I (.move I I) <| .op I I (.add6 I I I) <| .op I I (.assign I I) <| .nil ?_
            exact ⟨_, h, ⟨_, I, I, I, I, I, I, I, I, I, I, trivial⟩⟩
        · refine .exit <| .seq <| .region <| .op I I (.move I I) <| .op I I (.fieldAddr I I (G127_2 _)) <| .op I I (.load I I Y22 I) <| bK h fun x50_71 hx50_71 h => .op I I (.call I K140 I (ref09_number_ok _ _ _ _ hx50_71)) <| .op I I (.assign I I) <| .nil <| .seq <| .seq <| .plain 18 I <| .op I I I I (.fieldAddr I I (G127_0 _)) <| .op I I I I (.load I I Y9 I) <| bK h fun x53_72 hx53_72 h => .op I I I I (.call I K162 I (ref02_Name_ok _ _ _ hx53_72)) <| .op I I I I (.not I I) <| .op I I I I (.move I I) <| .jOr 3 (b2 := decide (x32_63.kind < 0)) I I I I (.inl I) (fun _ _ _ h1 => by cases h1) I I (fun hb_73 => ?_) ?_
          · refine .gop I I I I I I (.fieldAddr I I (G127_1 _)) <| .gop I I I I I I (.load I I Y3 I) <| .gop I I I I I I (.lss I I I) ?_
            exact .nil I
          refine .op I I I I (.move I I) <| .jOr 3 (b2 := decide (5 < x32_63.kind)) I I I I (.inl I) (fun _ _ _ h1 => by cases h1) I I (fun hb_74 => ?_) ?_
          · refine .gop I I I I I I (.fieldAddr I I (G127_1 _)) <| .gop I I I I I I (.load I I Y3 I) <| .gop I I I I I I (.gtr I I I) ?_
            exact .nil I
          refine .op I I I I (.move I I) <| .jOr 2 (b2 := x50_71 == 0) I I I I (.inl I) (fun _ _ _ h1 => by cases h1) I I (fun hb_75 => ?_) ?_
          · refine .gop I I I I I I (.move I I) <| .gop I I I I I I (.eql I I I) ?_
            exact .nil I
          refine .nil <| .nil <| .keep [] [0, 1, 5, 6, 7, 8, 10, 68] (.c I <| .c I <| .c I <| .c I <| .c I <| .c I <| .c I <| .c I .nil) I <| .condS I h (fun h => ?_) fun h => ?_
          · refine .seq <| .region <| .op I I (.assign I I) <| .nil <| .ret ?_
            cases h
            exact retOne I (.d _)
          · refine .skip <| .seq <| .seq <| .plain 19 I <| .op I I I I (.fieldAddr I I (G127_3 _)) <| .op I I I I (.fieldAddr I I (G87_0 _)) <| .op I I I I (.load I I Y3 I) <| .op I I I I (.fieldAddr I I (G127_3 _)) <| .op I I I I (.fieldAddr I I (G87_1 _)) <| .op I I I I (.load I I Y3 I) <| .op I I I I (.gtr I I I) <| .op I I I I (.move I I) <| .jOr 4 (b2 := decide (x32_63.range.lo < (-9999))) I I I I (.inl I) (fun _ _ _ h1 => by cases h1) I I (fun hb_76 => ?_) ?_
            · refine .gop I I I I I I (.fieldAddr I I (G127_3 _)) <| .gop I I I I I I (.fieldAddr I I (G87_0 _)) <| .gop I I I I I I (.load I I Y3 I) <| .gop I I I I I I (.lss I I I) ?_
              exact .nil I
            refine .op I I I I (.move I I) <| .jOr 4 (b2 := decide (9999 < x32_63.range.hi)) I I I I (.inl I) (fun _ _ _ h1 => by cases h1) I I (fun hb_77 => ?_) ?_
            · refine .gop I I I I I I (.fieldAddr I I (G127_3 _)) <| .gop I I I I I I (.fieldAddr I I (G87_1 _)) <| .gop I I I I I I (.load I I Y3 I) <| .gop I I I I I I (.gtr I I I) ?_
              exact .nil I
            refine .nil <| .nil <| .keep [] [0, 1, 5, 6, 7, 8, 10, 87] (.c I <| .c I <| .c I <| .c I <| .c I <| .c I <| .c I <| .c I .nil) I <| .condS I h (fun h => ?_) fun h => ?_
            · refine .seq <| .region <| .op I I (.assign I I) <| .nil <| .ret ?_
              cases h
              exact retOne I (.d _)
            · refine .skip <| .seq <| .seq <| .plain 25 I <| .op I I I I (.fieldAddr I I (G127_1 _)) <| .op I I I I (.load I I Y3 I) <| .op I I I I (.eql I I I) <| .op I I I I (.move I I) <| .jOr 3 (b2 := x32_63.kind == 2) I I I I (.inl I) (fun _ _ _ h1 => by cases h1) I I (fun hb_78 => ?_) ?_
              · refine .gop I I I I I I (.fieldAddr I I (G127_1 _)) <| .gop I I I I I I (.load I I Y3 I) <| .gop I I I I I I (.eql I I I) ?_
                exact .nil I
              refine .op I I I I (.move I I) <| .jOr 3 (b2 := x32_63.kind == 3) I I I I (.inl I) (fun _ _ _ h1 => by cases h1) I I (fun hb_79 => ?_) ?_
              · refine .gop I I I I I I (.fieldAddr I I (G127_1 _)) <| .gop I I I I I I (.load I I Y3 I) <| .gop I I I I I I (.eql I I I) ?_
                exact .nil I
              refine .op I I I I (.move I I) <| .jAnd 10 (b2 := (x32_63.range.lo != 0) || (x32_63.range.hi != 1)) I I I I (.inl I) (fun _ _ _ h1 => by cases h1) I I (fun hb_80 => ?_) ?_
              · refine .gop I I I I I I (.fieldAddr I I (G127_3 _)) <| .gop I I I I I I (.fieldAddr I I (G87_0 _)) <| .gop I I I I I I (.load I I Y3 I) <| .gop I I I I I I (.neq I I I) <| .gop I I I I I I (.move I I) <| .jOr 4 (b2 := x32_63.range.hi != 1) I I I I (.inr ⟨_, _, _, I, I, I⟩) (fun _ _ _ h1 h2 => by cases h1; cases h2; decide) I I (fun hb_81 => ?_) ?_
                · refine .gop I I I I I I (.fieldAddr I I (G127_3 _)) <| .gop I I I I I I (.fieldAddr I I (G87_1 _)) <| .gop I I I I I I (.load I I Y3 I) <| .gop I I I I I I (.neq I I I) ?_
                  exact .nil I
                exact .nil I
              refine .nil <| .nil <| .keep [] [0, 1, 5, 6, 7, 8, 10, 112] (.c I <| .c I <| .c I <| .c I <| .c I <| .c I <| .c I <| .c I .nil) I <| .condS I h (fun h => ?_) fun h => ?_
              · refine .seq <| .region <| .op I I (.assign I I) <| .nil <| .ret ?_
                cases h
                exact retOne I (.d _)
              · refine .skip <| .seq <| .region <| .op I I (.fieldAddr I I (G127_1 _)) <| .op I I (.load I I Y3 I) <| bK h fun x115_82 hx115_82 h => .op I I (.call I K139 I (ref09_strict_ok _ _ _ hx115_82)) <| .nil <| .condS I h (fun h => ?_) fun h => ?_
                · refine .seq <| .seq <| .region <| .op I I (.fieldAddr I I (G127_4 _)) <| .op I I (.load I I Y3 I) <| .op I I (.move I I) <| .op I I (.neq I I I) <| .nil <| .condS I h (fun h => ?_) fun h => ?_
                  · refine .seq <| .region <| .op I I (.assign I I) <| .nil <| .ret ?_
                    cases h
                    exact retOne I (.d _)
                  · refine .skip <| .region <| .op I I (.move I I) <| .op I I (.move I I) <| .op I I (.add6 I I I) <| .op I I (.assign I I) <| .nil ?_
                    exact ⟨_, h, ⟨_, I, I, I, I, I, I, I, I, trivial⟩⟩
                · refine .seq <| .seq <| .region <| .op I I (.fieldAddr I I (G127_4 _)) <| .op I I (.load I I Y3 I) <| .op I I (.move I I) <| .op I I (.neq I I I) <| .nil <| .condS I h (fun h => ?_) fun h => ?_
                  · refine .seq <| .region <| .op I I (.assign I I) <| .nil <| .ret ?_
                    cases h
                    exact retOne I (.d _)
                  · refine .skip <| .region <| .op I I (.move I I) <| .op I I (.move I I) <| .op I I (.add6 I I I) <| .op I I (.assign I I) <| .nil ?_
                    exact ⟨_, h, ⟨_, I, I, I, I, I, I, I, I, trivial⟩⟩
      · obtain ⟨x5_60, x6_61⟩ := v
        refine .region <| .op I I (.move I I) <| .op I I (.add6 I I I) <| .op I I (.assign I I) <| .nil ?_
        exact ⟨_, h, ⟨_, I, I, I, I, I, I, I, I, trivial⟩⟩
    · refine .exit <| .seq <| .plain 6 I <| .op I I I I (.move I I) <| .op I I I I (.leq I I I) <| .op I I I I (.move I I) <| .jAnd 2 (b2 := decide (x6_57 ≤ 64)) I I I I (.inl I) (fun _ _ _ h1 => by cases h1) I I (fun hb_83 => ?_) ?_
      · refine .gop I I I I I I (.move I I) <| .gop I I I I I I (.leq I I I) ?_
        exact .nil I
      refine .nil <| .op I I (.assign I I) <| .nil <| .ret ?_
      cases h
      exact retOne I (.d _)
set_option maxHeartbeats 2000000 in
theorem ref09_Ranges_ok (n : Nat) (t0 : List Int) (t1 : List Table) (t2 : Bool) (r : List Range) (h : ref09_Ranges n t0 t1 t2 = some r) : Pure Tryz.prog 93 [.sl 1 (List.map D.int t0), .sl 6 (List.map Table.enc t1), .bool t2] (.sl 2 (List.map Range.enc r)) := by
  refine Pure.ot Tryz.func93 I Tryz.ntmps93 I fun A w => .seq <| .region <| .op I I (.nilS 2 (α := Range) Range.enc I) <| .nil <| .seq <| .region <| .buildVec [] I I I I I E48 I (fun _ => I) I (enc := Range.enc) <| .op I I (.assign I I) <| .nil <| .seq <| .seq <| .region <| .op I I (.move I I) <| .op I I (.move I I) <| bK h fun x13_1 hx13_1 h => .op I I (.call I K101 I (ref09_Valid_ok _ _ _ _ hx13_1)) <| .op I I (.not I I) <| .nil <| .condS I h (fun h => ?_) fun h => ?_
  · refine .seq <| .region <| .op I I (.move I I) <| .op I I (.assign I I) <| .nil <| .ret ?_
    cases h
    exact retOne I (.vec I (by simp))
  · refine .skip <| .seq <| .seq <| .region <| .op I I (.assign I I) <| .nil <| .block <| .loopS [0, 1, 2] (fun (v : (List Range) × Int) => [(7, .vec 0 (List.length v.1)), (8, .d (.int v.2))]) (fun (v : (List Range) × Int) => [(0, .vec 87 2 (List.map Range.enc v.1))]) (.c I <| .c I <| .c I .nil) h ⟨_, I, I, I, I, I, I, I, I, trivial⟩ (fun rec_64 v h => ?_)
    obtain ⟨b0_62, x8_63⟩ := v
    refine .seq <| .seq <| .region <| .op I I (.move I I) <| .op I I (.move I I) <| .op I I (.len I U23 I) <| .op I I (.lss I I I) <| .nil <| .keep [.vec 87 2 (List.map Range.enc b0_62)] [0, 1, 2, 7, 8, 19] (.c I <| .c I <| .c I <| .c I <| .c I <| .c I .nil) I <| .condS I h (fun h => ?_) fun h => ?_
    · refine .skip <| .seq <| .block <| .seq <| .region <| .op I I (.assign I I) <| .nil <| .block <| .loopS [0, 1, 2, 8] (fun (v : (List Range) × Int) => [(7, .vec 0 (List.length v.1)), (9, .d (.int v.2))]) (fun (v : (List Range) × Int) => [(0, .vec 87 2 (List.map Range.enc v.1))]) (.c I <| .c I <| .c I <| .c I .nil) h ⟨_, I, I, I, I, I, I, I, I, I, trivial⟩ (fun rec_85 v h => ?_)
      obtain ⟨b0_83, x9_84⟩ := v
      refine .seq <| .seq <| .plain 19 I <| .op I I I I (.move I I) <| .op I I I I (.move I I) <| bK h fun x24_86 hx24_86 h => .op I I I I (.idx I I I U23 S127 hx24_86) <| .op I I I I (.fieldAddr I I (G127_1 _)) <| .op I I I I (.load I I Y3 I) <| bK h fun x27_87 hx27_87 h => .op I I I I (.call I K139 I (ref09_strict_ok _ _ _ hx27_87)) <| .op I I I I (.move I I) <| .op I I I I (.beq I U4 I I) <| .op I I I I (.move I I) <| gK h fun hc_89 h => gK h fun hc_90 h => .jAnd 9 (b2 := decide (x9_84 < ((ref09_number n t0 (((idx t1 x8_63).getD default).columns)).getD default))) I I I I (.inl I) (fun _ _ _ h1 => by cases h1) I I (fun hb_88 => ?_) ?_
      · refine .gop I I I I I I (.move I I) <| .gop I I I I I I (.move I I) <| .gop I I I I I I (.move I I) <| .gop I I I I I I (.move I I) <| .gop I I I I I I (.idx I I I U23 S127 (someD (impT hc_89 hb_88))) <| .gop I I I I I I (.fieldAddr I I (G127_2 _)) <| .gop I I I I I I (.load I I Y22 I) <| .gop I I I I I I (.call I K140 I (ref09_number_ok _ _ _ _ (someD (impT hc_90 hb_88)))) <| .gop I I I I I I (.lss I I I) ?_
        exact .nil I
      refine .nil <| .nil <| .keep [.vec 87 2 (List.map Range.enc b0_83)] [0, 1, 2, 7, 8, 9, 40] (.c I <| .c I <| .c I <| .c I <| .c I <| .c I <| .c I .nil) I <| .condS I h (fun h => ?_) fun h => ?_
      · refine .skip <| .seq <| .block <| .region <| .op I I (.move I I) <| .op I I (.move I I) <| .op I I (.move I I) <| bK h fun x46_91 hx46_91 h => .op I I (.idx I I I U23 S127 hx46_91) <| .op I I (.fieldAddr I I (G127_3 _)) <| .op I I (.load I I Y87 I) <| .op I I (.buildSl [_] I I E48 I (fun _ => I) I (enc := Range.enc)) <| bK h fun x50_92 hx50_92 h => .app I I I I I I I I E48 I (fun _ => I) hx50_92 <| .op I I (.assign I I) <| .nil <| .region <| .op I I (.move I I) <| .op I I (.add6 I I I) <| .op I I (.assign I I) <| .nil ?_
        exact ⟨_, h, ⟨_, I, I, I, I, I, I, I, I, I, trivial⟩⟩
      · refine .exit <| .region <| .op I I (.move I I) <| .op I I (.add6 I I I) <| .op I I (.assign I I) <| .nil ?_
        exact ⟨_, h, ⟨_, I, I, I, I, I, I, I, I, trivial⟩⟩
    · refine .exit <| .seq <| .region <| .op I I (.move I I) <| .op I I (.assign I I) <| .nil <| .ret ?_
      cases h
      exact retOne I (.vec I (by simp))
theorem ref13_strict_ok (n : Nat) (t0 : Model) (r : List Range) (h : ref13_strict n t0 = some r) : Pure Tryz.prog 38 [Model.enc t0] (.sl 2 (List.map Range.enc r)) := by
  refine Pure.ot Tryz.func38 I Tryz.ntmps38 I fun A w => .seq <| .region <| .op I I (.box I I) <| .op I I (.nilS 2 (α := Range) Range.enc I) <| .nil <| .seq <| .region <| .op I I (.fieldAddr I I (G30_0 _)) <| .op I I (.load I I Y22 I) <| .op I I (.fieldAddr I I (G30_1 _)) <| .op I I (.load I I Y23 I) <| bK h fun x7_1 hx7_1 h => .op I I (.call I K93 I (ref09_Ranges_ok _ _ _ _ _ hx7_1)) <| .op I I (.assign I I) <| .nil <| .ret ?_
  cases h
  exact retOne I (.d _)
set_option maxHeartbeats 2000000 in
theorem ref13_Few_ok (n : Nat) (t0 : Model) (r : Bool) (h : ref13_Few n t0 = some r) : Pure Tryz.prog 11 [Model.enc t0] (.bool r) := by
  refine Pure.ot Tryz.func11 I Tryz.ntmps11 I fun A w => .seq <| .region <| .op I I (.box I I) <| .op I I (.assign I I) <| .nil <| .seq <| .seq <| .plain 15 I <| .op I I I I (.load I I Y30 I) <| bK h fun x8_1 hx8_1 h => .op I I I I (.call I K37 I (ref13_Bounded_ok _ _ _ hx8_1)) <| .op I I I I (.not I I) <| .op I I I I (.move I I) <| .jOr 4 (b2 := decide (12 < (t0.actions.length : Int))) I I I I (.inl I) (fun _ _ _ h1 => by cases h1) I I (fun hb_2 => ?_) ?_
  · refine .gop I I I I I I (.fieldAddr I I (G30_5 _)) <| .gop I I I I I I (.load I I Y27 I) <| .gop I I I I I I (.len I U27 I) <| .gop I I I I I I (.gtr I I I) ?_
    exact .nil I
  refine .op I I I I (.move I I) <| .jOr 4 (b2 := decide (40 < (t0.constraints.length : Int))) I I I I (.inl I) (fun _ _ _ h1 => by cases h1) I I (fun hb_3 => ?_) ?_
  · refine .gop I I I I I I (.fieldAddr I I (G30_3 _)) <| .gop I I I I I I (.load I I Y25 I) <| .gop I I I I I I (.len I U25 I) <| .gop I I I I I I (.gtr I I I) ?_
    exact .nil I
  refine .nil <| .nil <| .keep [] [1, 21] (.c I <| .c I .nil) I <| .condS I h (fun h => ?_) fun h => ?_
  · refine .seq <| .region <| .op I I (.assign I I) <| .nil <| .ret ?_
    cases h
    exact retOne I (.d _)
  · refine .skip <| .seq <| .seq <| .region <| .op I I (.assign I I) <| .nil <| .block <| .loopS [1] (fun (v : Int) => [(3, .d (.int v))]) (fun (v : Int) => []) (.c I .nil) h ⟨_, I, I, I, I, I, trivial⟩ (fun rec_9 x3_8 h => ?_)
    refine .seq <| .seq <| .region <| .op I I (.move I I) <| .op I I (.fieldAddr I I (G30_5 _)) <| .op I I (.load I I Y27 I) <| .op I I (.len I U27 I) <| .op I I (.lss I I I) <| .nil <| .keep [] [1, 3, 26] (.c I <| .c I <| .c I .nil) I <| .condS I h (fun h => ?_) fun h => ?_
    · refine .skip <| .seq <| .block <| .seq <| .region <| .op I I (.fieldAddr I I (G30_5 _)) <| .op I I (.load I I Y27 I) <| .op I I (.move I I) <| bK h fun x32_10 hx32_10 h => .op I I (.idx I I I U27 S84 hx32_10) <| .op I I (.fieldAddr I I (G84_2 _)) <| .op I I (.fieldAddr I I (G82_1 _)) <| .op I I (.load I I Y49 I) <| .op I I (.len I U49 I) <| .op I I (.gtr I I I) <| .nil <| .condS I h (fun h => ?_) fun h => ?_
      · refine .seq <| .region <| .op I I (.assign I I) <| .nil <| .ret ?_
        cases h
        exact retOne I (.d _)
      · refine .skip <| .region <| .op I I (.move I I) <| .op I I (.add6 I I I) <| .op I I (.assign I I) <| .nil ?_
        exact ⟨_, h, ⟨_, I, I, I, I, I, trivial⟩⟩
    · refine .exit <| .seq <| .region <| .op I I (.load I I Y30 I) <| bK h fun x39_11 hx39_11 h => .op I I (.call I K38 I (ref13_strict_ok _ _ _ hx39_11)) <| .op I I (.assign I I) <| .nil <| .seq <| .seq <| .region <| .op I I (.move I I) <| .op I I (.len I U48 I) <| .op I I (.gtr I I I) <| .nil <| .condS I h (fun h => ?_) fun h => ?_
      · refine .seq <| .region <| .op I I (.assign I I) <| .nil <| .ret ?_
        cases h
        exact retOne I (.d _)
      · refine .skip <| .seq <| .region <| .op I I (.assign I I) <| .nil <| .seq <| .seq <| .region <| .op I I (.assign I I) <| .nil <| .block <| .loopS [4] (fun (v : Int × Int) => [(5, .d (.int v.1)), (6, .d (.int v.2))]) (fun (v : Int × Int) => []) (.c I .nil) h ⟨_, I, I, I, I, I, I, trivial⟩ (fun rec_22 v h => ?_)
        obtain ⟨x5_20, x6_21⟩ := v
        refine .seq <| .seq <| .region <| .op I I (.move I I) <| .op I I (.move I I) <| .op I I (.len I U48 I) <| .op I I (.lss I I I) <| .nil <| .keep [] [4, 5, 6, 46] (.c I <| .c I <| .c I <| .c I .nil) I <| .condS I h (fun h => ?_) fun h => ?_
        · refine .skip <| .seq <| .block <| .seq <| .draw 15 Hm (by kernel_rfl) (by kernel_rfl) <| .op I I I I (.move I I) <| .op I I I I (.move I I) <| .op I I I I (.move I I) <| bK h fun x52_23 hx52_23 h => .op I I I I (.idx I I I U48 S87 hx52_23) <| .op I I I I (.fieldAddr I I (G87_1 _)) <| .op I I I I (.load I I Y3 I) <| .op I I I I (.move I I) <| .op I I I I (.move I I) <| bK h fun x57_24 hx57_24 h => .op I I I I (.idx I I I U48 S87 hx57_24) <| .op I I I I (.fieldAddr I I (G87_0 _)) <| .op I I I I (.load I I Y3 I) <| .op I I I I (.sub6 I I I) <| .op I I I I (.add6 I I I) <| .op I I I I (.mul6 I I I) <| .op I I I I (.assign I I) <| .nil <| .nil <| .seq <| .region <| .op I I (.move I I) <| .op I I (.gtr I I I) <| .nil <| .keep [] [4, 5, 6, 64] (.c I <| .c I <| .c I <| .c I .nil) I <| .condS I h (fun h => ?_) fun h => ?_
          · refine .seq <| .region <| .op I I (.assign I I) <| .nil <| .ret ?_
            cases h
            exact retOne I (.d _)
          · refine .skip <| .region <| .op I I (.move I I) <| .op I I (.add6 I I I) <| .op I I (.assign I I) <| .nil ?_
            exact ⟨_, h, ⟨_, I, I, I, I, I, I, trivial⟩⟩
        · refine .exit <| .seq <| .region <| .op I I (.assign I I) <| .nil <| .ret ?_
          cases h
          exact retOne I (.d _)
set_option maxHeartbeats 2000000 in
theorem ref13_distinct_ok (n : Nat) (t0 : List (List UInt8)) (r : Bool) (h : ref13_distinct n t0 = some r) : Pure Tryz.prog 102 [.sl 1 (List.map D.str t0)] (.bool r) := by
  refine Pure.ot Tryz.func102 I Tryz.ntmps102 I fun A w => .seq <| .region <| .op I I (.assign I I) <| .nil <| .seq <| .seq <| .region <| .op I I (.assign I I) <| .nil <| .block <| .loopS [0] (fun (v : Int) => [(3, .d (.int v))]) (fun (v : Int) => []) (.c I .nil) h ⟨_, I, I, I, I, I, trivial⟩ (fun rec_16 x3_15 h => ?_)
  refine .seq <| .seq <| .region <| .op I I (.move I I) <| .op I I (.move I I) <| .op I I (.len I U24 I) <| .op I I (.lss I I I) <| .nil <| .keep [] [0, 3, 7] (.c I <| .c I <| .c I .nil) I <| .condS I h (fun h => ?_) fun h => ?_
  · refine .skip <| .seq <| .block <| .seq <| .draw 16 Hm (by kernel_rfl) (by kernel_rfl) <| .op I I I I (.move I I) <| .op I I I I (.move I I) <| bK h fun x12_17 hx12_17 h => .op I I I I (.idx I I I U24 S9 hx12_17) <| .op I I I I (.load I I Y9 I) <| bK h fun x14_18 hx14_18 h => .op I I I I (.call I K162 I (ref02_Name_ok _ _ _ hx14_18)) <| .op I I I I (.not I I) <| .op I I I I (.move I I) <| gK h fun hc_20 h => gK h fun hc_21 h => gK h fun hc_22 h => .jOr 8 (b2 := ((ref02_Has n ((cut t0 0 x3_15).getD default) ((idx t0 x3_15).getD default)).getD default)) I I I I (.inl I) (fun _ _ _ h1 => by cases h1) I I (fun hb_19 => ?_) ?_
    · refine .gop I I I I I I (.move I I) <| .gop I I I I I I (.move I I) <| .gop I I I I I I (.cutSlH I I I U24 S9 (someD (impF hc_20 hb_19))) <| .gop I I I I I I (.move I I) <| .gop I I I I I I (.move I I) <| .gop I I I I I I (.idx I I I U24 S9 (someD (impF hc_21 hb_19))) <| .gop I I I I I I (.load I I Y9 I) <| .gop I I I I I I (.call I K163 I (ref02_Has_ok _ _ _ _ (someD (impF hc_22 hb_19)))) ?_
      exact .nil I
    refine .nil <| .nil <| .keep [] [0, 3, 25] (.c I <| .c I <| .c I .nil) I <| .condS I h (fun h => ?_) fun h => ?_
    · refine .seq <| .region <| .op I I (.assign I I) <| .nil <| .ret ?_
      cases h
      exact retOne I (.d _)
    · refine .skip <| .region <| .op I I (.move I I) <| .op I I (.add6 I I I) <| .op I I (.assign I I) <| .nil ?_
      exact ⟨_, h, ⟨_, I, I, I, I, I, trivial⟩⟩
  · refine .exit <| .seq <| .region <| .op I I (.assign I I) <| .nil <| .ret ?_
    cases h
    exact retOne I (.d _)
set_option maxHeartbeats 2000000 in
theorem ref11_SameTerms_ok (n : Nat) (t0 : List Term) (t1 : List Term) (r : Bool) (h : ref11_SameTerms n t0 t1 = some r) : Pure Tryz.prog 205 [.sl 2 (List.map Term.enc t0), .sl 2 (List.map Term.enc t1)] (.bool r) := by
  refine Pure.ot Tryz.func205 I Tryz.ntmps205 I fun A w => .seq <| .region <| .op I I (.assign I I) <| .nil <| .seq <| .seq <| .region <| .op I I (.move I I) <| .op I I (.len I U31 I) <| .op I I (.move I I) <| .op I I (.len I U31 I) <| .op I I (.neq I I I) <| .nil <| .condS I h (fun h => ?_) fun h => ?_
  · refine .seq <| .region <| .op I I (.assign I I) <| .nil <| .ret ?_
    cases h
    exact retOne I (.d _)
  · refine .skip <| .seq <| .seq <| .region <| .op I I (.assign I I) <| .nil <| .block <| .loopS [0, 1] (fun (v : Int) => [(5, .d (.int v))]) (fun (v : Int) => []) (.c I <| .c I .nil) h ⟨_, I, I, I, I, I, I, trivial⟩ (fun rec_8 x5_7 h => ?_)
    refine .seq <| .seq <| .region <| .op I I (.move I I) <| .op I I (.move I I) <| .op I I (.len I U31 I) <| .op I I (.lss I I I) <| .nil <| .keep [] [0, 1, 5, 14] (.c I <| .c I <| .c I <| .c I .nil) I <| .condS I h (fun h => ?_) fun h => ?_
    · refine .skip <| .seq <| .block <| .seq <| .draw 9 Hm (by kernel_rfl) (by kernel_rfl) <| .op I I I I (.move I I) <| .op I I I I (.move I I) <| bK h fun x19_9 hx19_9 h => .op I I I I (.idx I I I U31 S41 hx19_9) <| .op I I I I (.load I I Y41 I) <| .op I I I I (.move I I) <| .op I I I I (.move I I) <| bK h fun x23_10 hx23_10 h => .op I I I I (.idx I I I U31 S41 hx23_10) <| .op I I I I (.load I I Y41 I) <| .op I I I I (.sneq I SE41 I I (xs := Term.vals _) (ys := Term.vals _) I I I I (SQ41 _ _)) <| .nil <| .nil <| .condS I h (fun h => ?_) fun h => ?_
      · refine .seq <| .region <| .op I I (.assign I I) <| .nil <| .ret ?_
        cases h
        exact retOne I (.d _)
      · refine .skip <| .region <| .op I I (.move I I) <| .op I I (.add6 I I I) <| .op I I (.assign I I) <| .nil ?_
        exact ⟨_, h, ⟨_, I, I, I, I, I, I, trivial⟩⟩
    · refine .exit <| .seq <| .region <| .op I I (.assign I I) <| .nil <| .ret ?_
      cases h
      exact retOne I (.d _)
theorem ref11_SameRow_ok (n : Nat) (t0 : Row) (t1 : Row) (r : Bool) (h : ref11_SameRow n t0 t1 = some r) : Pure Tryz.prog 164 [Row.enc t0, Row.enc t1] (.bool r) := by
  refine Pure.ot Tryz.func164 I Tryz.ntmps164 I fun A w => .seq <| .region <| .op I I (.box I I) <| .op I I (.box I I) <| .op I I (.assign I I) <| .nil <| .seq <| .plain 12 I <| .op I I I I (.fieldAddr I I (G33_1 _)) <| .op I I I I (.load I I Y3 I) <| .op I I I I (.fieldAddr I I (G33_1 _)) <| .op I I I I (.load I I Y3 I) <| .op I I I I (.eql I I I) <| .op I I I I (.move I I) <| gK h fun hc_2 h => .jAnd 5 (b2 := ((ref11_SameTerms n t0.terms t1.terms).getD default)) I I I I (.inl I) (fun _ _ _ h1 => by cases h1) I I (fun hb_1 => ?_) ?_
  · refine .gop I I I I I I (.fieldAddr I I (G33_0 _)) <| .gop I I I I I I (.load I I Y31 I) <| .gop I I I I I I (.fieldAddr I I (G33_0 _)) <| .gop I I I I I I (.load I I Y31 I) <| .gop I I I I I I (.call I K205 I (ref11_SameTerms_ok _ _ _ _ (someD (impT hc_2 hb_1)))) ?_
    exact .nil I
  refine .nil <| .op I I (.assign I I) <| .nil <| .keep [] [4] (.c I .nil) I <| .ret ?_
  cases h
  exact retOne I (.d _)
theorem ref13_between_ok (n : Nat) (t0 : Int) (t1 : Int) (r : Bool) (h : ref13_between n t0 t1 = some r) : Pure Tryz.prog 167 [.int t0, .int t1] (.bool r) := by
  refine Pure.ot Tryz.func167 I Tryz.ntmps167 I fun A w => .seq <| .region <| .op I I (.assign I I) <| .nil <| .seq <| .plain 9 I <| .op I I I I (.move I I) <| .op I I I I (.move I I) <| .op I I I I (.neg6 I I) <| .op I I I I (.geq I I I) <| .op I I I I (.move I I) <| .jAnd 3 (b2 := decide (t0 ≤ t1)) I I I I (.inl I) (fun _ _ _ h1 => by cases h1) I I (fun hb_1 => ?_) ?_
  · refine .gop I I I I I I (.move I I) <| .gop I I I I I I (.move I I) <| .gop I I I I I I (.leq I I I) ?_
    exact .nil I
  refine .nil <| .op I I (.assign I I) <| .nil <| .ret ?_
  cases h
  exact retOne I (.d _)
set_option maxHeartbeats 2000000 in
theorem ref13_row_ok (n : Nat) (t0 : Row) (t1 : Int) (r : Bool) (h : ref13_row n t0 t1 = some r) : Pure Tryz.prog 165 [Row.enc t0, .int t1] (.bool r) := by
  refine Pure.ot Tryz.func165 I Tryz.ntmps165 I fun A w => .seq <| .region <| .op I I (.box I I) <| .op I I (.assign I I) <| .nil <| .seq <| .seq <| .region <| .op I I (.assign I I) <| .nil <| .block <| .loopS [1, 2] (fun (v : Int) => [(5, .d (.int v))]) (fun (v : Int) => []) (.c I <| .c I .nil) h ⟨_, I, I, I, I, I, I, trivial⟩ (fun rec_20 x5_19 h => ?_)
  refine .seq <| .seq <| .region <| .op I I (.move I I) <| .op I I (.fieldAddr I I (G33_0 _)) <| .op I I (.load I I Y31 I) <| .op I I (.len I U31 I) <| .op I I (.lss I I I) <| .nil <| .keep [] [1, 2, 5, 11] (.c I <| .c I <| .c I <| .c I .nil) I <| .condS I h (fun h => ?_) fun h => ?_
  · refine .skip <| .seq <| .block <| .seq <| .region <| .op I I (.fieldAddr I I (G33_0 _)) <| .op I I (.load I I Y31 I) <| .op I I (.move I I) <| bK h fun x17_21 hx17_21 h => .op I I (.idx I I I U31 S41 hx17_21) <| .op I I (.load I I Y41 I) <| .allocStore I I I I I I I I (by simp) I I Z41 <| .nil <| .seq <| .draw 36 Hm (by kernel_rfl) (by kernel_rfl) <| .op I I I I (.fieldAddr I I (G41_0 _)) <| .op I I I I (.load I I Y3 I) <| .op I I I I (.lss I I I) <| .op I I I I (.move I I) <| .jOr 4 (b2 := decide (t1 ≤ x17_21.cell)) I I I I (.inl I) (fun _ _ _ h1 => by cases h1) I I (fun hb_22 => ?_) ?_
    · refine .gop I I I I I I (.fieldAddr I I (G41_0 _)) <| .gop I I I I I I (.load I I Y3 I) <| .gop I I I I I I (.move I I) <| .gop I I I I I I (.geq I I I) ?_
      exact .nil I
    refine .op I I I I (.move I I) <| gK h fun hc_25 h => .jOr 14 (b2 := (decide (0 < x5_19)) && (decide (x17_21.cell ≤ ((idx t0.terms (sub64 x5_19 1)).getD default).cell))) I I I I (.inl I) (fun _ _ _ h1 => by cases h1) I I (fun hb_23 => ?_) ?_
    · refine .gop I I I I I I (.move I I) <| .gop I I I I I I (.gtr I I I) <| .gop I I I I I I (.move I I) <| .jAnd 10 (b2 := decide (x17_21.cell ≤ ((idx t0.terms (sub64 x5_19 1)).getD default).cell)) I I I I (.inr ⟨_, _, _, I, I, I⟩) (fun _ _ _ h1 h2 => by cases h1; cases h2; decide) I I (fun hb_24 => ?_) ?_
      · refine .gop I I I I I I (.fieldAddr I I (G33_0 _)) <| .gop I I I I I I (.load I I Y31 I) <| .gop I I I I I I (.move I I) <| .gop I I I I I I (.sub6 I I I) <| .gop I I I I I I (.idx I I I U31 S41 (someD (impT (impF hc_25 hb_23) hb_24))) <| .gop I I I I I I (.fieldAddr I I (G41_0 _)) <| .gop I I I I I I (.load I I Y3 I) <| .gop I I I I I I (.fieldAddr I I (G41_0 _)) <| .gop I I I I I I (.load I I Y3 I) <| .gop I I I I I I (.geq I I I) ?_
        exact .nil I
      exact .nil I
    refine .op I I I I (.move I I) <| .jOr 3 (b2 := x17_21.factor == 0) I I I I (.inl I) (fun _ _ _ h1 => by cases h1) I I (fun hb_26 => ?_) ?_
    · refine .gop I I I I I I (.fieldAddr I I (G41_1 _)) <| .gop I I I I I I (.load I I Y3 I) <| .gop I I I I I I (.eql I I I) ?_
      exact .nil I
    refine .op I I I I (.move I I) <| gK h fun hc_28 h => .jOr 4 (b2 := !((ref13_between n x17_21.factor 1000).getD default)) I I I I (.inl I) (fun _ _ _ h1 => by cases h1) I I (fun hb_27 => ?_) ?_
    · refine .gop I I I I I I (.fieldAddr I I (G41_1 _)) <| .gop I I I I I I (.load I I Y3 I) <| .gop I I I I I I (.call I K167 I (ref13_between_ok _ _ _ _ (someD (impF hc_28 hb_27)))) <| .gop I I I I I I (.not I I) ?_
      exact .nil I
    refine .nil <| .nil <| .keep [] [1, 2, 5, 54] (.c I <| .c I <| .c I <| .c I .nil) I <| .condS I h (fun h => ?_) fun h => ?_
    · refine .seq <| .region <| .op I I (.assign I I) <| .nil <| .ret ?_
      cases h
      exact retOne I (.d _)
    · refine .skip <| .region <| .op I I (.move I I) <| .op I I (.add6 I I I) <| .op I I (.assign I I) <| .nil ?_
      exact ⟨_, h, ⟨_, I, I, I, I, I, I, trivial⟩⟩
  · refine .exit <| .seq <| .region <| .op I I (.fieldAddr I I (G33_1 _)) <| .op I I (.load I I Y3 I) <| bK h fun x57_29 hx57_29 h => .op I I (.call I K167 I (ref13_between_ok _ _ _ _ hx57_29)) <| .op I I (.assign I I) <| .nil <| .ret ?_
    cases h
    exact retOne I (.d _)
set_option maxHeartbeats 2000000 in
theorem ref13_graph_ok (n : Nat) (t0 : Model) (t1 : Constraint) (r : Bool) (h : ref13_graph n t0 t1 = some r) : Pure Tryz.prog 166 [Model.enc t0, Constraint.enc t1] (.bool r) := by
  refine Pure.ot Tryz.func166 I Tryz.ntmps166 I fun A w => .seq <| .region <| .op I I (.box I I) <| .op I I (.box I I) <| .op I I (.assign I I) <| .nil <| .seq <| .seq <| .plain 11 I <| .op I I I I (.fieldAddr I I (G78_2 _)) <| .op I I I I (.fieldAddr I I (G33_0 _)) <| .op I I I I (.load I I Y31 I) <| .op I I I I (.len I U31 I) <| .op I I I I (.gtr I I I) <| .op I I I I (.move I I) <| .jOr 4 (b2 := t1.row.bound != 0) I I I I (.inl I) (fun _ _ _ h1 => by cases h1) I I (fun hb_1 => ?_) ?_
  · refine .gop I I I I I I (.fieldAddr I I (G78_2 _)) <| .gop I I I I I I (.fieldAddr I I (G33_1 _)) <| .gop I I I I I I (.load I I Y3 I) <| .gop I I I I I I (.neq I I I) ?_
    exact .nil I
  refine .nil <| .nil <| .condS I h (fun h => ?_) fun h => ?_
  · refine .seq <| .region <| .op I I (.assign I I) <| .nil <| .ret ?_
    cases h
    exact retOne I (.d _)
  · refine .skip <| .seq <| .seq <| .region <| .op I I (.assign I I) <| .nil <| .block <| .loopS [2, 3] (fun (v : Int) => [(5, .d (.int v))]) (fun (v : Int) => []) (.c I <| .c I .nil) h ⟨_, I, I, I, I, I, I, trivial⟩ (fun rec_23 x5_22 h => ?_)
    refine .seq <| .seq <| .region <| .op I I (.move I I) <| .op I I (.fieldAddr I I (G30_1 _)) <| .op I I (.load I I Y23 I) <| .op I I (.len I U23 I) <| .op I I (.lss I I I) <| .nil <| .keep [] [2, 3, 5, 22] (.c I <| .c I <| .c I <| .c I .nil) I <| .condS I h (fun h => ?_) fun h => ?_
    · refine .skip <| .seq <| .block <| .seq <| .region <| .op I I (.fieldAddr I I (G30_1 _)) <| .op I I (.load I I Y23 I) <| .op I I (.move I I) <| bK h fun x28_24 hx28_24 h => .op I I (.idx I I I U23 S127 hx28_24) <| .op I I (.load I I Y127 I) <| .allocStore I I I I I I I I (by simp) I I Z127 <| .nil <| .seq <| .draw 40 Hm (by kernel_rfl) (by kernel_rfl) <| .op I I I I (.fieldAddr I I (G127_1 _)) <| .op I I I I (.load I I Y3 I) <| .op I I I I (.eql I I I) <| .op I I I I (.move I I) <| .jAnd 4 (b2 := (x28_24.columns.length : Int) == 2) I I I I (.inl I) (fun _ _ _ h1 => by cases h1) I I (fun hb_25 => ?_) ?_
      · refine .gop I I I I I I (.fieldAddr I I (G127_2 _)) <| .gop I I I I I I (.load I I Y22 I) <| .gop I I I I I I (.len I U22 I) <| .gop I I I I I I (.eql I I I) ?_
        exact .nil I
      refine .op I I I I (.move I I) <| gK h fun hc_27 h => gK h fun hc_28 h => .jAnd 9 (b2 := ((idx x28_24.columns 0).getD default) == ((idx x28_24.columns 1).getD default)) I I I I (.inl I) (fun _ _ _ h1 => by cases h1) I I (fun hb_26 => ?_) ?_
      · refine .gop I I I I I I (.fieldAddr I I (G127_2 _)) <| .gop I I I I I I (.load I I Y22 I) <| .gop I I I I I I (.idx I I I U22 S3 (someD (impT hc_27 hb_26))) <| .gop I I I I I I (.load I I Y3 I) <| .gop I I I I I I (.fieldAddr I I (G127_2 _)) <| .gop I I I I I I (.load I I Y22 I) <| .gop I I I I I I (.idx I I I U22 S3 (someD (impT hc_28 hb_26))) <| .gop I I I I I I (.load I I Y3 I) <| .gop I I I I I I (.eql I I I) ?_
        exact .nil I
      refine .op I I I I (.move I I) <| .jAnd 5 (b2 := x28_24.first == t1.first) I I I I (.inl I) (fun _ _ _ h1 => by cases h1) I I (fun hb_29 => ?_) ?_
      · refine .gop I I I I I I (.fieldAddr I I (G127_4 _)) <| .gop I I I I I I (.load I I Y3 I) <| .gop I I I I I I (.fieldAddr I I (G78_3 _)) <| .gop I I I I I I (.load I I Y3 I) <| .gop I I I I I I (.eql I I I) ?_
        exact .nil I
      refine .op I I I I (.move I I) <| gK h fun hc_31 h => gK h fun hc_32 h => .jAnd 11 (b2 := ((idx t0.sorts ((idx x28_24.columns 0).getD default)).getD default) == t1.size) I I I I (.inl I) (fun _ _ _ h1 => by cases h1) I I (fun hb_30 => ?_) ?_
      · refine .gop I I I I I I (.fieldAddr I I (G30_0 _)) <| .gop I I I I I I (.load I I Y22 I) <| .gop I I I I I I (.fieldAddr I I (G127_2 _)) <| .gop I I I I I I (.load I I Y22 I) <| .gop I I I I I I (.idx I I I U22 S3 (someD (impT hc_31 hb_30))) <| .gop I I I I I I (.load I I Y3 I) <| .gop I I I I I I (.idx I I I U22 S3 (someD (impT hc_32 hb_30))) <| .gop I I I I I I (.load I I Y3 I) <| .gop I I I I I I (.fieldAddr I I (G78_4 _)) <| .gop I I I I I I (.load I I Y3 I) <| .gop I I I I I I (.eql I I I) ?_
        exact .nil I
      refine .nil <| .nil <| .keep [] [2, 3, 5, 69] (.c I <| .c I <| .c I <| .c I .nil) I <| .condS I h (fun h => ?_) fun h => ?_
      · refine .seq <| .region <| .op I I (.assign I I) <| .nil <| .ret ?_
        cases h
        exact retOne I (.d _)
      · refine .skip <| .region <| .op I I (.move I I) <| .op I I (.add6 I I I) <| .op I I (.assign I I) <| .nil ?_
        exact ⟨_, h, ⟨_, I, I, I, I, I, I, trivial⟩⟩
    · refine .exit <| .seq <| .region <| .op I I (.assign I I) <| .nil <| .ret ?_
      cases h
      exact retOne I (.d _)
end Go.Proofs.YtcagdmegicijlaaGreatDoor
namespace Go.Proofs.YtcagdmegicijlaaGreatDoor
open Go Go.RowKit
set_option maxHeartbeats 2000000 in
theorem ref13_constraints_ok (n : Nat) (t0 : Model) (r : Bool) (h : ref13_constraints n t0 = some r) : Pure Tryz.prog 103 [Model.enc t0] (.bool r) := by
  refine Pure.ot Tryz.func103 I Tryz.ntmps103 I fun A w => .seq <| .region <| .op I I (.box I I) <| .op I I (.assign I I) <| .nil <| .seq <| .region <| .op I I (.load I I Y30 I) <| bK h fun x11_1 hx11_1 h => .op I I (.call I K38 I (ref13_strict_ok _ _ _ hx11_1)) <| .op I I (.assign I I) <| .nil <| .seq <| .seq <| .plain 13 I <| .op I I I I (.fieldAddr I I (G30_3 _)) <| .op I I I I (.load I I Y25 I) <| .op I I I I (.len I U25 I) <| .op I I I I (.move I I) <| .op I I I I (.len I U48 I) <| .op I I I I (.mul6 I I I) <| .op I I I I (.lss I I I) <| .op I I I I (.move I I) <| .jOr 4 (b2 := decide (512 < (t0.constraints.length : Int))) I I I I (.inl I) (fun _ _ _ h1 => by cases h1) I I (fun hb_2 => ?_) ?_
  · refine .gop I I I I I I (.fieldAddr I I (G30_3 _)) <| .gop I I I I I I (.load I I Y25 I) <| .gop I I I I I I (.len I U25 I) <| .gop I I I I I I (.gtr I I I) ?_
    exact .nil I
  refine .nil <| .nil <| .keep [] [1, 3, 24] (.c I <| .c I <| .c I .nil) I <| .condS I h (fun h => ?_) fun h => ?_
  · refine .seq <| .region <| .op I I (.assign I I) <| .nil <| .ret ?_
    cases h
    exact retOne I (.d _)
  · refine .skip <| .seq <| .seq <| .region <| .op I I (.assign I I) <| .nil <| .block <| .loopS [1, 3] (fun (v : Int) => [(4, .d (.int v))]) (fun (v : Int) => []) (.c I <| .c I .nil) h ⟨_, I, I, I, I, I, I, trivial⟩ (fun rec_20 x4_19 h => ?_)
    refine .seq <| .seq <| .region <| .op I I (.move I I) <| .op I I (.move I I) <| .op I I (.len I U48 I) <| .op I I (.lss I I I) <| .nil <| .keep [] [1, 3, 4, 28] (.c I <| .c I <| .c I <| .c I .nil) I <| .condS I h (fun h => ?_) fun h => ?_
    · refine .skip <| .seq <| .block <| .seq <| .region <| .op I I (.move I I) <| .op I I (.castD (Term.enc (⟨x4_19, (-1)⟩ : Term)) I (.build I Pl41 (.agg Zc41 (ds' := [_, _]) (.cons (.refl _) (.cons (.refl _) (.nil)))) I I)) <| .op I I (.buildSl [_] I I E31 I (fun _ => I) I (enc := Term.enc)) <| .op I I (.move I I) <| .op I I (.move I I) <| bK h fun x36_21 hx36_21 h => .op I I (.idx I I I U48 S87 hx36_21) <| .op I I (.fieldAddr I I (G87_0 _)) <| .op I I (.load I I Y3 I) <| .op I I (.neg6 I I) <| .op I I (.castD (Row.enc (⟨[(⟨x4_19, (-1)⟩ : Term)], neg64 x36_21.lo⟩ : Row)) I (.build I Pl33 (.agg Zc33 (ds' := [_, _]) (.cons (.refl _) (.cons (.refl _) (.nil)))) I I)) <| .allocStore I I I I I I I I (by simp) I I Z33 <| .nil <| .seq <| .region <| .op I I (.move I I) <| .op I I (.castD (Term.enc (⟨x4_19, 1⟩ : Term)) I (.build I Pl41 (.agg Zc41 (ds' := [_, _]) (.cons (.refl _) (.cons (.refl _) (.nil)))) I I)) <| .op I I (.buildSl [_] I I E31 I (fun _ => I) I (enc := Term.enc)) <| .op I I (.move I I) <| .op I I (.move I I) <| bK h fun x46_22 hx46_22 h => .op I I (.idx I I I U48 S87 hx46_22) <| .op I I (.fieldAddr I I (G87_1 _)) <| .op I I (.load I I Y3 I) <| .op I I (.castD (Row.enc (⟨[(⟨x4_19, 1⟩ : Term)], x46_22.hi⟩ : Row)) I (.build I Pl33 (.agg Zc33 (ds' := [_, _]) (.cons (.refl _) (.cons (.refl _) (.nil)))) I I)) <| .allocStore I I I I I I I I (by simp) I I Z33 <| .nil <| .keep [] [1, 3, 4, 5, 6] (.c I <| .c I <| .c I <| .c I <| .c I .nil) I <| .seq <| .draw 23 Hm (by kernel_rfl) (by kernel_rfl) <| .op I I I I (.fieldAddr I I (G30_3 _)) <| .op I I I I (.load I I Y25 I) <| .op I I I I (.move I I) ?_
      refine .op I I I I (.mul6 I I I) <| bK h fun x54_23 hx54_23 h => .op I I I I (.idx I I I U25 S78 hx54_23) <| .op I I I I (.fieldAddr I I (G78_2 _)) <| .op I I I I (.load I I Y33 I) <| .op I I I I (.load I I Y33 I) <| bK h fun x58_24 hx58_24 h => .op I I I I (.call I K164 I (ref11_SameRow_ok _ _ _ _ hx58_24)) <| .op I I I I (.not I I) <| .op I I I I (.move I I) <| gK h fun hc_26 h => gK h fun hc_27 h => .jOr 11 (b2 := !((ref11_SameRow n (((idx t0.constraints (add64 (mul64 2 x4_19) 1)).getD default).row) (⟨[(⟨x4_19, 1⟩ : Term)], x46_22.hi⟩ : Row)).getD default)) I I I I (.inl I) (fun _ _ _ h1 => by cases h1) I I (fun hb_25 => ?_) ?_
      · refine .gop I I I I I I (.fieldAddr I I (G30_3 _)) <| .gop I I I I I I (.load I I Y25 I) <| .gop I I I I I I (.move I I) <| .gop I I I I I I (.mul6 I I I) <| .gop I I I I I I (.add6 I I I) <| .gop I I I I I I (.idx I I I U25 S78 (someD (impF hc_26 hb_25))) <| .gop I I I I I I (.fieldAddr I I (G78_2 _)) <| .gop I I I I I I (.load I I Y33 I) <| .gop I I I I I I (.load I I Y33 I) <| .gop I I I I I I (.call I K164 I (ref11_SameRow_ok _ _ _ _ (someD (impF hc_27 hb_25)))) <| .gop I I I I I I (.not I I) ?_
        exact .nil I
      refine .nil <| .nil <| .keep [] [1, 3, 4, 72] (.c I <| .c I <| .c I <| .c I .nil) I <| .condS I h (fun h => ?_) fun h => ?_
      · refine .seq <| .region <| .op I I (.assign I I) <| .nil <| .ret ?_
        cases h
        exact retOne I (.d _)
      · refine .skip <| .region <| .op I I (.move I I) <| .op I I (.add6 I I I) <| .op I I (.assign I I) <| .nil ?_
        exact ⟨_, h, ⟨_, I, I, I, I, I, I, trivial⟩⟩
    · refine .exit <| .seq <| .seq <| .region <| .op I I (.assign I I) <| .nil <| .block <| .loopS [1, 3] (fun (v : Int) => [(7, .d (.int v))]) (fun (v : Int) => []) (.c I <| .c I .nil) h ⟨_, I, I, I, I, I, I, trivial⟩ (fun rec_51 x7_50 h => ?_)
      refine .seq <| .seq <| .region <| .op I I (.move I I) <| .op I I (.fieldAddr I I (G30_3 _)) <| .op I I (.load I I Y25 I) <| .op I I (.len I U25 I) <| .op I I (.lss I I I) <| .nil <| .keep [] [1, 3, 7, 77] (.c I <| .c I <| .c I <| .c I .nil) I <| .condS I h (fun h => ?_) fun h => ?_
      · refine .skip <| .seq <| .block <| .seq <| .region <| .op I I (.fieldAddr I I (G30_3 _)) <| .op I I (.load I I Y25 I) <| .op I I (.move I I) <| bK h fun x83_52 hx83_52 h => .op I I (.idx I I I U25 S78 hx83_52) <| .op I I (.load I I Y78 I) <| .allocStore I I I I I I I I (by simp) I I Z78 <| .nil <| .seq <| .seq <| .plain 11 I <| .op I I I I (.fieldAddr I I (G78_1 _)) <| .op I I I I (.load I I Y3 I) <| .op I I I I (.lss I I I) <| .op I I I I (.move I I) <| .jOr 6 (b2 := decide ((t0.families.length : Int) ≤ x83_52.family)) I I I I (.inl I) (fun _ _ _ h1 => by cases h1) I I (fun hb_53 => ?_) ?_
        · refine .gop I I I I I I (.fieldAddr I I (G78_1 _)) <| .gop I I I I I I (.load I I Y3 I) <| .gop I I I I I I (.fieldAddr I I (G30_2 _)) <| .gop I I I I I I (.load I I Y24 I) <| .gop I I I I I I (.len I U24 I) <| .gop I I I I I I (.geq I I I) ?_
          exact .nil I
        refine .nil <| .nil <| .keep [] [1, 3, 7, 8, 95] (.c I <| .c I <| .c I <| .c I <| .c I .nil) I <| .condS I h (fun h => ?_) fun h => ?_
        · refine .seq <| .region <| .op I I (.assign I I) <| .nil <| .ret ?_
          cases h
          exact retOne I (.d _)
        · refine .skip <| .seq <| .plain 20 I <| .op I I I I (.fieldAddr I I (G78_0 _)) <| .op I I I I (.load I I Y3 I) <| .op I I I I (.eql I I I) <| .op I I I I (.move I I) <| .jAnd 3 (b2 := x83_52.first == 0) I I I I (.inl I) (fun _ _ _ h1 => by cases h1) I I (fun hb_54 => ?_) ?_
          · refine .gop I I I I I I (.fieldAddr I I (G78_3 _)) <| .gop I I I I I I (.load I I Y3 I) <| .gop I I I I I I (.eql I I I) ?_
            exact .nil I
          refine .op I I I I (.move I I) <| .jAnd 3 (b2 := x83_52.size == 0) I I I I (.inl I) (fun _ _ _ h1 => by cases h1) I I (fun hb_55 => ?_) ?_
          · refine .gop I I I I I I (.fieldAddr I I (G78_4 _)) <| .gop I I I I I I (.load I I Y3 I) <| .gop I I I I I I (.eql I I I) ?_
            exact .nil I
          refine .op I I I I (.move I I) <| gK h fun hc_57 h => .jAnd 5 (b2 := ((ref13_row n x83_52.row (x11_1.length : Int)).getD default)) I I I I (.inl I) (fun _ _ _ h1 => by cases h1) I I (fun hb_56 => ?_) ?_
          · refine .gop I I I I I I (.fieldAddr I I (G78_2 _)) <| .gop I I I I I I (.load I I Y33 I) <| .gop I I I I I I (.move I I) <| .gop I I I I I I (.len I U48 I) <| .gop I I I I I I (.call I K165 I (ref13_row_ok _ _ _ _ (someD (impT hc_57 hb_56)))) ?_
            exact .nil I
          refine .nil <| .op I I (.assign I I) <| .nil <| .keep [] [1, 3, 7, 8, 9] (.c I <| .c I <| .c I <| .c I <| .c I .nil) I <| .seq <| .plain 20 I <| .op I I I I (.move I I) <| .op I I I I (.not I I) <| .op I I I I (.move I I) <| gK h fun hc_61 h => .jAnd 16 (b2 := !(((decide (mul64 2 (x11_1.length : Int) ≤ x7_50)) && (x83_52.kind == 1)) && ((ref13_graph n t0 x83_52).getD default))) I I I I (.inl I) (fun _ _ _ h1 => by cases h1) I I (fun hb_58 => ?_) ?_
          · refine .gop I I I I I I (.move I I) <| .gop I I I I I I (.move I I) <| .gop I I I I I I (.len I U48 I) <| .gop I I I I I I (.mul6 I I I) <| .gop I I I I I I (.geq I I I) <| .gop I I I I I I (.move I I) <| .jAnd 3 (b2 := x83_52.kind == 1) I I I I (.inr ⟨_, _, _, I, I, I⟩) (fun _ _ _ h1 h2 => by cases h1; cases h2; decide) I I (fun hb_59 => ?_) ?_
            · refine .gop I I I I I I (.fieldAddr I I (G78_0 _)) <| .gop I I I I I I (.load I I Y3 I) <| .gop I I I I I I (.eql I I I) ?_
              exact .nil I
            refine .gop I I I I I I (.move I I) <| .jAnd 3 (b2 := ((ref13_graph n t0 x83_52).getD default)) I I I I (.inr ⟨_, _, _, I, I, I⟩) (fun _ _ _ h1 h2 => by cases h1; cases h2; decide) I I (fun hb_60 => ?_) ?_
            · refine .gop I I I I I I (.load I I Y30 I) <| .gop I I I I I I (.load I I Y78 I) <| .gop I I I I I I (.call I K166 I (ref13_graph_ok _ _ _ _ (someD (impT (impT hc_61 hb_58) hb_60)))) ?_
              exact .nil I
            refine .gop I I I I I I (.not I I) ?_
            exact .nil I
          refine .nil <| .nil <| .keep [] [1, 3, 7, 135] (.c I <| .c I <| .c I <| .c I .nil) I <| .condS I h (fun h => ?_) fun h => ?_
          · refine .seq <| .region <| .op I I (.assign I I) <| .nil <| .ret ?_
            cases h
            exact retOne I (.d _)
          · refine .skip <| .region <| .op I I (.move I I) <| .op I I (.add6 I I I) <| .op I I (.assign I I) <| .nil ?_
            exact ⟨_, h, ⟨_, I, I, I, I, I, I, trivial⟩⟩
      · refine .exit <| .seq <| .region <| .op I I (.assign I I) <| .nil <| .ret ?_
        cases h
        exact retOne I (.d _)
set_option maxHeartbeats 2000000 in
theorem ref13_less_ok (n : Nat) (t0 : List Int) (t1 : List Int) (r : Bool) (h : ref13_less n t0 t1 = some r) : Pure Tryz.prog 168 [.sl 1 (List.map D.int t0), .sl 1 (List.map D.int t1)] (.bool r) := by
  refine Pure.ot Tryz.func168 I Tryz.ntmps168 I fun A w => .seq <| .region <| .op I I (.assign I I) <| .nil <| .seq <| .seq <| .region <| .op I I (.assign I I) <| .nil <| .block <| .loopS [0, 1] (fun (v : Int) => [(5, .d (.int v))]) (fun (v : Int) => []) (.c I <| .c I .nil) h ⟨_, I, I, I, I, I, I, trivial⟩ (fun rec_14 x5_13 h => ?_)
  refine .seq <| .seq <| .plain 10 I <| .op I I I I (.move I I) <| .op I I I I (.move I I) <| .op I I I I (.len I U22 I) <| .op I I I I (.lss I I I) <| .op I I I I (.move I I) <| .jAnd 4 (b2 := decide (x5_13 < (t1.length : Int))) I I I I (.inl I) (fun _ _ _ h1 => by cases h1) I I (fun hb_15 => ?_) ?_
  · refine .gop I I I I I I (.move I I) <| .gop I I I I I I (.move I I) <| .gop I I I I I I (.len I U22 I) <| .gop I I I I I I (.lss I I I) ?_
    exact .nil I
  refine .nil <| .nil <| .keep [] [0, 1, 5, 15] (.c I <| .c I <| .c I <| .c I .nil) I <| .condS I h (fun h => ?_) fun h => ?_
  · refine .skip <| .seq <| .block <| .seq <| .draw 9 Hm (by kernel_rfl) (by kernel_rfl) <| .op I I I I (.move I I) <| .op I I I I (.move I I) <| bK h fun x20_16 hx20_16 h => .op I I I I (.idx I I I U22 S3 hx20_16) <| .op I I I I (.load I I Y3 I) <| .op I I I I (.move I I) <| .op I I I I (.move I I) <| bK h fun x24_17 hx24_17 h => .op I I I I (.idx I I I U22 S3 hx24_17) <| .op I I I I (.load I I Y3 I) <| .op I I I I (.neq I I I) <| .nil <| .nil <| .condS I h (fun h => ?_) fun h => ?_
    · refine .seq <| .draw 10 Hm (by kernel_rfl) (by kernel_rfl) <| .op I I I I (.move I I) <| .op I I I I (.move I I) <| bK h fun x29_18 hx29_18 h => .op I I I I (.idx I I I U22 S3 hx29_18) <| .op I I I I (.load I I Y3 I) <| .op I I I I (.move I I) <| .op I I I I (.move I I) <| bK h fun x33_19 hx33_19 h => .op I I I I (.idx I I I U22 S3 hx33_19) <| .op I I I I (.load I I Y3 I) <| .op I I I I (.lss I I I) <| .op I I I I (.assign I I) <| .nil <| .nil <| .keep [] [4] (.c I .nil) I <| .ret ?_
      cases h
      exact retOne I (.d _)
    · refine .skip <| .region <| .op I I (.move I I) <| .op I I (.add6 I I I) <| .op I I (.assign I I) <| .nil ?_
      exact ⟨_, h, ⟨_, I, I, I, I, I, I, trivial⟩⟩
  · refine .exit <| .seq <| .region <| .op I I (.move I I) <| .op I I (.len I U22 I) <| .op I I (.move I I) <| .op I I (.len I U22 I) <| .op I I (.lss I I I) <| .op I I (.assign I I) <| .nil <| .ret ?_
    cases h
    exact retOne I (.d _)
set_option maxHeartbeats 2000000 in
theorem ref09_nth_ok (n : Nat) (t0 : List Int) (t1 : List Int) (t2 : Int) (r : List Int) (h : ref09_nth n t0 t1 t2 = some r) : Pure Tryz.prog 225 [.sl 1 (List.map D.int t0), .sl 1 (List.map D.int t1), .int t2] (.sl 1 (List.map D.int r)) := by
  refine Pure.ot Tryz.func225 I Tryz.ntmps225 I fun A w => .seq <| .region <| .op I I (.nilS 1 (α := Int) D.int I) <| .nil <| .seq <| .region <| .op I I (.move I I) <| .op I I (.len I U22 I) <| bK h fun x11_1 hx11_1 h => .makeVec (enc := D.int) (z := (0 : Int)) I I I I E22 I I I (.val Zv3) hx11_1 <| .op I I (.assign I I) <| .nil <| .seq <| .seq <| .region <| .op I I (.move I I) <| .op I I (.len I U22 I) <| .op I I (.sub6 I I I) <| .op I I (.assign I I) <| .nil <| .block <| .loopS [0, 1] (fun (v : (List Int) × Int × Int) => [(2, .d (.int v.2.1)), (7, .vec 0 (List.length v.1)), (8, .d (.int v.2.2))]) (fun (v : (List Int) × Int × Int) => [(0, .vec 3 1 (List.map D.int v.1))]) (.c I <| .c I .nil) h ⟨_, I, I, I, I, I, I, I, I, trivial⟩ (fun rec_27 v h => ?_)
  obtain ⟨b0_24, x2_25, x8_26⟩ := v
  refine .seq <| .seq <| .region <| .op I I (.move I I) <| .op I I (.geq I I I) <| .nil <| .keep [.vec 3 1 (List.map D.int b0_24)] [0, 1, 2, 7, 8, 16] (.c I <| .c I <| .c I <| .c I <| .c I <| .c I .nil) I <| .condS I h (fun h => ?_) fun h => ?_
  · refine .skip <| .seq <| .block <| .seq <| .region <| .op I I (.move I I) <| .op I I (.move I I) <| .op I I (.move I I) <| .op I I (.move I I) <| .op I I (.move I I) <| .op I I (.move I I) <| bK h fun x25_28 hx25_28 h => .op I I (.idx I I I U22 S3 hx25_28) <| .op I I (.load I I Y3 I) <| bK h fun x27_29 hx27_29 h => .op I I (.idx I I I U22 S3 hx27_29) <| .op I I (.load I I Y3 I) <| bK h fun x29_30 hx29_30 h => .op I I (.rem6 I I I hx29_30) <| bK h fun x30_31 hx30_31 h => .op I I (.idxV I I I I I U22 S3 hx30_31) <| bK h fun b0_32 hb0_32 h => .storeEl (enc := D.int) I I I I I I I I I C3 hb0_32 <| .relen 7 I (sto_len hb0_32) <| .relen 19 I (sto_len hb0_32) <| .nil <| .region <| .op I I (.move I I) <| .op I I (.move I I) <| .op I I (.move I I) <| .op I I (.move I I) <| bK h fun x35_33 hx35_33 h => .op I I (.idx I I I U22 S3 hx35_33) <| .op I I (.load I I Y3 I) <| bK h fun x37_34 hx37_34 h => .op I I (.idx I I I U22 S3 hx37_34) <| .op I I (.load I I Y3 I) <| bK h fun x39_35 hx39_35 h => .op I I (.quo6 I I I hx39_35) <| .op I I (.assign I I) ?_
    refine .nil <| .keep [.vec 3 1 (List.map D.int b0_32)] [0, 1, 2, 7, 8] (.c I <| .c I <| .c I <| .c I <| .c I .nil) I <| .region <| .op I I (.move I I) <| .op I I (.sub6 I I I) <| .op I I (.assign I I) <| .nil ?_
    exact ⟨_, h, ⟨_, I, I, I, I, I, I, I, I, trivial⟩⟩
  · refine .exit <| .seq <| .region <| .op I I (.move I I) <| .op I I (.assign I I) <| .nil <| .ret ?_
    cases h
    exact retOne I (.vec I (by simp))
set_option maxHeartbeats 2000000 in
theorem ref09_Tuple_ok (n : Nat) (t0 : List Int) (t1 : List Table) (t2 : Bool) (t3 : Int) (r : Int × (List Int) × Bool) (h : ref09_Tuple n t0 t1 t2 t3 = some r) : Pure Tryz.prog 206 [.sl 1 (List.map D.int t0), .sl 6 (List.map Table.enc t1), .bool t2, .int t3] (.tup [.int r.1, .sl 1 (List.map D.int r.2.1), .bool r.2.2]) := by
  refine Pure.ot Tryz.func206 I Tryz.ntmps206 I fun A w => .seq <| .region <| .op I I (.assign I I) <| .op I I (.nilS 1 (α := Int) D.int I) <| .op I I (.assign I I) <| .nil <| .seq <| .seq <| .region <| .op I I (.move I I) <| .op I I (.move I I) <| bK h fun x15_1 hx15_1 h => .op I I (.call I K101 I (ref09_Valid_ok _ _ _ _ hx15_1)) <| .op I I (.not I I) <| .nil <| .condS I h (fun h => ?_) fun h => ?_
  · refine .seq <| .region <| .op I I (.assign I I) <| .op I I (.nilS 1 (α := Int) D.int I) <| .op I I (.assign I I) <| .nil <| .ret ?_
    cases h
    exact retThree I I I (.d _) (.d _) (.d _)
  · refine .skip <| .seq <| .seq <| .region <| .op I I (.assign I I) <| .nil <| .block <| .loopS [0, 1, 2, 3] (fun (v : Int) => [(11, .d (.int v))]) (fun (v : Int) => []) (.c I <| .c I <| .c I <| .c I .nil) h ⟨_, I, I, I, I, I, I, I, I, trivial⟩ (fun rec_25 x11_24 h => ?_)
    refine .seq <| .seq <| .region <| .op I I (.move I I) <| .op I I (.move I I) <| .op I I (.len I U23 I) <| .op I I (.lss I I I) <| .nil <| .keep [] [0, 1, 2, 3, 11, 20] (.c I <| .c I <| .c I <| .c I <| .c I <| .c I .nil) I <| .condS I h (fun h => ?_) fun h => ?_
    · refine .skip <| .seq <| .block <| .seq <| .region <| .op I I (.move I I) <| .op I I (.move I I) <| .op I I (.move I I) <| bK h fun x26_26 hx26_26 h => .op I I (.idx I I I U23 S127 hx26_26) <| .op I I (.fieldAddr I I (G127_4 _)) <| .op I I (.load I I Y3 I) <| .op I I (.sub6 I I I) <| .op I I (.assign I I) <| .nil <| .seq <| .plain 27 I <| .op I I I I (.move I I) <| .op I I I I (.move I I) <| bK h fun x32_27 hx32_27 h => .op I I I I (.idx I I I U23 S127 hx32_27) <| .op I I I I (.fieldAddr I I (G127_1 _)) <| .op I I I I (.load I I Y3 I) <| bK h fun x35_28 hx35_28 h => .op I I I I (.call I K139 I (ref09_strict_ok _ _ _ hx35_28)) <| .op I I I I (.move I I) <| .op I I I I (.beq I U4 I I) <| .op I I I I (.move I I) <| .jAnd 2 (b2 := decide (0 ≤ t3)) I I I I (.inl I) (fun _ _ _ h1 => by cases h1) I I (fun hb_29 => ?_) ?_
      · refine .gop I I I I I I (.move I I) <| .gop I I I I I I (.geq I I I) ?_
        exact .nil I
      refine .op I I I I (.move I I) <| .jAnd 2 (b2 := decide (0 ≤ sub64 t3 x26_26.first)) I I I I (.inl I) (fun _ _ _ h1 => by cases h1) I I (fun hb_30 => ?_) ?_
      · refine .gop I I I I I I (.move I I) <| .gop I I I I I I (.geq I I I) ?_
        exact .nil I
      refine .op I I I I (.move I I) <| gK h fun hc_32 h => gK h fun hc_33 h => .jAnd 9 (b2 := decide (sub64 t3 x26_26.first < ((ref09_number n t0 (((idx t1 x11_24).getD default).columns)).getD default))) I I I I (.inl I) (fun _ _ _ h1 => by cases h1) I I (fun hb_31 => ?_) ?_
      · refine .gop I I I I I I (.move I I) <| .gop I I I I I I (.move I I) <| .gop I I I I I I (.move I I) <| .gop I I I I I I (.move I I) <| .gop I I I I I I (.idx I I I U23 S127 (someD (impT hc_32 hb_31))) <| .gop I I I I I I (.fieldAddr I I (G127_2 _)) <| .gop I I I I I I (.load I I Y22 I) <| .gop I I I I I I (.call I K140 I (ref09_number_ok _ _ _ _ (someD (impT hc_33 hb_31)))) <| .gop I I I I I I (.lss I I I) ?_
        exact .nil I
      refine .nil <| .nil <| .keep [] [0, 1, 2, 3, 11, 12, 56] (.c I <| .c I <| .c I <| .c I <| .c I <| .c I <| .c I .nil) I <| .condS I h (fun h => ?_) fun h => ?_
      · refine .seq <| .region <| .op I I (.move I I) <| .op I I (.move I I) <| .op I I (.move I I) <| .op I I (.move I I) <| bK h fun x61_34 hx61_34 h => .op I I (.idx I I I U23 S127 hx61_34) <| .op I I (.fieldAddr I I (G127_2 _)) <| .op I I (.load I I Y22 I) <| .op I I (.move I I) <| bK h fun x65_35 hx65_35 h => .op I I (.call I K225 I (ref09_nth_ok _ _ _ _ _ hx65_35)) <| .op I I (.assign I I) <| .op I I (.assign I I) <| .op I I (.assign I I) <| .nil <| .ret ?_
        cases h
        exact retThree I I I (.d _) (.d _) (.d _)
      · refine .skip <| .region <| .op I I (.move I I) <| .op I I (.add6 I I I) <| .op I I (.assign I I) <| .nil ?_
        exact ⟨_, h, ⟨_, I, I, I, I, I, I, I, I, trivial⟩⟩
    · refine .exit <| .seq <| .region <| .op I I (.assign I I) <| .op I I (.nilS 1 (α := Int) D.int I) <| .op I I (.assign I I) <| .nil <| .ret ?_
      cases h
      exact retThree I I I (.d _) (.d _) (.d _)
theorem ref13_set_ok (n : Nat) (t0 : Int) (r : Bool) (h : ref13_set n t0 = some r) : Pure Tryz.prog 207 [.int t0] (.bool r) := by
  refine Pure.ot Tryz.func207 I Tryz.ntmps207 I fun A w => .seq <| .region <| .op I I (.assign I I) <| .nil <| .seq <| .plain 6 I <| .op I I I I (.move I I) <| .op I I I I (.eql I I I) <| .op I I I I (.move I I) <| .jOr 2 (b2 := t0 == 3) I I I I (.inl I) (fun _ _ _ h1 => by cases h1) I I (fun hb_1 => ?_) ?_
  · refine .gop I I I I I I (.move I I) <| .gop I I I I I I (.eql I I I) ?_
    exact .nil I
  refine .nil <| .op I I (.assign I I) <| .nil <| .ret ?_
  cases h
  exact retOne I (.d _)
set_option maxHeartbeats 2000000 in
theorem ref13_effect_ok (n : Nat) (t0 : Model) (t1 : Effect) (r : Bool) (h : ref13_effect n t0 t1 = some r) : Pure Tryz.prog 169 [Model.enc t0, Effect.enc t1] (.bool r) := by
  refine Pure.ot Tryz.func169 I Tryz.ntmps169 I fun A w => .seq <| .region <| .op I I (.box I I) <| .op I I (.box I I) <| .op I I (.assign I I) <| .nil <| .seq <| .region <| .op I I (.load I I Y30 I) <| bK h fun x16_1 hx16_1 h => .op I I (.call I K38 I (ref13_strict_ok _ _ _ hx16_1)) <| .op I I (.len I U48 I) <| .op I I (.assign I I) <| .nil <| .seq <| .seq <| .region <| .op I I (.assign I I) <| .nil <| .block <| .loopS [2, 3, 5] (fun (v : Int) => [(6, .d (.int v))]) (fun (v : Int) => []) (.c I <| .c I <| .c I .nil) h ⟨_, I, I, I, I, I, I, I, trivial⟩ (fun rec_21 x6_20 h => ?_)
  refine .seq <| .seq <| .region <| .op I I (.move I I) <| .op I I (.fieldAddr I I (G82_0 _)) <| .op I I (.load I I Y79 I) <| .op I I (.len I U79 I) <| .op I I (.lss I I I) <| .nil <| .keep [] [2, 3, 5, 6, 22] (.c I <| .c I <| .c I <| .c I <| .c I .nil) I <| .condS I h (fun h => ?_) fun h => ?_
  · refine .skip <| .seq <| .block <| .seq <| .region <| .op I I (.fieldAddr I I (G82_0 _)) <| .op I I (.load I I Y79 I) <| .op I I (.move I I) <| bK h fun x28_22 hx28_22 h => .op I I (.idx I I I U79 S131 hx28_22) <| .op I I (.load I I Y131 I) <| .allocStore I I I I I I I I (by simp) I I Z131 <| .nil <| .seq <| .draw 36 Hm (by kernel_rfl) (by kernel_rfl) <| .op I I I I (.fieldAddr I I (G131_0 _)) <| .op I I I I (.load I I Y3 I) <| .op I I I I (.lss I I I) <| .op I I I I (.move I I) <| .jOr 4 (b2 := decide ((x16_1.length : Int) ≤ x28_22.cell)) I I I I (.inl I) (fun _ _ _ h1 => by cases h1) I I (fun hb_23 => ?_) ?_
    · refine .gop I I I I I I (.fieldAddr I I (G131_0 _)) <| .gop I I I I I I (.load I I Y3 I) <| .gop I I I I I I (.move I I) <| .gop I I I I I I (.geq I I I) ?_
      exact .nil I
    refine .op I I I I (.move I I) <| gK h fun hc_26 h => .jOr 14 (b2 := (decide (0 < x6_20)) && (decide (x28_22.cell ≤ ((idx t1.delta (sub64 x6_20 1)).getD default).cell))) I I I I (.inl I) (fun _ _ _ h1 => by cases h1) I I (fun hb_24 => ?_) ?_
    · refine .gop I I I I I I (.move I I) <| .gop I I I I I I (.gtr I I I) <| .gop I I I I I I (.move I I) <| .jAnd 10 (b2 := decide (x28_22.cell ≤ ((idx t1.delta (sub64 x6_20 1)).getD default).cell)) I I I I (.inr ⟨_, _, _, I, I, I⟩) (fun _ _ _ h1 h2 => by cases h1; cases h2; decide) I I (fun hb_25 => ?_) ?_
      · refine .gop I I I I I I (.fieldAddr I I (G82_0 _)) <| .gop I I I I I I (.load I I Y79 I) <| .gop I I I I I I (.move I I) <| .gop I I I I I I (.sub6 I I I) <| .gop I I I I I I (.idx I I I U79 S131 (someD (impT (impF hc_26 hb_24) hb_25))) <| .gop I I I I I I (.fieldAddr I I (G131_0 _)) <| .gop I I I I I I (.load I I Y3 I) <| .gop I I I I I I (.fieldAddr I I (G131_0 _)) <| .gop I I I I I I (.load I I Y3 I) <| .gop I I I I I I (.geq I I I) ?_
        exact .nil I
      exact .nil I
    refine .op I I I I (.move I I) <| .jOr 3 (b2 := x28_22.add == 0) I I I I (.inl I) (fun _ _ _ h1 => by cases h1) I I (fun hb_27 => ?_) ?_
    · refine .gop I I I I I I (.fieldAddr I I (G131_1 _)) <| .gop I I I I I I (.load I I Y3 I) <| .gop I I I I I I (.eql I I I) ?_
      exact .nil I
    refine .op I I I I (.move I I) <| gK h fun hc_29 h => .jOr 4 (b2 := !((ref13_between n x28_22.add 1000000000).getD default)) I I I I (.inl I) (fun _ _ _ h1 => by cases h1) I I (fun hb_28 => ?_) ?_
    · refine .gop I I I I I I (.fieldAddr I I (G131_1 _)) <| .gop I I I I I I (.load I I Y3 I) <| .gop I I I I I I (.call I K167 I (ref13_between_ok _ _ _ _ (someD (impF hc_29 hb_28)))) <| .gop I I I I I I (.not I I) ?_
      exact .nil I
    refine .nil <| .nil <| .keep [] [2, 3, 5, 6, 65] (.c I <| .c I <| .c I <| .c I <| .c I .nil) I <| .condS I h (fun h => ?_) fun h => ?_
    · refine .seq <| .region <| .op I I (.assign I I) <| .nil <| .ret ?_
      cases h
      exact retOne I (.d _)
    · refine .skip <| .region <| .op I I (.move I I) <| .op I I (.add6 I I I) <| .op I I (.assign I I) <| .nil ?_
      exact ⟨_, h, ⟨_, I, I, I, I, I, I, I, trivial⟩⟩
  · refine .exit <| .seq <| .seq <| .region <| .op I I (.assign I I) <| .nil <| .block <| .loopS [2, 3, 5] (fun (v : Int) => [(8, .d (.int v))]) (fun (v : Int) => []) (.c I <| .c I <| .c I .nil) h ⟨_, I, I, I, I, I, I, I, trivial⟩ (fun rec_37 x8_36 h => ?_)
    refine .seq <| .seq <| .region <| .op I I (.move I I) <| .op I I (.fieldAddr I I (G82_1 _)) <| .op I I (.load I I Y49 I) <| .op I I (.len I U49 I) <| .op I I (.lss I I I) <| .nil <| .keep [] [2, 3, 5, 8, 70] (.c I <| .c I <| .c I <| .c I <| .c I .nil) I <| .condS I h (fun h => ?_) fun h => ?_
    · refine .skip <| .seq <| .block <| .seq <| .region <| .op I I (.fieldAddr I I (G82_1 _)) <| .op I I (.load I I Y49 I) <| .op I I (.move I I) <| bK h fun x76_38 hx76_38 h => .op I I (.idx I I I U49 S33 hx76_38) <| .op I I (.load I I Y33 I) <| .op I I (.move I I) <| bK h fun x79_39 hx79_39 h => .op I I (.call I K165 I (ref13_row_ok _ _ _ _ hx79_39)) <| .op I I (.not I I) <| .nil <| .condS I h (fun h => ?_) fun h => ?_
      · refine .seq <| .region <| .op I I (.assign I I) <| .nil <| .ret ?_
        cases h
        exact retOne I (.d _)
      · refine .skip <| .region <| .op I I (.move I I) <| .op I I (.add6 I I I) <| .op I I (.assign I I) <| .nil ?_
        exact ⟨_, h, ⟨_, I, I, I, I, I, I, I, trivial⟩⟩
    · refine .exit <| .seq <| .seq <| .region <| .op I I (.assign I I) <| .nil <| .block <| .loopS [2, 3] (fun (v : Int) => [(9, .d (.int v))]) (fun (v : Int) => []) (.c I <| .c I .nil) h ⟨_, I, I, I, I, I, I, trivial⟩ (fun rec_71 x9_70 h => ?_)
      refine .seq <| .seq <| .region <| .op I I (.move I I) <| .op I I (.fieldAddr I I (G82_2 _)) <| .op I I (.load I I Y80 I) <| .op I I (.len I U80 I) <| .op I I (.lss I I I) <| .nil <| .keep [] [2, 3, 9, 85] (.c I <| .c I <| .c I <| .c I .nil) I <| .condS I h (fun h => ?_) fun h => ?_
      · refine .skip <| .seq <| .block <| .seq <| .region <| .op I I (.fieldAddr I I (G82_2 _)) <| .op I I (.load I I Y80 I) <| .op I I (.move I I) <| bK h fun x91_72 hx91_72 h => .op I I (.idx I I I U80 S218 hx91_72) <| .op I I (.load I I Y218 I) <| .allocStore I I I I I I I I (by simp) I I Z218 <| .nil <| .seq <| .region <| .op I I (.fieldAddr I I (G30_0 _)) <| .op I I (.load I I Y22 I) <| .op I I (.fieldAddr I I (G30_1 _)) <| .op I I (.load I I Y23 I) <| .op I I (.fieldAddr I I (G218_1 _)) <| .op I I (.load I I Y3 I) <| bK h fun x100_73 hx100_73 h => .op I I (.call I K206 I (ref09_Tuple_ok _ _ _ _ _ _ hx100_73)) <| .op I I (.move I I) <| .op I I (.extract I I I) <| .op I I (.extract I I I) <| .op I I (.extract I I I) <| .op I I (.assign I I) <| .op I I (.assign I I) <| .op I I (.assign I I) <| .nil <| .keep [] [2, 3, 9, 10, 11, 13] (.c I <| .c I <| .c I <| .c I <| .c I <| .c I .nil) I <| .seq <| .seq <| .draw 18 Hm (by kernel_rfl) (by kernel_rfl) <| .op I I I I (.move I I) <| .op I I I I (.not I I) <| .op I I I I (.move I I) <| gK h fun hc_76 h => .jOr 14 (b2 := (decide (0 < x9_70)) && (decide (x91_72.cell ≤ ((idx t1.updates (sub64 x9_70 1)).getD default).cell))) I I I I (.inl I) (fun _ _ _ h1 => by cases h1) I I (fun hb_74 => ?_) ?_
        · refine .gop I I I I I I (.move I I) <| .gop I I I I I I (.gtr I I I) <| .gop I I I I I I (.move I I) <| .jAnd 10 (b2 := decide (x91_72.cell ≤ ((idx t1.updates (sub64 x9_70 1)).getD default).cell)) I I I I (.inr ⟨_, _, _, I, I, I⟩) (fun _ _ _ h1 h2 => by cases h1; cases h2; decide) I I (fun hb_75 => ?_) ?_
          · refine .gop I I I I I I (.fieldAddr I I (G82_2 _)) <| .gop I I I I I I (.load I I Y80 I) <| .gop I I I I I I (.move I I) <| .gop I I I I I I (.sub6 I I I) <| .gop I I I I I I (.idx I I I U80 S218 (someD (impT (impF hc_76 hb_74) hb_75))) <| .gop I I I I I I (.fieldAddr I I (G218_1 _)) <| .gop I I I I I I (.load I I Y3 I) <| .gop I I I I I I (.fieldAddr I I (G218_1 _)) <| .gop I I I I I I (.load I I Y3 I) <| .gop I I I I I I (.geq I I I) ?_
            exact .nil I
          exact .nil I
        refine .nil <| .nil <| .keep [] [2, 3, 9, 10, 11, 121] (.c I <| .c I <| .c I <| .c I <| .c I <| .c I .nil) I <| .condS I h (fun h => ?_) fun h => ?_
        · refine .seq <| .region <| .op I I (.assign I I) <| .nil <| .ret ?_
          cases h
          exact retOne I (.d _)
        · refine .skip <| .seq <| .region <| .op I I (.fieldAddr I I (G30_1 _)) <| .op I I (.load I I Y23 I) <| .op I I (.move I I) <| bK h fun x125_77 hx125_77 h => .op I I (.idx I I I U23 S127 hx125_77) <| .op I I (.load I I Y127 I) <| .allocStore I I I I I I I I (by simp) I I Z127 <| .nil <| .seq <| .seq <| .plain 18 I <| .op I I I I (.fieldAddr I I (G127_1 _)) <| .op I I I I (.load I I Y3 I) <| bK h fun x129_78 hx129_78 h => .op I I I I (.call I K207 I (ref13_set_ok _ _ _ hx129_78)) <| .op I I I I (.move I I) <| .jAnd 13 (b2 := ((x91_72.kind != 0) && (x91_72.kind != 1)) || (x91_72.value != 0)) I I I I (.inl I) (fun _ _ _ h1 => by cases h1) I I (fun hb_79 => ?_) ?_
          · refine .gop I I I I I I (.fieldAddr I I (G218_0 _)) <| .gop I I I I I I (.load I I Y3 I) <| .gop I I I I I I (.neq I I I) <| .gop I I I I I I (.move I I) <| .jAnd 3 (b2 := x91_72.kind != 1) I I I I (.inr ⟨_, _, _, I, I, I⟩) (fun _ _ _ h1 h2 => by cases h1; cases h2; decide) I I (fun hb_80 => ?_) ?_
            · refine .gop I I I I I I (.fieldAddr I I (G218_0 _)) <| .gop I I I I I I (.load I I Y3 I) <| .gop I I I I I I (.neq I I I) ?_
              exact .nil I
            refine .gop I I I I I I (.move I I) <| .jOr 3 (b2 := x91_72.value != 0) I I I I (.inr ⟨_, _, _, I, I, I⟩) (fun _ _ _ h1 h2 => by cases h1; cases h2; decide) I I (fun hb_81 => ?_) ?_
            · refine .gop I I I I I I (.fieldAddr I I (G218_2 _)) <| .gop I I I I I I (.load I I Y3 I) <| .gop I I I I I I (.neq I I I) ?_
              exact .nil I
            exact .nil I
          refine .nil <| .nil <| .keep [] [2, 3, 9, 10, 14, 144] (.c I <| .c I <| .c I <| .c I <| .c I <| .c I .nil) I <| .condS I h (fun h => ?_) fun h => ?_
          · refine .seq <| .region <| .op I I (.assign I I) <| .nil <| .ret ?_
            cases h
            exact retOne I (.d _)
          · refine .skip <| .seq <| .plain 25 I <| .op I I I I (.fieldAddr I I (G127_1 _)) <| .op I I I I (.load I I Y3 I) <| bK h fun x147_82 hx147_82 h => .op I I I I (.call I K207 I (ref13_set_ok _ _ _ hx147_82)) <| .op I I I I (.not I I) <| .op I I I I (.move I I) <| .jAnd 19 (b2 := ((x91_72.kind != 2) || (decide (x91_72.value < x125_77.range.lo))) || (decide (x125_77.range.hi < x91_72.value))) I I I I (.inl I) (fun _ _ _ h1 => by cases h1) I I (fun hb_83 => ?_) ?_
            · refine .gop I I I I I I (.fieldAddr I I (G218_0 _)) <| .gop I I I I I I (.load I I Y3 I) <| .gop I I I I I I (.neq I I I) <| .gop I I I I I I (.move I I) <| .jOr 6 (b2 := decide (x91_72.value < x125_77.range.lo)) I I I I (.inr ⟨_, _, _, I, I, I⟩) (fun _ _ _ h1 h2 => by cases h1; cases h2; decide) I I (fun hb_84 => ?_) ?_
              · refine .gop I I I I I I (.fieldAddr I I (G218_2 _)) <| .gop I I I I I I (.load I I Y3 I) <| .gop I I I I I I (.fieldAddr I I (G127_3 _)) <| .gop I I I I I I (.fieldAddr I I (G87_0 _)) <| .gop I I I I I I (.load I I Y3 I) <| .gop I I I I I I (.lss I I I) ?_
                exact .nil I
              refine .gop I I I I I I (.move I I) <| .jOr 6 (b2 := decide (x125_77.range.hi < x91_72.value)) I I I I (.inr ⟨_, _, _, I, I, I⟩) (fun _ _ _ h1 h2 => by cases h1; cases h2; decide) I I (fun hb_85 => ?_) ?_
              · refine .gop I I I I I I (.fieldAddr I I (G218_2 _)) <| .gop I I I I I I (.load I I Y3 I) <| .gop I I I I I I (.fieldAddr I I (G127_3 _)) <| .gop I I I I I I (.fieldAddr I I (G87_1 _)) <| .gop I I I I I I (.load I I Y3 I) <| .gop I I I I I I (.gtr I I I) ?_
                exact .nil I
              exact .nil I
            refine .nil <| .nil <| .keep [] [2, 3, 9, 169] (.c I <| .c I <| .c I <| .c I .nil) I <| .condS I h (fun h => ?_) fun h => ?_
            · refine .seq <| .region <| .op I I (.assign I I) <| .nil <| .ret ?_
              cases h
              exact retOne I (.d _)
            · refine .skip <| .region <| .op I I (.move I I) <| .op I I (.add6 I I I) <| .op I I (.assign I I) <| .nil ?_
              exact ⟨_, h, ⟨_, I, I, I, I, I, I, trivial⟩⟩
      · refine .exit <| .seq <| .plain 10 I <| .op I I I I (.fieldAddr I I (G82_1 _)) <| .op I I I I (.load I I Y49 I) <| .op I I I I (.len I U49 I) <| .op I I I I (.leq I I I) <| .op I I I I (.move I I) <| .jAnd 4 (b2 := decide ((t1.updates.length : Int) ≤ 32)) I I I I (.inl I) (fun _ _ _ h1 => by cases h1) I I (fun hb_86 => ?_) ?_
        · refine .gop I I I I I I (.fieldAddr I I (G82_2 _)) <| .gop I I I I I I (.load I I Y80 I) <| .gop I I I I I I (.len I U80 I) <| .gop I I I I I I (.leq I I I) ?_
          exact .nil I
        refine .nil <| .op I I (.assign I I) <| .nil <| .ret ?_
        cases h
        exact retOne I (.d _)
set_option maxHeartbeats 2000000 in
theorem ref13_actions_ok (n : Nat) (t0 : Model) (r : Bool) (h : ref13_actions n t0 = some r) : Pure Tryz.prog 104 [Model.enc t0] (.bool r) := by
  refine Pure.ot Tryz.func104 I Tryz.ntmps104 I fun A w => .seq <| .region <| .op I I (.box I I) <| .op I I (.assign I I) <| .nil <| .seq <| .region <| .buildVec [] I I I I I E24 I (fun _ => I) I (enc := D.str) <| .op I I (.assign I I) <| .nil <| .seq <| .seq <| .region <| .op I I (.assign I I) <| .nil <| .block <| .loopS [1] (fun (v : (List (List UInt8)) × Int) => [(3, .vec 0 (List.length v.1)), (4, .d (.int v.2))]) (fun (v : (List (List UInt8)) × Int) => [(0, .vec 9 1 (List.map D.str v.1))]) (.c I .nil) h ⟨_, I, I, I, I, I, I, trivial⟩ (fun rec_37 v h => ?_)
  obtain ⟨b0_35, x4_36⟩ := v
  refine .seq <| .seq <| .region <| .op I I (.move I I) <| .op I I (.fieldAddr I I (G30_4 _)) <| .op I I (.load I I Y26 I) <| .op I I (.len I U26 I) <| .op I I (.lss I I I) <| .nil <| .keep [.vec 9 1 (List.map D.str b0_35)] [1, 3, 4, 17] (.c I <| .c I <| .c I <| .c I .nil) I <| .condS I h (fun h => ?_) fun h => ?_
  · refine .skip <| .seq <| .block <| .seq <| .region <| .op I I (.fieldAddr I I (G30_4 _)) <| .op I I (.load I I Y26 I) <| .op I I (.move I I) <| bK h fun x23_38 hx23_38 h => .op I I (.idx I I I U26 S129 hx23_38) <| .op I I (.load I I Y129 I) <| .allocStore I I I I I I I I (by simp) I I Z129 <| .nil <| .seq <| .region <| .op I I (.move I I) <| .op I I (.fieldAddr I I (G129_0 _)) <| .op I I (.load I I Y9 I) <| .op I I (.buildSl [_] I I E24 I (fun _ => I) I (enc := D.str)) <| bK h fun x29_39 hx29_39 h => .app I I I I I I I I E24 I (fun _ => I) hx29_39 <| .op I I (.assign I I) <| .nil <| .seq <| .seq <| .region <| .op I I (.assign I I) <| .nil <| .block <| .loopS [1, 3, 4, 5] (fun (v : Int) => [(6, .d (.int v))]) (fun (v : Int) => []) (.c I <| .c I <| .c I <| .c I .nil) h ⟨_, I, I, I, I, I, I, I, I, trivial⟩ (fun rec_49 x6_48 h => ?_)
    refine .seq <| .seq <| .region <| .op I I (.move I I) <| .op I I (.fieldAddr I I (G129_2 _)) <| .op I I (.load I I Y22 I) <| .op I I (.len I U22 I) <| .op I I (.lss I I I) <| .nil <| .keep [.vec 9 1 (List.map D.str x29_39)] [1, 3, 4, 5, 6, 34] (.c I <| .c I <| .c I <| .c I <| .c I <| .c I .nil) I <| .condS I h (fun h => ?_) fun h => ?_
    · refine .skip <| .seq <| .block <| .seq <| .draw 17 Hm (by kernel_rfl) (by kernel_rfl) <| .op I I I I (.fieldAddr I I (G129_2 _)) <| .op I I I I (.load I I Y22 I) <| .op I I I I (.move I I) <| bK h fun x40_50 hx40_50 h => .op I I I I (.idx I I I U22 S3 hx40_50) <| .op I I I I (.load I I Y3 I) <| .op I I I I (.lss I I I) <| .op I I I I (.move I I) <| gK h fun hc_52 h => .jOr 9 (b2 := decide ((t0.sorts.length : Int) ≤ ((idx x23_38.sorts x6_48).getD default))) I I I I (.inl I) (fun _ _ _ h1 => by cases h1) I I (fun hb_51 => ?_) ?_
      · refine .gop I I I I I I (.fieldAddr I I (G129_2 _)) <| .gop I I I I I I (.load I I Y22 I) <| .gop I I I I I I (.move I I) <| .gop I I I I I I (.idx I I I U22 S3 (someD (impF hc_52 hb_51))) <| .gop I I I I I I (.load I I Y3 I) <| .gop I I I I I I (.fieldAddr I I (G30_0 _)) <| .gop I I I I I I (.load I I Y22 I) <| .gop I I I I I I (.len I U22 I) <| .gop I I I I I I (.geq I I I) ?_
        exact .nil I
      refine .nil <| .nil <| .keep [.vec 9 1 (List.map D.str x29_39)] [1, 3, 4, 5, 6, 53] (.c I <| .c I <| .c I <| .c I <| .c I <| .c I .nil) I <| .condS I h (fun h => ?_) fun h => ?_
      · refine .seq <| .region <| .op I I (.assign I I) <| .nil <| .ret ?_
        cases h
        exact retOne I (.d _)
      · refine .skip <| .region <| .op I I (.move I I) <| .op I I (.add6 I I I) <| .op I I (.assign I I) <| .nil ?_
        exact ⟨_, h, ⟨_, I, I, I, I, I, I, I, I, trivial⟩⟩
    · refine .exit <| .seq <| .region <| .op I I (.fieldAddr I I (G129_2 _)) <| .op I I (.load I I Y22 I) <| .op I I (.len I U22 I) <| .op I I (.gtr I I I) <| .nil <| .condS I h (fun h => ?_) fun h => ?_
      · refine .seq <| .region <| .op I I (.assign I I) <| .nil <| .ret ?_
        cases h
        exact retOne I (.d _)
      · refine .skip <| .region <| .op I I (.move I I) <| .op I I (.add6 I I I) <| .op I I (.assign I I) <| .nil ?_
        exact ⟨_, h, ⟨_, I, I, I, I, I, I, trivial⟩⟩
  · refine .exit <| .seq <| .seq <| .plain 15 I <| .op I I I I (.fieldAddr I I (G30_4 _)) <| .op I I I I (.load I I Y26 I) <| .op I I I I (.len I U26 I) <| .op I I I I (.gtr I I I) <| .op I I I I (.move I I) <| gK h fun hc_54 h => .jOr 3 (b2 := !((ref13_distinct n b0_35).getD default)) I I I I (.inl I) (fun _ _ _ h1 => by cases h1) I I (fun hb_53 => ?_) ?_
    · refine .gop I I I I I I (.move I I) <| .gop I I I I I I (.callB I K102 (.cons I (.vec I (by simp)) (.nil)) I (ref13_distinct_ok _ _ _ (someD (impF hc_54 hb_53)))) <| .gop I I I I I I (.not I I) ?_
      exact .nil I
    refine .op I I I I (.move I I) <| .jOr 4 (b2 := decide (256 < (t0.actions.length : Int))) I I I I (.inl I) (fun _ _ _ h1 => by cases h1) I I (fun hb_55 => ?_) ?_
    · refine .gop I I I I I I (.fieldAddr I I (G30_5 _)) <| .gop I I I I I I (.load I I Y27 I) <| .gop I I I I I I (.len I U27 I) <| .gop I I I I I I (.gtr I I I) ?_
      exact .nil I
    refine .nil <| .nil <| .condS I h (fun h => ?_) fun h => ?_
    · refine .seq <| .region <| .op I I (.assign I I) <| .nil <| .keep [.vec 9 1 (List.map D.str b0_35)] [2] (.c I .nil) I <| .ret ?_
      cases h
      exact retOne I (.d _)
    · refine .skip <| .seq <| .seq <| .region <| .op I I (.assign I I) <| .nil <| .keep [.vec 9 1 (List.map D.str b0_35)] [1, 7] (.c I <| .c I .nil) I <| .block <| .loopS [1] (fun (v : Int) => [(7, .d (.int v))]) (fun (v : Int) => []) (.c I .nil) h ⟨_, I, I, I, I, I, trivial⟩ (fun rec_153 x7_152 h => ?_)
      refine .seq <| .seq <| .region <| .op I I (.move I I) <| .op I I (.fieldAddr I I (G30_5 _)) <| .op I I (.load I I Y27 I) <| .op I I (.len I U27 I) <| .op I I (.lss I I I) <| .nil <| .keep [.vec 9 1 (List.map D.str b0_35)] [1, 7, 77] (.c I <| .c I <| .c I .nil) I <| .condS I h (fun h => ?_) fun h => ?_
      · refine .skip <| .seq <| .block <| .seq <| .region <| .op I I (.fieldAddr I I (G30_5 _)) <| .op I I (.load I I Y27 I) <| .op I I (.move I I) <| bK h fun x83_154 hx83_154 h => .op I I (.idx I I I U27 S84 hx83_154) <| .op I I (.load I I Y84 I) <| .allocStore I I I I I I I I (by simp) I I Z84 <| .nil <| .seq <| .seq <| .draw 25 Hm (by kernel_rfl) (by kernel_rfl) <| .op I I I I (.fieldAddr I I (G84_0 _)) <| .op I I I I (.load I I Y3 I) <| .op I I I I (.lss I I I) <| .op I I I I (.move I I) <| .jOr 6 (b2 := decide ((t0.operations.length : Int) ≤ x83_154.operation)) I I I I (.inl I) (fun _ _ _ h1 => by cases h1) I I (fun hb_155 => ?_) ?_
        · refine .gop I I I I I I (.fieldAddr I I (G84_0 _)) <| .gop I I I I I I (.load I I Y3 I) <| .gop I I I I I I (.fieldAddr I I (G30_4 _)) <| .gop I I I I I I (.load I I Y26 I) <| .gop I I I I I I (.len I U26 I) <| .gop I I I I I I (.geq I I I) ?_
          exact .nil I
        refine .op I I I I (.move I I) <| gK h fun hc_157 h => .jOr 12 (b2 := (x83_154.arguments.length : Int) != ((((idx t0.operations x83_154.operation).getD default).sorts).length : Int)) I I I I (.inl I) (fun _ _ _ h1 => by cases h1) I I (fun hb_156 => ?_) ?_
        · refine .gop I I I I I I (.fieldAddr I I (G84_1 _)) <| .gop I I I I I I (.load I I Y22 I) <| .gop I I I I I I (.len I U22 I) <| .gop I I I I I I (.fieldAddr I I (G30_4 _)) <| .gop I I I I I I (.load I I Y26 I) <| .gop I I I I I I (.fieldAddr I I (G84_0 _)) <| .gop I I I I I I (.load I I Y3 I) <| .gop I I I I I I (.idx I I I U26 S129 (someD (impF hc_157 hb_156))) <| .gop I I I I I I (.fieldAddr I I (G129_2 _)) <| .gop I I I I I I (.load I I Y22 I) <| .gop I I I I I I (.len I U22 I) <| .gop I I I I I I (.neq I I I) ?_
          exact .nil I
        refine .nil <| .nil <| .keep [.vec 9 1 (List.map D.str b0_35)] [1, 7, 8, 109] (.c I <| .c I <| .c I <| .c I .nil) I <| .condS I h (fun h => ?_) fun h => ?_
        · refine .seq <| .region <| .op I I (.assign I I) <| .nil <| .ret ?_
          cases h
          exact retOne I (.d _)
        · refine .skip <| .seq <| .seq <| .region <| .op I I (.assign I I) <| .nil <| .block <| .loopS [1, 7, 8] (fun (v : Int) => [(9, .d (.int v))]) (fun (v : Int) => []) (.c I <| .c I <| .c I .nil) h ⟨_, I, I, I, I, I, I, I, trivial⟩ (fun rec_183 x9_182 h => ?_)
          refine .seq <| .seq <| .region <| .op I I (.move I I) <| .op I I (.fieldAddr I I (G84_1 _)) <| .op I I (.load I I Y22 I) <| .op I I (.len I U22 I) <| .op I I (.lss I I I) <| .nil <| .keep [.vec 9 1 (List.map D.str b0_35)] [1, 7, 8, 9, 114] (.c I <| .c I <| .c I <| .c I <| .c I .nil) I <| .condS I h (fun h => ?_) fun h => ?_
          · refine .skip <| .seq <| .block <| .seq <| .region <| .op I I (.fieldAddr I I (G30_4 _)) <| .op I I (.load I I Y26 I) <| .op I I (.fieldAddr I I (G84_0 _)) <| .op I I (.load I I Y3 I) <| bK h fun x121_184 hx121_184 h => .op I I (.idx I I I U26 S129 hx121_184) <| .op I I (.fieldAddr I I (G129_2 _)) <| .op I I (.load I I Y22 I) <| .op I I (.move I I) <| bK h fun x125_185 hx125_185 h => .op I I (.idx I I I U22 S3 hx125_185) <| .op I I (.load I I Y3 I) <| .op I I (.assign I I) <| .nil <| .seq <| .draw 36 Hm (by kernel_rfl) (by kernel_rfl) <| .op I I I I (.move I I) <| .op I I I I (.lss I I I) <| .op I I I I (.move I I) <| gK h fun hc_187 h => gK h fun hc_188 h => .jAnd 7 (b2 := !((ref13_between n ((idx x83_154.arguments x9_182).getD default) 9999).getD default)) I I I I (.inl I) (fun _ _ _ h1 => by cases h1) I I (fun hb_186 => ?_) ?_
            · refine .gop I I I I I I (.fieldAddr I I (G84_1 _)) <| .gop I I I I I I (.load I I Y22 I) <| .gop I I I I I I (.move I I) <| .gop I I I I I I (.idx I I I U22 S3 (someD (impT hc_187 hb_186))) <| .gop I I I I I I (.load I I Y3 I) <| .gop I I I I I I (.call I K167 I (ref13_between_ok _ _ _ _ (someD (impT hc_188 hb_186)))) <| .gop I I I I I I (.not I I) ?_
              exact .nil I
            refine .op I I I I (.move I I) <| gK h fun hc_191 h => gK h fun hc_193 h => gK h fun hc_194 h => .jOr 23 (b2 := (decide (0 ≤ x125_185)) && ((decide (((idx x83_154.arguments x9_182).getD default) < 0)) || (decide (((idx t0.sorts x125_185).getD default) ≤ ((idx x83_154.arguments x9_182).getD default))))) I I I I (.inl I) (fun _ _ _ h1 => by cases h1) I I (fun hb_189 => ?_) ?_
            · refine .gop I I I I I I (.move I I) <| .gop I I I I I I (.geq I I I) <| .gop I I I I I I (.move I I) <| .jAnd 19 (b2 := (decide (((idx x83_154.arguments x9_182).getD default) < 0)) || (decide (((idx t0.sorts x125_185).getD default) ≤ ((idx x83_154.arguments x9_182).getD default)))) I I I I (.inr ⟨_, _, _, I, I, I⟩) (fun _ _ _ h1 h2 => by cases h1; cases h2; decide) I I (fun hb_190 => ?_) ?_
              · refine .gop I I I I I I (.fieldAddr I I (G84_1 _)) <| .gop I I I I I I (.load I I Y22 I) <| .gop I I I I I I (.move I I) <| .gop I I I I I I (.idx I I I U22 S3 (someD (impT (impF hc_191 hb_189) hb_190))) <| .gop I I I I I I (.load I I Y3 I) <| .gop I I I I I I (.lss I I I) <| .gop I I I I I I (.move I I) <| .jOr 11 (b2 := decide (((idx t0.sorts x125_185).getD default) ≤ ((idx x83_154.arguments x9_182).getD default))) I I I I (.inr ⟨_, _, _, I, I, I⟩) (fun _ _ _ h1 h2 => by cases h1; cases h2; decide) I I (fun hb_192 => ?_) ?_
                · refine .gop I I I I I I (.fieldAddr I I (G84_1 _)) <| .gop I I I I I I (.load I I Y22 I) <| .gop I I I I I I (.move I I) <| .gop I I I I I I (.idx I I I U22 S3 (someD (impF (impT (impF hc_193 hb_189) hb_190) hb_192))) <| .gop I I I I I I (.load I I Y3 I) <| .gop I I I I I I (.fieldAddr I I (G30_0 _)) <| .gop I I I I I I (.load I I Y22 I) <| .gop I I I I I I (.move I I) <| .gop I I I I I I (.idx I I I U22 S3 (someD (impF (impT (impF hc_194 hb_189) hb_190) hb_192))) <| .gop I I I I I I (.load I I Y3 I) <| .gop I I I I I I (.geq I I I) ?_
                  exact .nil I
                exact .nil I
              exact .nil I
            refine .nil <| .nil <| .keep [.vec 9 1 (List.map D.str b0_35)] [1, 7, 8, 9, 162] (.c I <| .c I <| .c I <| .c I <| .c I .nil) I <| .condS I h (fun h => ?_) fun h => ?_
            · refine .seq <| .region <| .op I I (.assign I I) <| .nil <| .ret ?_
              cases h
              exact retOne I (.d _)
            · refine .skip <| .region <| .op I I (.move I I) <| .op I I (.add6 I I I) <| .op I I (.assign I I) <| .nil ?_
              exact ⟨_, h, ⟨_, I, I, I, I, I, I, I, trivial⟩⟩
          · refine .exit <| .join [1, 7, 8] (fun (v : Unit) => []) (fun (v : Unit) => []) (.c I <| .c I <| .c I .nil) h (fun k_195 h => ?_) (fun v h => ?_)
            · refine .seq <| .region <| .op I I (.move I I) <| .op I I (.gtr I I I) <| .nil <| .condS I h (fun h => ?_) fun h => ?_
              · refine .seq <| .region <| .op I I (.fieldAddr I I (G30_5 _)) <| .op I I (.load I I Y27 I) <| .op I I (.move I I) <| .op I I (.sub6 I I I) <| bK h fun x169_196 hx169_196 h => .op I I (.idx I I I U27 S84 hx169_196) <| .op I I (.load I I Y84 I) <| .allocStore I I I I I I I I (by simp) I I Z84 <| .nil <| .seq <| .plain 20 I <| .op I I I I (.fieldAddr I I (G84_0 _)) <| .op I I I I (.load I I Y3 I) <| .op I I I I (.fieldAddr I I (G84_0 _)) <| .op I I I I (.load I I Y3 I) <| .op I I I I (.gtr I I I) <| .op I I I I (.move I I) <| gK h fun hc_199 h => .jOr 13 (b2 := (x169_196.operation == x83_154.operation) && (!((ref13_less n x169_196.arguments x83_154.arguments).getD default))) I I I I (.inl I) (fun _ _ _ h1 => by cases h1) I I (fun hb_197 => ?_) ?_
                · refine .gop I I I I I I (.fieldAddr I I (G84_0 _)) <| .gop I I I I I I (.load I I Y3 I) <| .gop I I I I I I (.fieldAddr I I (G84_0 _)) <| .gop I I I I I I (.load I I Y3 I) <| .gop I I I I I I (.eql I I I) <| .gop I I I I I I (.move I I) <| .jAnd 6 (b2 := !((ref13_less n x169_196.arguments x83_154.arguments).getD default)) I I I I (.inr ⟨_, _, _, I, I, I⟩) (fun _ _ _ h1 h2 => by cases h1; cases h2; decide) I I (fun hb_198 => ?_) ?_
                  · refine .gop I I I I I I (.fieldAddr I I (G84_1 _)) <| .gop I I I I I I (.load I I Y22 I) <| .gop I I I I I I (.fieldAddr I I (G84_1 _)) <| .gop I I I I I I (.load I I Y22 I) <| .gop I I I I I I (.call I K168 I (ref13_less_ok _ _ _ _ (someD (impT (impF hc_199 hb_197) hb_198)))) <| .gop I I I I I I (.not I I) ?_
                    exact .nil I
                  exact .nil I
                refine .nil <| .nil <| .keep [.vec 9 1 (List.map D.str b0_35)] [1, 7, 8, 190] (.c I <| .c I <| .c I <| .c I .nil) I <| .condS I h (fun h => ?_) fun h => ?_
                · refine .seq <| .region <| .op I I (.assign I I) <| .nil <| .ret ?_
                  cases h
                  exact retOne I (.d _)
                · refine .skip ?_
                  exact ⟨_, h, ⟨_, I, I, I, I, I, I, trivial⟩⟩
              · refine .skip ?_
                exact ⟨_, h, ⟨_, I, I, I, I, I, I, trivial⟩⟩
            · refine .seq <| .region <| .op I I (.load I I Y30 I) <| .op I I (.fieldAddr I I (G84_2 _)) <| .op I I (.load I I Y82 I) <| bK h fun x194_200 hx194_200 h => .op I I (.call I K169 I (ref13_effect_ok _ _ _ _ hx194_200)) <| .op I I (.not I I) <| .nil <| .keep [.vec 9 1 (List.map D.str b0_35)] [1, 7, 195] (.c I <| .c I <| .c I .nil) I <| .condS I h (fun h => ?_) fun h => ?_
              · refine .seq <| .region <| .op I I (.assign I I) <| .nil <| .ret ?_
                cases h
                exact retOne I (.d _)
              · refine .skip <| .region <| .op I I (.move I I) <| .op I I (.add6 I I I) <| .op I I (.assign I I) <| .nil ?_
                exact ⟨_, h, ⟨_, I, I, I, I, I, trivial⟩⟩
      · refine .exit <| .seq <| .region <| .op I I (.assign I I) <| .nil <| .ret ?_
        cases h
        exact retOne I (.d _)
set_option maxHeartbeats 2000000 in
theorem ref13_leads_body (n : Nat) (self : Model → Int → Int → Int → Option Bool) (hself : ∀ (t0 : Model) (t1 : Int) (t2 : Int) (t3 : Int) (r : Bool), self t0 t1 t2 t3 = some r → Pure Tryz.prog 170 [Model.enc t0, .int t1, .int t2, .int t3] (.bool r)) (t0 : Model) (t1 : Int) (t2 : Int) (t3 : Int) (r : Bool) (h : ref13_leads.body n self t0 t1 t2 t3 = some r) : Pure Tryz.prog 170 [Model.enc t0, .int t1, .int t2, .int t3] (.bool r) := by
  refine Pure.ot Tryz.func170 I Tryz.ntmps170 I fun A w => .seq <| .region <| .op I I (.box I I) <| .op I I (.assign I I) <| .nil <| .seq <| .seq <| .region <| .op I I (.move I I) <| .op I I (.move I I) <| .op I I (.eql I I I) <| .nil <| .condS I h (fun h => ?_) fun h => ?_
  · refine .seq <| .region <| .op I I (.assign I I) <| .nil <| .ret ?_
    cases h
    exact retOne I (.d _)
  · refine .skip <| .seq <| .seq <| .region <| .op I I (.assign I I) <| .nil <| .block <| .loopS [1, 2, 3, 4] (fun (v : Int) => [(9, .d (.int v))]) (fun (v : Int) => []) (.c I <| .c I <| .c I <| .c I .nil) h ⟨_, I, I, I, I, I, I, I, I, trivial⟩ (fun rec_14 x9_13 h => ?_)
    refine .seq <| .seq <| .plain 9 I <| .op I I I I (.move I I) <| .op I I I I (.fieldAddr I I (G30_6 _)) <| .op I I I I (.load I I Y28 I) <| .op I I I I (.len I U28 I) <| .op I I I I (.lss I I I) <| .op I I I I (.move I I) <| .jAnd 2 (b2 := decide (0 < t3)) I I I I (.inl I) (fun _ _ _ h1 => by cases h1) I I (fun hb_15 => ?_) ?_
    · refine .gop I I I I I I (.move I I) <| .gop I I I I I I (.gtr I I I) ?_
      exact .nil I
    refine .nil <| .nil <| .keep [] [1, 2, 3, 4, 9, 21] (.c I <| .c I <| .c I <| .c I <| .c I <| .c I .nil) I <| .condS I h (fun h => ?_) fun h => ?_
    · refine .skip <| .seq <| .block <| .seq <| .draw 21 Hm (by kernel_rfl) (by kernel_rfl) <| .op I I I I (.fieldAddr I I (G30_6 _)) <| .op I I I I (.load I I Y28 I) <| .op I I I I (.move I I) <| bK h fun x27_16 hx27_16 h => .op I I I I (.idx I I I U28 S179 hx27_16) <| .op I I I I (.fieldAddr I I (G179_0 _)) <| .op I I I I (.load I I Y3 I) <| .op I I I I (.move I I) <| .op I I I I (.eql I I I) <| .op I I I I (.move I I) <| gK h fun hc_18 h => gK h fun hc_19 h => .jAnd 11 (b2 := ((self t0 (((idx t0.hides x9_13).getD default).to) t2 (sub64 t3 1)).getD default)) I I I I (.inl I) (fun _ _ _ h1 => by cases h1) I I (fun hb_17 => ?_) ?_
      · refine .gop I I I I I I (.load I I Y30 I) <| .gop I I I I I I (.fieldAddr I I (G30_6 _)) <| .gop I I I I I I (.load I I Y28 I) <| .gop I I I I I I (.move I I) <| .gop I I I I I I (.idx I I I U28 S179 (someD (impT hc_18 hb_17))) <| .gop I I I I I I (.fieldAddr I I (G179_2 _)) <| .gop I I I I I I (.load I I Y3 I) <| .gop I I I I I I (.move I I) <| .gop I I I I I I (.move I I) <| .gop I I I I I I (.sub6 I I I) <| .gop I I I I I I (.call I K170 I (hself _ _ _ _ _ (someD (impT hc_19 hb_17)))) ?_
        exact .nil I
      refine .nil <| .nil <| .keep [] [1, 2, 3, 4, 9, 44] (.c I <| .c I <| .c I <| .c I <| .c I <| .c I .nil) I <| .condS I h (fun h => ?_) fun h => ?_
      · refine .seq <| .region <| .op I I (.assign I I) <| .nil <| .ret ?_
        cases h
        exact retOne I (.d _)
      · refine .skip <| .region <| .op I I (.move I I) <| .op I I (.add6 I I I) <| .op I I (.assign I I) <| .nil ?_
        exact ⟨_, h, ⟨_, I, I, I, I, I, I, I, I, trivial⟩⟩
    · refine .exit <| .seq <| .region <| .op I I (.assign I I) <| .nil <| .ret ?_
      cases h
      exact retOne I (.d _)
theorem ref13_leads_ok : ∀ (n : Nat) (t0 : Model) (t1 : Int) (t2 : Int) (t3 : Int) (r : Bool) (h : ref13_leads n t0 t1 t2 t3 = some r), Pure Tryz.prog 170 [Model.enc t0, .int t1, .int t2, .int t3] (.bool r)
  | 0, t0, t1, t2, t3, r, h => by cases h
  | n + 1, t0, t1, t2, t3, r, h => ref13_leads_body n (ref13_leads n) (ref13_leads_ok n) t0 t1 t2 t3 r h
set_option maxHeartbeats 2000000 in
theorem ref13_hidden_ok (n : Nat) (t0 : Model) (r : Bool) (h : ref13_hidden n t0 = some r) : Pure Tryz.prog 105 [Model.enc t0] (.bool r) := by
  refine Pure.ot Tryz.func105 I Tryz.ntmps105 I fun A w => .seq <| .region <| .op I I (.box I I) <| .op I I (.assign I I) <| .nil <| .seq <| .seq <| .region <| .op I I (.fieldAddr I I (G30_6 _)) <| .op I I (.load I I Y28 I) <| .op I I (.len I U28 I) <| .op I I (.gtr I I I) <| .nil <| .condS I h (fun h => ?_) fun h => ?_
  · refine .seq <| .region <| .op I I (.assign I I) <| .nil <| .ret ?_
    cases h
    exact retOne I (.d _)
  · refine .skip <| .seq <| .seq <| .region <| .op I I (.assign I I) <| .nil <| .block <| .loopS [1] (fun (v : Int) => [(3, .d (.int v))]) (fun (v : Int) => []) (.c I .nil) h ⟨_, I, I, I, I, I, trivial⟩ (fun rec_32 x3_31 h => ?_)
    refine .seq <| .seq <| .region <| .op I I (.move I I) <| .op I I (.fieldAddr I I (G30_6 _)) <| .op I I (.load I I Y28 I) <| .op I I (.len I U28 I) <| .op I I (.lss I I I) <| .nil <| .keep [] [1, 3, 16] (.c I <| .c I <| .c I .nil) I <| .condS I h (fun h => ?_) fun h => ?_
    · refine .skip <| .seq <| .block <| .seq <| .region <| .op I I (.fieldAddr I I (G30_6 _)) <| .op I I (.load I I Y28 I) <| .op I I (.move I I) <| bK h fun x22_33 hx22_33 h => .op I I (.idx I I I U28 S179 hx22_33) <| .op I I (.load I I Y179 I) <| .allocStore I I I I I I I I (by simp) I I Z179 <| .nil <| .seq <| .seq <| .plain 31 I <| .op I I I I (.fieldAddr I I (G179_0 _)) <| .op I I I I (.load I I Y3 I) <| .op I I I I (.lss I I I) <| .op I I I I (.move I I) <| .jOr 6 (b2 := decide ((t0.tables.length : Int) ≤ x22_33.table)) I I I I (.inl I) (fun _ _ _ h1 => by cases h1) I I (fun hb_34 => ?_) ?_
      · refine .gop I I I I I I (.fieldAddr I I (G179_0 _)) <| .gop I I I I I I (.load I I Y3 I) <| .gop I I I I I I (.fieldAddr I I (G30_1 _)) <| .gop I I I I I I (.load I I Y23 I) <| .gop I I I I I I (.len I U23 I) <| .gop I I I I I I (.geq I I I) ?_
        exact .nil I
      refine .op I I I I (.move I I) <| .jOr 3 (b2 := decide (x22_33.to < 0)) I I I I (.inl I) (fun _ _ _ h1 => by cases h1) I I (fun hb_35 => ?_) ?_
      · refine .gop I I I I I I (.fieldAddr I I (G179_2 _)) <| .gop I I I I I I (.load I I Y3 I) <| .gop I I I I I I (.lss I I I) ?_
        exact .nil I
      refine .op I I I I (.move I I) <| .jOr 6 (b2 := decide ((t0.tables.length : Int) ≤ x22_33.to)) I I I I (.inl I) (fun _ _ _ h1 => by cases h1) I I (fun hb_36 => ?_) ?_
      · refine .gop I I I I I I (.fieldAddr I I (G179_2 _)) <| .gop I I I I I I (.load I I Y3 I) <| .gop I I I I I I (.fieldAddr I I (G30_1 _)) <| .gop I I I I I I (.load I I Y23 I) <| .gop I I I I I I (.len I U23 I) <| .gop I I I I I I (.geq I I I) ?_
        exact .nil I
      refine .op I I I I (.move I I) <| .jOr 5 (b2 := x22_33.table == x22_33.to) I I I I (.inl I) (fun _ _ _ h1 => by cases h1) I I (fun hb_37 => ?_) ?_
      · refine .gop I I I I I I (.fieldAddr I I (G179_0 _)) <| .gop I I I I I I (.load I I Y3 I) <| .gop I I I I I I (.fieldAddr I I (G179_2 _)) <| .gop I I I I I I (.load I I Y3 I) <| .gop I I I I I I (.eql I I I) ?_
        exact .nil I
      refine .nil <| .nil <| .keep [] [1, 3, 4, 54] (.c I <| .c I <| .c I <| .c I .nil) I <| .condS I h (fun h => ?_) fun h => ?_
      · refine .seq <| .region <| .op I I (.assign I I) <| .nil <| .ret ?_
        cases h
        exact retOne I (.d _)
      · refine .skip <| .seq <| .draw 16 Hm (by kernel_rfl) (by kernel_rfl) <| .op I I I I (.fieldAddr I I (G30_1 _)) <| .op I I I I (.load I I Y23 I) <| .op I I I I (.fieldAddr I I (G179_0 _)) <| .op I I I I (.load I I Y3 I) <| bK h fun x59_38 hx59_38 h => .op I I I I (.idx I I I U23 S127 hx59_38) <| .op I I I I (.load I I Y127 I) <| .op I I I I (.fieldAddr I I (G30_1 _)) <| .op I I I I (.load I I Y23 I) <| .op I I I I (.fieldAddr I I (G179_2 _)) <| .op I I I I (.load I I Y3 I) <| bK h fun x65_39 hx65_39 h => .op I I I I (.idx I I I U23 S127 hx65_39) <| .op I I I I (.load I I Y127 I) <| .alloc I I I I ZZ127 <| .alloc I I I I ZZ127 <| .store I I I I I I Z127 <| .store I I I I I I Z127 <| .nil <| .freezes [0, 1] (.cons (t := 5) (d := .ref (Table.enc x59_38)) I (.loc (inIds I) I (.cons (.d _) (.cons (.d _) (.cons (.d _) (.cons (.d _) (.cons (.d _) (.cons (.d _) (.nil)))))))) (.cons (t := 6) (d := .ref (Table.enc x65_39)) I (.loc (inIds I) I (.cons (.d _) (.cons (.d _) (.cons (.d _) (.cons (.d _) (.cons (.d _) (.cons (.d _) (.nil)))))))) (.nil))) <| .nil <| .keep [.dead, .dead] [1, 3, 4, 5, 6] (.c I <| .c I <| .c I <| .c I <| .c I .nil) I <| .seq <| .draw 40 Hm (by kernel_rfl) (by kernel_rfl) <| .op I I I I (.fieldAddr I I (G127_1 _)) <| .op I I I I (.load I I Y3 I) <| .op I I I I (.neq I I I) <| .op I I I I (.move I I) <| .jOr 3 (b2 := x65_39.kind != 0) I I I I (.inl I) (fun _ _ _ h1 => by cases h1) I I (fun hb_40 => ?_) ?_
        · refine .gop I I I I I I (.fieldAddr I I (G127_1 _)) <| .gop I I I I I I (.load I I Y3 I) <| .gop I I I I I I (.neq I I I) ?_
          exact .nil I
        refine .op I I I I (.move I I) <| .jOr 3 (b2 := decide (x22_33.column < 0)) I I I I (.inl I) (fun _ _ _ h1 => by cases h1) I I (fun hb_41 => ?_) ?_
        · refine .gop I I I I I I (.fieldAddr I I (G179_1 _)) <| .gop I I I I I I (.load I I Y3 I) <| .gop I I I I I I (.lss I I I) ?_
          exact .nil I
        refine .op I I I I (.move I I) <| .jOr 6 (b2 := decide ((x59_38.columns.length : Int) ≤ x22_33.column)) I I I I (.inl I) (fun _ _ _ h1 => by cases h1) I I (fun hb_42 => ?_) ?_
        · refine .gop I I I I I I (.fieldAddr I I (G179_1 _)) <| .gop I I I I I I (.load I I Y3 I) <| .gop I I I I I I (.fieldAddr I I (G127_2 _)) <| .gop I I I I I I (.load I I Y22 I) <| .gop I I I I I I (.len I U22 I) <| .gop I I I I I I (.geq I I I) ?_
          exact .nil I
        refine .op I I I I (.move I I) <| .jOr 4 (b2 := (x65_39.columns.length : Int) != 1) I I I I (.inl I) (fun _ _ _ h1 => by cases h1) I I (fun hb_43 => ?_) ?_
        · refine .gop I I I I I I (.fieldAddr I I (G127_2 _)) <| .gop I I I I I I (.load I I Y22 I) <| .gop I I I I I I (.len I U22 I) <| .gop I I I I I I (.neq I I I) ?_
          exact .nil I
        refine .op I I I I (.move I I) <| gK h fun hc_45 h => gK h fun hc_46 h => .jOr 11 (b2 := ((idx x65_39.columns 0).getD default) != ((idx x59_38.columns x22_33.column).getD default)) I I I I (.inl I) (fun _ _ _ h1 => by cases h1) I I (fun hb_44 => ?_) ?_
        · refine .gop I I I I I I (.fieldAddr I I (G127_2 _)) <| .gop I I I I I I (.load I I Y22 I) <| .gop I I I I I I (.idx I I I U22 S3 (someD (impF hc_45 hb_44))) <| .gop I I I I I I (.load I I Y3 I) <| .gop I I I I I I (.fieldAddr I I (G127_2 _)) <| .gop I I I I I I (.load I I Y22 I) <| .gop I I I I I I (.fieldAddr I I (G179_1 _)) <| .gop I I I I I I (.load I I Y3 I) <| .gop I I I I I I (.idx I I I U22 S3 (someD (impF hc_46 hb_44))) <| .gop I I I I I I (.load I I Y3 I) <| .gop I I I I I I (.neq I I I) ?_
          exact .nil I
        refine .nil <| .nil <| .keep [.dead, .dead] [1, 3, 106] (.c I <| .c I <| .c I .nil) I <| .condS I h (fun h => ?_) fun h => ?_
        · refine .seq <| .region <| .op I I (.assign I I) <| .nil <| .ret ?_
          cases h
          exact retOne I (.d _)
        · refine .skip <| .region <| .op I I (.move I I) <| .op I I (.add6 I I I) <| .op I I (.assign I I) <| .nil ?_
          exact ⟨_, h, ⟨_, I, I, I, I, I, trivial⟩⟩
    · refine .exit <| .seq <| .seq <| .region <| .op I I (.assign I I) <| .nil <| .block <| .loopS [1] (fun (v : Int) => [(7, .d (.int v))]) (fun (v : Int) => []) (.c I .nil) h ⟨_, I, I, I, I, I, trivial⟩ (fun rec_56 x7_55 h => ?_)
      refine .seq <| .seq <| .region <| .op I I (.move I I) <| .op I I (.fieldAddr I I (G30_6 _)) <| .op I I (.load I I Y28 I) <| .op I I (.len I U28 I) <| .op I I (.lss I I I) <| .nil <| .keep [] [1, 7, 111] (.c I <| .c I <| .c I .nil) I <| .condS I h (fun h => ?_) fun h => ?_
      · refine .skip <| .seq <| .block <| .seq <| .draw 17 Hm (by kernel_rfl) (by kernel_rfl) <| .op I I I I (.load I I Y30 I) <| .op I I I I (.fieldAddr I I (G30_6 _)) <| .op I I I I (.load I I Y28 I) <| .op I I I I (.move I I) <| bK h fun x118_57 hx118_57 h => .op I I I I (.idx I I I U28 S179 hx118_57) <| .op I I I I (.fieldAddr I I (G179_2 _)) <| .op I I I I (.load I I Y3 I) <| .op I I I I (.fieldAddr I I (G30_6 _)) <| .op I I I I (.load I I Y28 I) <| .op I I I I (.move I I) <| bK h fun x124_58 hx124_58 h => .op I I I I (.idx I I I U28 S179 hx124_58) <| .op I I I I (.fieldAddr I I (G179_0 _)) <| .op I I I I (.load I I Y3 I) <| .op I I I I (.fieldAddr I I (G30_1 _)) <| .op I I I I (.load I I Y23 I) <| .op I I I I (.len I U23 I) <| bK h fun x130_59 hx130_59 h => .op I I I I (.call I K170 I (ref13_leads_ok _ _ _ _ _ _ hx130_59)) <| .nil <| .nil <| .keep [] [1, 7, 130] (.c I <| .c I <| .c I .nil) I <| .condS I h (fun h => ?_) fun h => ?_
        · refine .seq <| .region <| .op I I (.assign I I) <| .nil <| .ret ?_
          cases h
          exact retOne I (.d _)
        · refine .skip <| .region <| .op I I (.move I I) <| .op I I (.add6 I I I) <| .op I I (.assign I I) <| .nil ?_
          exact ⟨_, h, ⟨_, I, I, I, I, I, trivial⟩⟩
      · refine .exit <| .seq <| .region <| .op I I (.assign I I) <| .nil <| .ret ?_
        cases h
        exact retOne I (.d _)
set_option maxHeartbeats 2000000 in
theorem ref13_Valid_ok (n : Nat) (t0 : Model) (r : Bool) (h : ref13_Valid n t0 = some r) : Pure Tryz.prog 41 [Model.enc t0] (.bool r) := by
  refine Pure.ot Tryz.func41 I Tryz.ntmps41 I fun A w => .seq <| .region <| .op I I (.box I I) <| .op I I (.assign I I) <| .nil <| .seq <| .seq <| .plain 18 I <| .op I I I I (.fieldAddr I I (G30_0 _)) <| .op I I I I (.load I I Y22 I) <| .op I I I I (.fieldAddr I I (G30_1 _)) <| .op I I I I (.load I I Y23 I) <| bK h fun x7_1 hx7_1 h => .op I I I I (.call I K101 I (ref09_Valid_ok _ _ _ _ hx7_1)) <| .op I I I I (.not I I) <| .op I I I I (.move I I) <| .jOr 4 (b2 := decide (24 < (t0.families.length : Int))) I I I I (.inl I) (fun _ _ _ h1 => by cases h1) I I (fun hb_2 => ?_) ?_
  · refine .gop I I I I I I (.fieldAddr I I (G30_2 _)) <| .gop I I I I I I (.load I I Y24 I) <| .gop I I I I I I (.len I U24 I) <| .gop I I I I I I (.gtr I I I) ?_
    exact .nil I
  refine .op I I I I (.move I I) <| gK h fun hc_4 h => .jOr 4 (b2 := !((ref13_distinct n t0.families).getD default)) I I I I (.inl I) (fun _ _ _ h1 => by cases h1) I I (fun hb_3 => ?_) ?_
  · refine .gop I I I I I I (.fieldAddr I I (G30_2 _)) <| .gop I I I I I I (.load I I Y24 I) <| .gop I I I I I I (.call I K102 I (ref13_distinct_ok _ _ _ (someD (impF hc_4 hb_3)))) <| .gop I I I I I I (.not I I) ?_
    exact .nil I
  refine .nil <| .nil <| .keep [] [1, 20] (.c I <| .c I .nil) I <| .condS I h (fun h => ?_) fun h => ?_
  · refine .seq <| .region <| .op I I (.assign I I) <| .nil <| .ret ?_
    cases h
    exact retOne I (.d _)
  · refine .skip <| .seq <| .plain 10 I <| .op I I I I (.load I I Y30 I) <| bK h fun x22_5 hx22_5 h => .op I I I I (.call I K103 I (ref13_constraints_ok _ _ _ hx22_5)) <| .op I I I I (.move I I) <| gK h fun hc_7 h => .jAnd 2 (b2 := ((ref13_actions n t0).getD default)) I I I I (.inl I) (fun _ _ _ h1 => by cases h1) I I (fun hb_6 => ?_) ?_
    · refine .gop I I I I I I (.load I I Y30 I) <| .gop I I I I I I (.call I K104 I (ref13_actions_ok _ _ _ (someD (impT hc_7 hb_6)))) ?_
      exact .nil I
    refine .op I I I I (.move I I) <| gK h fun hc_9 h => .jAnd 2 (b2 := ((ref13_hidden n t0).getD default)) I I I I (.inl I) (fun _ _ _ h1 => by cases h1) I I (fun hb_8 => ?_) ?_
    · refine .gop I I I I I I (.load I I Y30 I) <| .gop I I I I I I (.call I K105 I (ref13_hidden_ok _ _ _ (someD (impT hc_9 hb_8)))) ?_
      exact .nil I
    refine .nil <| .op I I (.assign I I) <| .nil <| .ret ?_
    cases h
    exact retOne I (.d _)
set_option maxHeartbeats 2000000 in
theorem ref22_Add_ok (n : Nat) (t0 : Effect) (t1 : Int) (r : Int) (h : ref22_Add n t0 t1 = some r) : Pure Tryz.prog 106 [Effect.enc t0, .int t1] (.int r) := by
  refine Pure.ot Tryz.func106 I Tryz.ntmps106 I fun A w => .seq <| .region <| .op I I (.box I I) <| .op I I (.assign I I) <| .nil <| .seq <| .region <| .op I I (.assign I I) <| .nil <| .seq <| .seq <| .region <| .op I I (.assign I I) <| .nil <| .block <| .loopS [1, 2] (fun (v : Int × Int) => [(5, .d (.int v.1)), (6, .d (.int v.2))]) (fun (v : Int × Int) => []) (.c I <| .c I .nil) h ⟨_, I, I, I, I, I, I, I, trivial⟩ (fun rec_15 v h => ?_)
  obtain ⟨x5_13, x6_14⟩ := v
  refine .seq <| .seq <| .region <| .op I I (.move I I) <| .op I I (.fieldAddr I I (G82_0 _)) <| .op I I (.load I I Y79 I) <| .op I I (.len I U79 I) <| .op I I (.lss I I I) <| .nil <| .keep [] [1, 2, 5, 6, 11] (.c I <| .c I <| .c I <| .c I <| .c I .nil) I <| .condS I h (fun h => ?_) fun h => ?_
  · refine .skip <| .join [1, 2, 6] (fun (v : Int) => [(5, .d (.int v))]) (fun (v : Int) => []) (.c I <| .c I <| .c I .nil) h (fun k_17 h => ?_) (fun x5_16 h => ?_)
    · refine .block <| .seq <| .region <| .op I I (.fieldAddr I I (G82_0 _)) <| .op I I (.load I I Y79 I) <| .op I I (.move I I) <| bK h fun x17_18 hx17_18 h => .op I I (.idx I I I U79 S131 hx17_18) <| .op I I (.fieldAddr I I (G131_0 _)) <| .op I I (.load I I Y3 I) <| .op I I (.move I I) <| .op I I (.eql I I I) <| .nil <| .condS I h (fun h => ?_) fun h => ?_
      · refine .region <| .op I I (.move I I) <| .op I I (.fieldAddr I I (G82_0 _)) <| .op I I (.load I I Y79 I) <| .op I I (.move I I) <| bK h fun x26_19 hx26_19 h => .op I I (.idx I I I U79 S131 hx26_19) <| .op I I (.fieldAddr I I (G131_1 _)) <| .op I I (.load I I Y3 I) <| .op I I (.add6 I I I) <| .op I I (.assign I I) <| .nil ?_
        exact ⟨_, h, ⟨_, I, I, I, I, I, I, I, trivial⟩⟩
      · refine .skip ?_
        exact ⟨_, h, ⟨_, I, I, I, I, I, I, I, trivial⟩⟩
    · refine .region <| .op I I (.move I I) <| .op I I (.add6 I I I) <| .op I I (.assign I I) <| .nil ?_
      exact ⟨_, h, ⟨_, I, I, I, I, I, I, I, trivial⟩⟩
  · refine .exit <| .seq <| .region <| .op I I (.move I I) <| .op I I (.assign I I) <| .nil <| .ret ?_
    cases h
    exact retOne I (.d _)
set_option maxHeartbeats 2000000 in
theorem ref22_Sum_ok (n : Nat) (t0 : Effect) (t1 : Row) (r : Int) (h : ref22_Sum n t0 t1 = some r) : Pure Tryz.prog 42 [Effect.enc t0, Row.enc t1] (.int r) := by
  refine Pure.ot Tryz.func42 I Tryz.ntmps42 I fun A w => .seq <| .region <| .op I I (.box I I) <| .op I I (.box I I) <| .op I I (.assign I I) <| .nil <| .seq <| .region <| .op I I (.assign I I) <| .nil <| .seq <| .seq <| .region <| .op I I (.assign I I) <| .nil <| .block <| .loopS [2, 3] (fun (v : Int × Int) => [(5, .d (.int v.1)), (6, .d (.int v.2))]) (fun (v : Int × Int) => []) (.c I <| .c I .nil) h ⟨_, I, I, I, I, I, I, I, trivial⟩ (fun rec_13 v h => ?_)
  obtain ⟨x5_11, x6_12⟩ := v
  refine .seq <| .seq <| .region <| .op I I (.move I I) <| .op I I (.fieldAddr I I (G33_0 _)) <| .op I I (.load I I Y31 I) <| .op I I (.len I U31 I) <| .op I I (.lss I I I) <| .nil <| .keep [] [2, 3, 5, 6, 11] (.c I <| .c I <| .c I <| .c I <| .c I .nil) I <| .condS I h (fun h => ?_) fun h => ?_
  · refine .skip <| .seq <| .block <| .draw 18 Hm (by kernel_rfl) (by kernel_rfl) <| .op I I I I (.move I I) <| .op I I I I (.fieldAddr I I (G33_0 _)) <| .op I I I I (.load I I Y31 I) <| .op I I I I (.move I I) <| bK h fun x18_14 hx18_14 h => .op I I I I (.idx I I I U31 S41 hx18_14) <| .op I I I I (.fieldAddr I I (G41_1 _)) <| .op I I I I (.load I I Y3 I) <| .op I I I I (.load I I Y82 I) <| .op I I I I (.fieldAddr I I (G33_0 _)) <| .op I I I I (.load I I Y31 I) <| .op I I I I (.move I I) <| bK h fun x25_15 hx25_15 h => .op I I I I (.idx I I I U31 S41 hx25_15) <| .op I I I I (.fieldAddr I I (G41_0 _)) <| .op I I I I (.load I I Y3 I) <| bK h fun x28_16 hx28_16 h => .op I I I I (.call I K106 I (ref22_Add_ok _ _ _ _ hx28_16)) <| .op I I I I (.mul6 I I I) <| .op I I I I (.add6 I I I) <| .op I I I I (.assign I I) <| .nil <| .nil <| .keep [] [2, 3, 5, 6] (.c I <| .c I <| .c I <| .c I .nil) I <| .region <| .op I I (.move I I) <| .op I I (.add6 I I I) <| .op I I (.assign I I) <| .nil ?_
    exact ⟨_, h, ⟨_, I, I, I, I, I, I, I, trivial⟩⟩
  · refine .exit <| .seq <| .region <| .op I I (.move I I) <| .op I I (.assign I I) <| .nil <| .ret ?_
    cases h
    exact retOne I (.d _)
theorem ref22_Change_ok (n : Nat) (t0 : Model) (t1 : Int) (t2 : Row) (r : Int) (h : ref22_Change n t0 t1 t2 = some r) : Pure Tryz.prog 13 [Model.enc t0, .int t1, Row.enc t2] (.int r) := by
  refine Pure.ot Tryz.func13 I Tryz.ntmps13 I fun A w => .seq <| .region <| .op I I (.box I I) <| .op I I (.box I I) <| .op I I (.assign I I) <| .nil <| .seq <| .seq <| .plain 14 I <| .op I I I I (.load I I Y30 I) <| bK h fun x8_1 hx8_1 h => .op I I I I (.call I K41 I (ref13_Valid_ok _ _ _ hx8_1)) <| .op I I I I (.not I I) <| .op I I I I (.move I I) <| .jOr 2 (b2 := decide (t1 < 0)) I I I I (.inl I) (fun _ _ _ h1 => by cases h1) I I (fun hb_2 => ?_) ?_
  · refine .gop I I I I I I (.move I I) <| .gop I I I I I I (.lss I I I) ?_
    exact .nil I
  refine .op I I I I (.move I I) <| .jOr 5 (b2 := decide ((t0.actions.length : Int) ≤ t1)) I I I I (.inl I) (fun _ _ _ h1 => by cases h1) I I (fun hb_3 => ?_) ?_
  · refine .gop I I I I I I (.move I I) <| .gop I I I I I I (.fieldAddr I I (G30_5 _)) <| .gop I I I I I I (.load I I Y27 I) <| .gop I I I I I I (.len I U27 I) <| .gop I I I I I I (.geq I I I) ?_
    exact .nil I
  refine .nil <| .nil <| .keep [] [1, 3, 5, 20] (.c I <| .c I <| .c I <| .c I .nil) I <| .condS I h (fun h => ?_) fun h => ?_
  · refine .seq <| .region <| .op I I (.assign I I) <| .nil <| .ret ?_
    cases h
    exact retOne I (.d _)
  · refine .skip <| .seq <| .draw 9 Hm (by kernel_rfl) (by kernel_rfl) <| .op I I I I (.fieldAddr I I (G30_5 _)) <| .op I I I I (.load I I Y27 I) <| .op I I I I (.move I I) <| bK h fun x24_4 hx24_4 h => .op I I I I (.idx I I I U27 S84 hx24_4) <| .op I I I I (.fieldAddr I I (G84_2 _)) <| .op I I I I (.load I I Y82 I) <| .op I I I I (.load I I Y33 I) <| bK h fun x28_5 hx28_5 h => .op I I I I (.call I K42 I (ref22_Sum_ok _ _ _ _ hx28_5)) <| .op I I I I (.assign I I) <| .nil <| .nil <| .ret ?_
    cases h
    exact retOne I (.d _)
set_option maxHeartbeats 2000000 in
theorem ref16_Valid_ok (n : Nat) (t0 : Model) (t1 : Question) (r : Bool) (h : ref16_Valid n t0 t1 = some r) : Pure Tryz.prog 22 [Model.enc t0, Question.enc t1] (.bool r) := by
  refine Pure.ot Tryz.func22 I Tryz.ntmps22 I fun A w => .seq <| .region <| .op I I (.box I I) <| .op I I (.box I I) <| .op I I (.assign I I) <| .nil <| .seq <| .seq <| .plain 35 I <| .op I I I I (.load I I Y30 I) <| bK h fun x6_1 hx6_1 h => .op I I I I (.call I K41 I (ref13_Valid_ok _ _ _ hx6_1)) <| .op I I I I (.not I I) <| .op I I I I (.move I I) <| .jOr 3 (b2 := decide (t1.e < 0)) I I I I (.inl I) (fun _ _ _ h1 => by cases h1) I I (fun hb_2 => ?_) ?_
  · refine .gop I I I I I I (.fieldAddr I I (G37_0 _)) <| .gop I I I I I I (.load I I Y3 I) <| .gop I I I I I I (.lss I I I) ?_
    exact .nil I
  refine .op I I I I (.move I I) <| .jOr 3 (b2 := decide (t1.f < 0)) I I I I (.inl I) (fun _ _ _ h1 => by cases h1) I I (fun hb_3 => ?_) ?_
  · refine .gop I I I I I I (.fieldAddr I I (G37_1 _)) <| .gop I I I I I I (.load I I Y3 I) <| .gop I I I I I I (.lss I I I) ?_
    exact .nil I
  refine .op I I I I (.move I I) <| .jOr 6 (b2 := decide ((t0.actions.length : Int) ≤ t1.e)) I I I I (.inl I) (fun _ _ _ h1 => by cases h1) I I (fun hb_4 => ?_) ?_
  · refine .gop I I I I I I (.fieldAddr I I (G37_0 _)) <| .gop I I I I I I (.load I I Y3 I) <| .gop I I I I I I (.fieldAddr I I (G30_5 _)) <| .gop I I I I I I (.load I I Y27 I) <| .gop I I I I I I (.len I U27 I) <| .gop I I I I I I (.geq I I I) ?_
    exact .nil I
  refine .op I I I I (.move I I) <| .jOr 6 (b2 := decide ((t0.actions.length : Int) ≤ t1.f)) I I I I (.inl I) (fun _ _ _ h1 => by cases h1) I I (fun hb_5 => ?_) ?_
  · refine .gop I I I I I I (.fieldAddr I I (G37_1 _)) <| .gop I I I I I I (.load I I Y3 I) <| .gop I I I I I I (.fieldAddr I I (G30_5 _)) <| .gop I I I I I I (.load I I Y27 I) <| .gop I I I I I I (.len I U27 I) <| .gop I I I I I I (.geq I I I) ?_
    exact .nil I
  refine .op I I I I (.move I I) <| .jOr 4 (b2 := decide (t1.target.index < 0)) I I I I (.inl I) (fun _ _ _ h1 => by cases h1) I I (fun hb_6 => ?_) ?_
  · refine .gop I I I I I I (.fieldAddr I I (G37_2 _)) <| .gop I I I I I I (.fieldAddr I I (G35_1 _)) <| .gop I I I I I I (.load I I Y3 I) <| .gop I I I I I I (.lss I I I) ?_
    exact .nil I
  refine .nil <| .nil <| .keep [] [2, 3, 39] (.c I <| .c I <| .c I .nil) I <| .condS I h (fun h => ?_) fun h => ?_
  · refine .seq <| .region <| .op I I (.assign I I) <| .nil <| .ret ?_
    cases h
    exact retOne I (.d _)
  · refine .skip <| .seq <| .seq <| .region <| .op I I (.fieldAddr I I (G37_2 _)) <| .op I I (.fieldAddr I I (G35_0 _)) <| .op I I (.load I I Y4 I) <| .nil <| .condS I h (fun h => ?_) fun h => ?_
    · refine .seq <| .draw 14 Hm (by kernel_rfl) (by kernel_rfl) <| .op I I I I (.fieldAddr I I (G37_2 _)) <| .op I I I I (.fieldAddr I I (G35_1 _)) <| .op I I I I (.load I I Y3 I) <| .op I I I I (.fieldAddr I I (G30_5 _)) <| .op I I I I (.load I I Y27 I) <| .op I I I I (.fieldAddr I I (G37_0 _)) <| .op I I I I (.load I I Y3 I) <| bK h fun x50_7 hx50_7 h => .op I I I I (.idx I I I U27 S84 hx50_7) <| .op I I I I (.fieldAddr I I (G84_2 _)) <| .op I I I I (.fieldAddr I I (G82_1 _)) <| .op I I I I (.load I I Y49 I) <| .op I I I I (.len I U49 I) <| .op I I I I (.lss I I I) <| .op I I I I (.assign I I) <| .nil <| .nil <| .keep [] [4] (.c I .nil) I <| .ret ?_
      cases h
      exact retOne I (.d _)
    · refine .skip <| .seq <| .plain 14 I <| .op I I I I (.fieldAddr I I (G37_0 _)) <| .op I I I I (.load I I Y3 I) <| .op I I I I (.fieldAddr I I (G37_1 _)) <| .op I I I I (.load I I Y3 I) <| .op I I I I (.leq I I I) <| .op I I I I (.move I I) <| .jAnd 7 (b2 := decide (t1.target.index < (t0.constraints.length : Int))) I I I I (.inl I) (fun _ _ _ h1 => by cases h1) I I (fun hb_8 => ?_) ?_
      · refine .gop I I I I I I (.fieldAddr I I (G37_2 _)) <| .gop I I I I I I (.fieldAddr I I (G35_1 _)) <| .gop I I I I I I (.load I I Y3 I) <| .gop I I I I I I (.fieldAddr I I (G30_3 _)) <| .gop I I I I I I (.load I I Y25 I) <| .gop I I I I I I (.len I U25 I) <| .gop I I I I I I (.lss I I I) ?_
        exact .nil I
      refine .nil <| .op I I (.assign I I) <| .nil <| .keep [] [4] (.c I .nil) I <| .ret ?_
      cases h
      exact retOne I (.d _)
theorem ref22_raises_ok (n : Nat) (t0 : Effect) (t1 : Constraint) (r : Bool) (h : ref22_raises n t0 t1 = some r) : Pure Tryz.prog 69 [Effect.enc t0, Constraint.enc t1] (.bool r) := by
  refine Pure.ot Tryz.func69 I Tryz.ntmps69 I fun A w => .seq <| .region <| .op I I (.box I I) <| .op I I (.box I I) <| .op I I (.assign I I) <| .nil <| .seq <| .seq <| .region <| .op I I (.assign I I) <| .nil <| .block <| .loopS [2, 3] (fun (v : Int) => [(5, .d (.int v))]) (fun (v : Int) => []) (.c I <| .c I .nil) h ⟨_, I, I, I, I, I, I, trivial⟩ (fun rec_6 x5_5 h => ?_)
  refine .seq <| .seq <| .region <| .op I I (.move I I) <| .op I I (.fieldAddr I I (G78_4 _)) <| .op I I (.load I I Y3 I) <| .op I I (.fieldAddr I I (G78_4 _)) <| .op I I (.load I I Y3 I) <| .op I I (.mul6 I I I) <| .op I I (.lss I I I) <| .nil <| .keep [] [2, 3, 5, 12] (.c I <| .c I <| .c I <| .c I .nil) I <| .condS I h (fun h => ?_) fun h => ?_
  · refine .skip <| .seq <| .block <| .seq <| .region <| .op I I (.load I I Y82 I) <| .op I I (.fieldAddr I I (G78_3 _)) <| .op I I (.load I I Y3 I) <| .op I I (.move I I) <| .op I I (.add6 I I I) <| bK h fun x20_7 hx20_7 h => .op I I (.call I K106 I (ref22_Add_ok _ _ _ _ hx20_7)) <| .op I I (.gtr I I I) <| .nil <| .condS I h (fun h => ?_) fun h => ?_
    · refine .seq <| .region <| .op I I (.assign I I) <| .nil <| .ret ?_
      cases h
      exact retOne I (.d _)
    · refine .skip <| .region <| .op I I (.move I I) <| .op I I (.add6 I I I) <| .op I I (.assign I I) <| .nil ?_
      exact ⟨_, h, ⟨_, I, I, I, I, I, I, trivial⟩⟩
  · refine .exit <| .seq <| .region <| .op I I (.assign I I) <| .nil <| .ret ?_
    cases h
    exact retOne I (.d _)
set_option maxHeartbeats 2000000 in
theorem ref22_open_ok (n : Nat) (t0 : Model) (t1 : Question) (r : Bool) (h : ref22_open n t0 t1 = some r) : Pure Tryz.prog 45 [Model.enc t0, Question.enc t1] (.bool r) := by
  refine Pure.ot Tryz.func45 I Tryz.ntmps45 I fun A w => .seq <| .region <| .op I I (.box I I) <| .op I I (.box I I) <| .op I I (.assign I I) <| .nil <| .seq <| .region <| .op I I (.fieldAddr I I (G30_5 _)) <| .op I I (.load I I Y27 I) <| .op I I (.fieldAddr I I (G37_0 _)) <| .op I I (.load I I Y3 I) <| bK h fun x12_1 hx12_1 h => .op I I (.idx I I I U27 S84 hx12_1) <| .op I I (.fieldAddr I I (G84_2 _)) <| .op I I (.load I I Y82 I) <| .allocStore I I I I I I I I (by simp) I I Z82 <| .nil <| .seq <| .region <| .op I I (.fieldAddr I I (G30_5 _)) <| .op I I (.load I I Y27 I) <| .op I I (.fieldAddr I I (G37_1 _)) <| .op I I (.load I I Y3 I) <| bK h fun x19_2 hx19_2 h => .op I I (.idx I I I U27 S84 hx19_2) <| .op I I (.fieldAddr I I (G84_2 _)) <| .op I I (.load I I Y82 I) <| .allocStore I I I I I I I I (by simp) I I Z82 <| .nil <| .keep [] [2, 3, 5, 6] (.c I <| .c I <| .c I <| .c I .nil) I <| .seq <| .seq <| .region <| .op I I (.fieldAddr I I (G37_2 _)) <| .op I I (.fieldAddr I I (G35_0 _)) <| .op I I (.load I I Y4 I) <| .nil <| .condS I h (fun h => ?_) fun h => ?_
  · refine .seq <| .draw 11 Hm (by kernel_rfl) (by kernel_rfl) <| .op I I I I (.load I I Y82 I) <| .op I I I I (.fieldAddr I I (G82_1 _)) <| .op I I I I (.load I I Y49 I) <| .op I I I I (.fieldAddr I I (G37_2 _)) <| .op I I I I (.fieldAddr I I (G35_1 _)) <| .op I I I I (.load I I Y3 I) <| bK h fun x31_3 hx31_3 h => .op I I I I (.idx I I I U49 S33 hx31_3) <| .op I I I I (.load I I Y33 I) <| bK h fun x33_4 hx33_4 h => .op I I I I (.call I K42 I (ref22_Sum_ok _ _ _ _ hx33_4)) <| .op I I I I (.gtr I I I) <| .op I I I I (.assign I I) <| .nil <| .nil <| .ret ?_
    cases h
    exact retOne I (.d _)
  · refine .skip <| .seq <| .region <| .op I I (.fieldAddr I I (G30_3 _)) <| .op I I (.load I I Y25 I) <| .op I I (.fieldAddr I I (G37_2 _)) <| .op I I (.fieldAddr I I (G35_1 _)) <| .op I I (.load I I Y3 I) <| bK h fun x40_5 hx40_5 h => .op I I (.idx I I I U25 S78 hx40_5) <| .op I I (.load I I Y78 I) <| .allocStore I I I I I I I I (by simp) I I Z78 <| .nil <| .seq <| .seq <| .region <| .op I I (.fieldAddr I I (G78_0 _)) <| .op I I (.load I I Y3 I) <| .op I I (.eql I I I) <| .nil <| .condS I h (fun h => ?_) fun h => ?_
    · refine .seq <| .plain 8 I <| .op I I I I (.load I I Y82 I) <| .op I I I I (.load I I Y78 I) <| bK h fun x47_6 hx47_6 h => .op I I I I (.call I K69 I (ref22_raises_ok _ _ _ _ hx47_6)) <| .op I I I I (.move I I) <| gK h fun hc_8 h => .jAnd 3 (b2 := ((ref22_raises n x19_2.effect x40_5).getD default)) I I I I (.inl I) (fun _ _ _ h1 => by cases h1) I I (fun hb_7 => ?_) ?_
      · refine .gop I I I I I I (.load I I Y82 I) <| .gop I I I I I I (.load I I Y78 I) <| .gop I I I I I I (.call I K69 I (ref22_raises_ok _ _ _ _ (someD (impT hc_8 hb_7)))) ?_
        exact .nil I
      refine .nil <| .op I I (.assign I I) <| .nil <| .keep [] [4] (.c I .nil) I <| .ret ?_
      cases h
      exact retOne I (.d _)
    · refine .skip <| .seq <| .plain 12 I <| .op I I I I (.load I I Y82 I) <| .op I I I I (.fieldAddr I I (G78_2 _)) <| .op I I I I (.load I I Y33 I) <| bK h fun x56_9 hx56_9 h => .op I I I I (.call I K42 I (ref22_Sum_ok _ _ _ _ hx56_9)) <| .op I I I I (.gtr I I I) <| .op I I I I (.move I I) <| gK h fun hc_11 h => .jAnd 5 (b2 := decide (0 < ((ref22_Sum n x19_2.effect x40_5.row).getD default))) I I I I (.inl I) (fun _ _ _ h1 => by cases h1) I I (fun hb_10 => ?_) ?_
      · refine .gop I I I I I I (.load I I Y82 I) <| .gop I I I I I I (.fieldAddr I I (G78_2 _)) <| .gop I I I I I I (.load I I Y33 I) <| .gop I I I I I I (.call I K42 I (ref22_Sum_ok _ _ _ _ (someD (impT hc_11 hb_10)))) <| .gop I I I I I I (.gtr I I I) ?_
        exact .nil I
      refine .nil <| .op I I (.assign I I) <| .nil <| .keep [] [4] (.c I .nil) I <| .ret ?_
      cases h
      exact retOne I (.d _)
theorem ref22_Open_ok (n : Nat) (t0 : Model) (t1 : Question) (r : Bool) (h : ref22_Open n t0 t1 = some r) : Pure Tryz.prog 15 [Model.enc t0, Question.enc t1] (.bool r) := by
  refine Pure.ot Tryz.func15 I Tryz.ntmps15 I fun A w => .seq <| .region <| .op I I (.box I I) <| .op I I (.box I I) <| .op I I (.assign I I) <| .nil <| .seq <| .plain 8 I <| .op I I I I (.load I I Y30 I) <| .op I I I I (.load I I Y37 I) <| bK h fun x7_1 hx7_1 h => .op I I I I (.call I K22 I (ref16_Valid_ok _ _ _ _ hx7_1)) <| .op I I I I (.move I I) <| gK h fun hc_3 h => .jAnd 3 (b2 := ((ref22_open n t0 t1).getD default)) I I I I (.inl I) (fun _ _ _ h1 => by cases h1) I I (fun hb_2 => ?_) ?_
  · refine .gop I I I I I I (.load I I Y30 I) <| .gop I I I I I I (.load I I Y37 I) <| .gop I I I I I I (.call I K45 I (ref22_open_ok _ _ _ _ (someD (impT hc_3 hb_2)))) ?_
    exact .nil I
  refine .nil <| .op I I (.assign I I) <| .nil <| .ret ?_
  cases h
  exact retOne I (.d _)
set_option maxHeartbeats 2000000 in
theorem law22_ConditionChanges_ok (n : Nat) (t0 : Model) (t1 : Int) (t2 : Row) (t3 : Question) (r : Bool) (h : law22_ConditionChanges n t0 t1 t2 t3 = some r) : Pure Tryz.prog 3 [Model.enc t0, .int t1, Row.enc t2, Question.enc t3] (.bool r) := by
  refine Pure.ot Tryz.func3 I Tryz.ntmps3 I fun A w => .seq <| .region <| .op I I (.box I I) <| .op I I (.box I I) <| .op I I (.box I I) <| .op I I (.assign I I) <| .nil <| .seq <| .seq <| .region <| bK h fun x11_1 hx11_1 h => .op I I (.call I K10 I (law22_awake_ok _  _ hx11_1)) <| .op I I (.not I I) <| .nil <| .condS I h (fun h => ?_) fun h => ?_
  · refine .seq <| .region <| .op I I (.assign I I) <| .nil <| .ret ?_
    cases h
    exact retOne I (.d _)
  · refine .skip <| .seq <| .seq <| .plain 9 I <| .op I I I I (.load I I Y30 I) <| bK h fun x14_2 hx14_2 h => .op I I I I (.call I K11 I (ref13_Few_ok _ _ _ hx14_2)) <| .op I I I I (.not I I) <| .op I I I I (.move I I) <| .jOr 4 (b2 := decide (150 < (t2.terms.length : Int))) I I I I (.inl I) (fun _ _ _ h1 => by cases h1) I I (fun hb_3 => ?_) ?_
    · refine .gop I I I I I I (.fieldAddr I I (G33_0 _)) <| .gop I I I I I I (.load I I Y31 I) <| .gop I I I I I I (.len I U31 I) <| .gop I I I I I I (.gtr I I I) ?_
      exact .nil I
    refine .nil <| .nil <| .condS I h (fun h => ?_) fun h => ?_
    · refine .seq <| .region <| .op I I (.assign I I) <| .nil <| .keep [] [8] (.c I .nil) I <| .ret ?_
      cases h
      exact retOne I (.d _)
    · refine .skip <| .seq <| .seq <| .region <| .op I I (.fieldAddr I I (G33_0 _)) <| .op I I (.load I I Y31 I) <| .op I I (.len I U31 I) <| .op I I (.move I I) <| .nil <| .keep [] [1, 4, 6, 7, 23, 24, 25] (.c I <| .c I <| .c I <| .c I <| .c I <| .c I <| .c I .nil) I <| .block <| .loopS [1, 4, 6, 7, 23, 24] (fun (v : Int) => [(25, .d (.int v))]) (fun (v : Int) => []) (.c I <| .c I <| .c I <| .c I <| .c I <| .c I .nil) h ⟨_, I, I, I, I, I, I, I, I, I, I, trivial⟩ (fun rec_11 x25_10 h => ?_)
      refine .seq <| .region <| .op I I (.lss I I I) <| .nil <| .keep [] [1, 4, 6, 7, 23, 24, 25, 26] (.c I <| .c I <| .c I <| .c I <| .c I <| .c I <| .c I <| .c I .nil) I <| .seq <| .condS I h (fun h => ?_) fun h => ?_
      · refine .skip <| .seq <| .block <| .seq <| .region <| bK h fun x27_12 hx27_12 h => .op I I (.idx I I I U31 S41 hx27_12) <| .op I I (.load I I Y41 I) <| .allocStore I I I I I I I I (by simp) I I Z41 <| .nil <| .seq <| .plain 8 I <| .op I I I I (.fieldAddr I I (G41_1 _)) <| .op I I I I (.load I I Y3 I) <| .op I I I I (.lss I I I) <| .op I I I I (.move I I) <| .jOr 3 (b2 := decide (1000 < x27_12.factor)) I I I I (.inl I) (fun _ _ _ h1 => by cases h1) I I (fun hb_13 => ?_) ?_
        · refine .gop I I I I I I (.fieldAddr I I (G41_1 _)) <| .gop I I I I I I (.load I I Y3 I) <| .gop I I I I I I (.gtr I I I) ?_
          exact .nil I
        refine .nil <| .nil <| .condS I h (fun h => ?_) fun h => ?_
        · refine .seq <| .region <| .op I I (.assign I I) <| .nil <| .ret ?_
          cases h
          exact retOne I (.d _)
        · refine .skip <| .region <| .op I I (.add6 I I I) <| .op I I (.move I I) <| .nil ?_
          exact ⟨_, h, ⟨_, I, I, I, I, I, I, I, I, I, I, trivial⟩⟩
      · refine .exit <| .seq <| .draw 19 Hm (by kernel_rfl) (by kernel_rfl) <| .op I I I I (.load I I Y30 I) <| .op I I I I (.move I I) <| .op I I I I (.load I I Y33 I) <| bK h fun x41_14 hx41_14 h => .op I I I I (.call I K12 I (condition_Change_ok _ _ _ _ _ hx41_14)) <| .op I I I I (.load I I Y30 I) <| .op I I I I (.move I I) <| .op I I I I (.load I I Y33 I) <| bK h fun x45_15 hx45_15 h => .op I I I I (.call I K13 I (ref22_Change_ok _ _ _ _ _ hx45_15)) <| .op I I I I (.eql I I I) <| .op I I I I (.move I I) <| gK h fun hc_17 h => gK h fun hc_18 h => .jAnd 7 (b2 := ((condition_Open n t0 t3).getD default) == ((ref22_Open n t0 t3).getD default)) I I I I (.inl I) (fun _ _ _ h1 => by cases h1) I I (fun hb_16 => ?_) ?_
        · refine .gop I I I I I I (.load I I Y30 I) <| .gop I I I I I I (.load I I Y37 I) <| .gop I I I I I I (.call I K14 I (condition_Open_ok _ _ _ _ (someD (impT hc_17 hb_16)))) <| .gop I I I I I I (.load I I Y30 I) <| .gop I I I I I I (.load I I Y37 I) <| .gop I I I I I I (.call I K15 I (ref22_Open_ok _ _ _ _ (someD (impT hc_18 hb_16)))) <| .gop I I I I I I (.beq I U4 I I) ?_
          exact .nil I
        refine .op I I I I (.assign I I) <| .nil <| .nil <| .keep [] [8] (.c I .nil) I <| .ret ?_
        cases h
        exact retOne I (.d _)
end Go.Proofs.YtcagdmegicijlaaGreatDoor
namespace Go.Proofs.YtcagdmegicijlaaGreatDoor
open Go Go.RowKit
theorem loopF_g {σ R : Type} {body : (σ → Option R) → σ → Option R} {len : Nat} {st : Nat → σ} {g : Nat → Option R}
    (hb : ∀ rec i, i < len → rec (st (i + 1)) = g (i + 1) → body rec (st i) = g i) (he : ∀ rec, body rec (st len) = g len) :
    ∀ n i, i ≤ len → len - i < n → loopF body n (st i) = g i
  | 0, _, _, h => by omega
  | n + 1, i, hi, h => by
    simp only [loopF]
    by_cases e : i = len
    · subst e; exact he _
    · exact hb _ i (by omega) (loopF_g hb he n (i + 1) (by omega) (by omega))
theorem add64_1 {i : Nat} (h : i < 4611686018427387904) : add64 (i : Int) 1 = ((i + 1 : Nat) : Int) := by
  unfold add64; rw [w64_id (by omega) (by omega)]; omega
theorem idx_nat {α : Type} {l : List α} {i : Nat} (h : i < l.length) : idx l (i : Int) = some l[i] := by
  unfold idx; rw [if_pos (by omega)]; simp [h]
theorem lt_len {α : Type} {l : List α} {i : Nat} (h : i < l.length) : decide ((i : Int) < (l.length : Int)) = true := by simp; omega
theorem ge_len {α : Type} {l : List α} : decide (((l.length : Nat) : Int) < (l.length : Int)) = false := by simp
def addedP : List Change → Int → Int
  | [], _ => 0
  | d :: l, c => if d.cell = c then d.add else addedP l c
theorem drop_cons {α : Type} {l : List α} {i : Nat} (h : i < l.length) : l.drop i = l[i] :: l.drop (i + 1) := List.drop_eq_getElem_cons h
theorem condition_added_eq {n : Nat} {a : Action} (c : Int) (hl : a.effect.delta.length < 4611686018427387904) (hn : a.effect.delta.length < n) : condition_added n a c = some (addedP a.effect.delta c) := by
  have := loopF_g (body := condition_added.l1 n a c) (len := a.effect.delta.length) (st := fun i => (i : Int)) (g := fun i => some (addedP (a.effect.delta.drop i) c)) (fun rec i hi hr => ?_) (fun rec => ?_) n 0 (Nat.zero_le _) (by omega)
  · simpa [condition_added] using this
  · simp only [condition_added.l1, lt_len hi, if_true, idx_nat hi, Option.bind_some, add64_1 (show i < 4611686018427387904 by omega), hr]
    rw [drop_cons hi]
    simp only [addedP, beq_iff_eq]
    split <;> rfl
  · simp [condition_added.l1, addedP]
def changeP (f : Int → Int) : List Term → Int → Int
  | [], s => s
  | t :: l, s => changeP f l (add64 s (mul64 t.factor (f t.cell)))
def takeP (f : Int → Int) (l : List Term) (i : Nat) : Int := changeP f (l.take i) 0
theorem changeP_append (f : Int → Int) : ∀ (l m : List Term) (s : Int), changeP f (l ++ m) s = changeP f m (changeP f l s)
  | [], _, _ => rfl
  | _ :: l, m, s => by simp only [List.cons_append, changeP]; exact changeP_append f l m _
theorem takeP_succ (f : Int → Int) {l : List Term} {i : Nat} (h : i < l.length) : takeP f l (i + 1) = add64 (takeP f l i) (mul64 l[i].factor (f l[i].cell)) := by
  unfold takeP
  rw [List.take_succ_eq_append_getElem h, changeP_append]
  rfl
theorem condition_change_eq {n : Nat} {a : Action} {r : Row} (h1 : a.effect.delta.length < 4611686018427387904) (h2 : a.effect.delta.length < n) (h3 : r.terms.length < 4611686018427387904) (h4 : r.terms.length < n) :
    condition_change n a r = some (changeP (addedP a.effect.delta) r.terms 0) := by
  have := loopF_g (body := condition_change.l1 n a r) (len := r.terms.length) (st := fun i => (takeP (addedP a.effect.delta) r.terms i, (i : Int))) (g := fun _ => some (changeP (addedP a.effect.delta) r.terms 0)) (fun rec i hi hr => ?_) (fun rec => ?_) n 0 (Nat.zero_le _) (by omega)
  · simpa [condition_change, takeP, changeP] using this
  · simp only [condition_change.l1, lt_len hi, if_true, idx_nat hi, Option.bind_some, condition_added_eq _ h1 h2, add64_1 (show i < 4611686018427387904 by omega), ← takeP_succ _ hi, hr]
  · simp [condition_change.l1, takeP]
def addP (c : Int) : List Change → Int → Int
  | [], s => s
  | d :: l, s => addP c l (if d.cell = c then add64 s d.add else s)
theorem addP_append (c : Int) : ∀ (l m : List Change) (s : Int), addP c (l ++ m) s = addP c m (addP c l s)
  | [], _, _ => rfl
  | _ :: l, m, s => by simp only [List.cons_append, addP]; exact addP_append c l m _
theorem ref22_Add_eq {n : Nat} {e : Effect} (c : Int) (hl : e.delta.length < 4611686018427387904) (hn : e.delta.length < n) : ref22_Add n e c = some (addP c e.delta 0) := by
  have := loopF_g (body := ref22_Add.l1 n e c) (len := e.delta.length) (st := fun i => (addP c (e.delta.take i) 0, (i : Int))) (g := fun _ => some (addP c e.delta 0)) (fun rec i hi hr => ?_) (fun rec => ?_) n 0 (Nat.zero_le _) (by omega)
  · simpa [ref22_Add, addP] using this
  · rw [List.take_succ_eq_append_getElem hi, addP_append] at hr
    simp only [addP] at hr
    simp only [ref22_Add.l1, lt_len hi, if_true, idx_nat hi, Option.bind_some, jn, add64_1 (show i < 4611686018427387904 by omega), beq_iff_eq]
    split at hr <;> rename_i h
    · rw [if_pos h, hr]
    · rw [if_neg h, hr]
  · simp [ref22_Add.l1]
theorem ref22_Sum_eq {n : Nat} {e : Effect} {r : Row} (h1 : e.delta.length < 4611686018427387904) (h2 : e.delta.length < n) (h3 : r.terms.length < 4611686018427387904) (h4 : r.terms.length < n) :
    ref22_Sum n e r = some (changeP (fun c => addP c e.delta 0) r.terms 0) := by
  have := loopF_g (body := ref22_Sum.l1 n e r) (len := r.terms.length) (st := fun i => (takeP (fun c => addP c e.delta 0) r.terms i, (i : Int))) (g := fun _ => some (changeP (fun c => addP c e.delta 0) r.terms 0)) (fun rec i hi hr => ?_) (fun rec => ?_) n 0 (Nat.zero_le _) (by omega)
  · simpa [ref22_Sum, takeP, changeP] using this
  · rw [takeP_succ _ hi] at hr
    simp only [ref22_Sum.l1, lt_len hi, if_true, idx_nat hi, Option.bind_some, ref22_Add_eq _ h1 h2, add64_1 (show i < 4611686018427387904 by omega), hr]
  · simp [ref22_Sum.l1, takeP]
theorem addP_other (c : Int) : ∀ (l : List Change) (s : Int), (∀ d ∈ l, d.cell ≠ c) → addP c l s = s
  | [], _, _ => rfl
  | d :: l, s, h => by
    simp only [addP]; rw [if_neg (h d (by simp))]; exact addP_other c l s fun x hx => h x (by simp [hx])
theorem addP_addedP (c : Int) : ∀ (l : List Change), (l.map (·.cell)).Nodup → (∀ d ∈ l, -9223372036854775808 ≤ d.add ∧ d.add ≤ 9223372036854775807) → addP c l 0 = addedP l c
  | [], _, _ => rfl
  | d :: l, hn, hb => by
    simp only [List.map_cons, List.nodup_cons, List.mem_map, not_exists, not_and] at hn
    simp only [addP, addedP]
    split <;> rename_i h
    · rw [addP_other c l _ fun x hx e => hn.1 x hx (e.trans h.symm)]
      have := hb d (by simp)
      unfold add64; rw [Int.zero_add]; exact w64_id this.1 this.2
    · exact addP_addedP c l hn.2 fun x hx => hb x (by simp [hx])
end Go.Proofs.YtcagdmegicijlaaGreatDoor
namespace Go.Proofs.YtcagdmegicijlaaGreatDoor
open Go Go.RowKit
variable {κ : Type} [DecidableEq κ]
structure SetIs (m : GMap κ Bool) (l : List κ) : Prop where
  tru : ∀ e ∈ m.es, e.2.2 = true
  mem : ∀ k, k ∈ m.es.map (fun e => e.2.1) ↔ k ∈ l
theorem findK_get (k : κ) : ∀ (es : List (Nat × κ × Bool)), (∀ e ∈ es, e.2.2 = true) → ((findK k es).map (·.2)).getD false = decide (k ∈ es.map (fun e => e.2.1))
  | [], _ => by simp [findK]
  | e :: es, h => by
    simp only [findK, List.map_cons, List.mem_cons]
    by_cases hk : k = e.2.1
    · simp [hk, h e (by simp)]
    · rw [if_neg hk]
      have := findK_get k es fun x hx => h x (by simp [hx])
      simp only [hk, false_or, ← this, Option.map_map]
      cases findK k es <;> rfl
theorem findK_no (k : κ) : ∀ (es : List (Nat × κ × Bool)), findK k es = none → k ∉ es.map (fun e => e.2.1)
  | [], _ => by simp
  | e :: es, h => by
    simp only [findK] at h
    split at h
    · cases h
    · rename_i hk
      simp only [Option.map_eq_none_iff] at h
      simp only [List.map_cons, List.mem_cons, not_or]
      exact ⟨hk, findK_no k es h⟩
theorem findK_yes (k : κ) : ∀ (es : List (Nat × κ × Bool)) (p : Nat × Bool), findK k es = some p → k ∈ es.map (fun e => e.2.1)
  | [], _, h => by simp [findK] at h
  | e :: es, p, h => by
    simp only [findK] at h
    split at h
    · rename_i hk; simp [hk]
    · simp only [Option.map_eq_some_iff] at h
      obtain ⟨q, h1, _⟩ := h
      exact List.mem_cons_of_mem _ (findK_yes k es q h1)
theorem SetIs.get {m : GMap κ Bool} {l : List κ} (h : SetIs m l) (k : κ) : (m.get? k).getD false = decide (k ∈ l) := by
  unfold GMap.get?
  rw [findK_get k m.es h.tru]
  exact decide_eq_decide.2 (h.mem k)
theorem SetIs.empty : SetIs (GMap.empty : GMap κ Bool) [] := ⟨fun e he => (by simp [GMap.empty] at he), fun k => by simp [GMap.empty]⟩
theorem modify_keys (f : Nat × κ × Bool → Nat × κ × Bool) (hf : ∀ e, (f e).2.1 = e.2.1) : ∀ (es : List (Nat × κ × Bool)) (i : Nat), (es.modify i f).map (fun e => e.2.1) = es.map (fun e => e.2.1)
  | [], _ => by simp
  | e :: es, 0 => by simp [hf]
  | e :: es, i + 1 => by simp [modify_keys f hf es i]
theorem modify_all {p : Nat × κ × Bool → Prop} (f : Nat × κ × Bool → Nat × κ × Bool) (hf : ∀ e, p (f e)) : ∀ (es : List (Nat × κ × Bool)) (i : Nat), (∀ e ∈ es, p e) → ∀ e ∈ es.modify i f, p e
  | [], _, _ => by simp
  | e :: es, 0, h => by
    intro x hx
    simp only [List.modify_zero_cons, List.mem_cons] at hx
    rcases hx with rfl | hx
    · exact hf e
    · exact h x (by simp [hx])
  | e :: es, i + 1, h => by
    intro x hx
    simp only [List.modify_succ_cons, List.mem_cons] at hx
    rcases hx with rfl | hx
    · exact h x (by simp)
    · exact modify_all f hf es i (fun y hy => h y (by simp [hy])) x hx
theorem SetIs.put {m : GMap κ Bool} {l : List κ} (h : SetIs m l) (k : κ) : SetIs (m.put k true) (l ++ [k]) := by
  unfold GMap.put
  cases hk : findK k m.es with
  | none =>
    simp only []
    refine ⟨fun e he => ?_, fun x => ?_⟩
    · simp only [List.mem_append, List.mem_singleton] at he
      rcases he with he | rfl
      · exact h.tru e he
      · rfl
    · simp only [List.map_append, List.map_cons, List.map_nil, List.mem_append, List.mem_singleton, h.mem x]
  | some p =>
    obtain ⟨i, b⟩ := p
    simp only []
    have hkl : k ∈ l := (h.mem k).1 (findK_yes k m.es _ hk)
    refine ⟨modify_all (p := fun e => e.2.2 = true) _ (fun e => rfl) m.es i h.tru, fun x => ?_⟩
    rw [modify_keys (fun e : Nat × κ × Bool => (e.1, e.2.1, true)) (fun e => rfl) m.es i, h.mem x]
    simp only [List.mem_append, List.mem_singleton]
    exact ⟨.inl, fun hx => hx.elim id fun e => by rw [e]; exact hkl⟩
end Go.Proofs.YtcagdmegicijlaaGreatDoor
namespace Go.Proofs.YtcagdmegicijlaaGreatDoor
open Go Go.RowKit
def ixP {α : Type} (p : α → Bool) : List α → Nat → Int
  | [], _ => -1
  | x :: l, i => if p x = true then (i : Int) else ixP p l (i + 1)
theorem ixP_iff {α : Type} (p : α → Bool) : ∀ (l : List α) (i : Nat), 0 ≤ ixP p l i ↔ l.any p = true
  | [], _ => by simp [ixP]
  | x :: l, i => by
    have ih := ixP_iff p l (i + 1)
    rw [ixP, List.any_cons]
    by_cases h : p x = true
    · rw [if_pos h, h]; simp
    · rw [if_neg h, ih]; simp only [Bool.not_eq_true] at h; rw [h, Bool.false_or]
theorem ixP_any {α : Type} (p : α → Bool) (l : List α) (i : Nat) : decide (0 ≤ ixP p l i) = l.any p := by
  have := ixP_iff p l i
  cases h : l.any p with
  | true => exact decide_eq_true (this.2 h)
  | false => exact decide_eq_false fun hc => by rw [this.1 hc] at h; cases h
theorem IndexFunc_Lint_eq {n : Nat} {l : List Int} {f : Int → Option Bool} {p : Int → Bool} (hf : ∀ x ∈ l, f x = some (p x)) (hl : l.length < 4611686018427387904) (hn : l.length < n) : slices_IndexFunc_Lint_int n l f = some (ixP p l 0) := by
  have := loopF_g (body := slices_IndexFunc_Lint_int.l1 n l f) (len := l.length) (st := fun i => (i : Int)) (g := fun i => some (ixP p (l.drop i) i)) (fun rec i hi hr => ?_) (fun rec => ?_) n 0 (Nat.zero_le _) (by omega)
  · simpa [slices_IndexFunc_Lint_int] using this
  · simp only [slices_IndexFunc_Lint_int.l1, lt_len hi, if_true, idx_nat hi, Option.bind_some, hf _ (List.getElem_mem hi), add64_1 (show i < 4611686018427387904 by omega), hr]
    rw [drop_cons hi]
    simp only [ixP]
    split <;> rfl
  · simp [slices_IndexFunc_Lint_int.l1, ixP]
theorem ContainsFunc_Lint_eq {n : Nat} {l : List Int} {f : Int → Option Bool} {p : Int → Bool} (hf : ∀ x ∈ l, f x = some (p x)) (hl : l.length < 4611686018427387904) (hn : l.length < n) : slices_ContainsFunc_Lint_int n l f = some (l.any p) := by
  unfold slices_ContainsFunc_Lint_int
  rw [IndexFunc_Lint_eq hf hl hn, Option.bind_some, ixP_any]
def sizeOK (x : Int) : Bool := decide (1 ≤ x) && decide (x ≤ 6)
def colOK (sizes : List Int) (c : Int) : Bool := decide (0 ≤ c) && decide (c < (sizes.length : Int))
theorem any_not {α : Type} (p : α → Bool) (l : List α) : (!l.any fun x => !p x) = l.all p := by
  induction l with
  | nil => rfl
  | cons x l ih => simp only [List.any_cons, List.all_cons, ← ih]; cases p x <;> simp
theorem cells_sized_eq {n : Nat} {l : List Int} (hl : l.length < 4611686018427387904) (hn : l.length < n) : cells_sized n l = some (l.all sizeOK) := by
  unfold cells_sized
  rw [ContainsFunc_Lint_eq (p := fun x => !sizeOK x) (fun x _ => by simp [cells_sized_1, cells_within, sizeOK]) hl hn, Option.bind_some, any_not]
theorem cells_columned_eq {n : Nat} {sizes cols : List Int} (hl : cols.length < 4611686018427387904) (hn : cols.length < n) : cells_columned n sizes cols = some (decide (cols.length ≤ 3) && cols.all (colOK sizes)) := by
  unfold cells_columned
  rw [ContainsFunc_Lint_eq (p := fun x => !colOK sizes x) (fun x _ => by
    simp only [cells_columned_1, colOK, Option.some.injEq, Bool.not_and]
    congr 1
    · rw [← decide_not]; exact decide_eq_decide.2 (by omega)
    · rw [← decide_not]; exact decide_eq_decide.2 (by omega)) hl hn]
  simp only [Option.isSome_some, Bool.or_true, grd, if_true, Option.getD_some, any_not, Option.some.injEq]
  congr 1
  exact decide_eq_decide.2 (by omega)
theorem ref09_sound_eq {n : Nat} {l : List Int} (hl : l.length < 4611686018427387904) (hn : l.length < n) : ref09_sound n l = some (l.all sizeOK) := by
  have := loopF_g (body := ref09_sound.l1 n l) (len := l.length) (st := fun i => (i : Int)) (g := fun i => some ((l.drop i).all sizeOK)) (fun rec i hi hr => ?_) (fun rec => ?_) n 0 (Nat.zero_le _) (by omega)
  · simpa [ref09_sound] using this
  · simp only [ref09_sound.l1, lt_len hi, if_true, idx_nat hi, Option.bind_some, Option.isSome_some, Bool.or_true, grd, Option.getD_some, add64_1 (show i < 4611686018427387904 by omega), hr]
    rw [drop_cons hi]
    simp only [List.all_cons, sizeOK]
    by_cases h : 1 ≤ l[i] ∧ l[i] ≤ 6
    · rw [if_neg (by simp; omega)]; simp [h.1, h.2]
    · rw [if_pos (by simp; omega)]
      have : (decide (1 ≤ l[i]) && decide (l[i] ≤ 6)) = false := by
        simp only [Bool.and_eq_false_iff, decide_eq_false_iff_not]; omega
      rw [this, Bool.false_and]
  · simp [ref09_sound.l1]
end Go.Proofs.YtcagdmegicijlaaGreatDoor
namespace Go.Proofs.YtcagdmegicijlaaGreatDoor
open Go Go.RowKit
def widthP (sizes : List Int) : List Int → Int → Int
  | [], s => s
  | c :: l, s => widthP sizes l (mul64 s (sizes.getD c.toNat 0))
theorem widthP_append (sizes : List Int) : ∀ (l m : List Int) (s : Int), widthP sizes (l ++ m) s = widthP sizes m (widthP sizes l s)
  | [], _, _ => rfl
  | _ :: l, m, s => by simp only [List.cons_append, widthP]; exact widthP_append sizes l m _
theorem idx_col {sizes : List Int} {c : Int} (h : colOK sizes c = true) : idx sizes c = some (sizes.getD c.toNat 0) := by
  simp only [colOK, Bool.and_eq_true, decide_eq_true_eq] at h
  obtain ⟨n, rfl⟩ := Int.eq_ofNat_of_zero_le h.1
  have : n < sizes.length := by omega
  rw [idx_nat this]; simp [List.getD, this]
theorem cells_width_eq {n : Nat} {sizes cols : List Int} (hc : cols.all (colOK sizes) = true) (hl : cols.length < 4611686018427387904) (hn : cols.length < n) : cells_width n sizes cols = some (widthP sizes cols 1) := by
  have := loopF_g (body := cells_width.l1 n sizes cols) (len := cols.length) (st := fun i => (widthP sizes (cols.take i) 1, (i : Int))) (g := fun _ => some (widthP sizes cols 1)) (fun rec i hi hr => ?_) (fun rec => ?_) n 0 (Nat.zero_le _) (by omega)
  · simpa [cells_width, widthP] using this
  · rw [List.take_succ_eq_append_getElem hi, widthP_append] at hr
    simp only [widthP] at hr
    simp only [cells_width.l1, lt_len hi, if_true, idx_nat hi, Option.bind_some, idx_col (List.all_eq_true.1 hc _ (List.getElem_mem hi)), add64_1 (show i < 4611686018427387904 by omega), hr]
  · simp [cells_width.l1]
theorem number_loop {n : Nat} {sizes cols : List Int} (hl : cols.length < 4611686018427387904) (hn : cols.length < n) : loopF (ref09_number.l1 n sizes cols) n (1, 0) = some (if cols.all (colOK sizes) = true then widthP sizes cols 1 else 0) := by
  by_cases hc : cols.all (colOK sizes) = true
  · rw [if_pos hc]
    have := loopF_g (body := ref09_number.l1 n sizes cols) (len := cols.length) (st := fun i => (widthP sizes (cols.take i) 1, (i : Int))) (g := fun _ => some (widthP sizes cols 1)) (fun rec i hi hr => ?_) (fun rec => ?_) n 0 (Nat.zero_le _) (by omega)
    · simpa [widthP] using this
    · rw [List.take_succ_eq_append_getElem hi, widthP_append] at hr
      simp only [widthP] at hr
      have hcol := List.all_eq_true.1 hc _ (List.getElem_mem hi)
      have h2 := idx_col hcol
      simp only [colOK, Bool.and_eq_true, decide_eq_true_eq] at hcol
      have hif : ((decide (cols[i] < 0)) || (decide ((sizes.length : Int) ≤ cols[i]))) = false := by
        simp only [Bool.or_eq_false_iff, decide_eq_false_iff_not]; omega
      simp only [ref09_number.l1, lt_len hi, if_true, idx_nat hi, Option.bind_some, Option.isSome_some, Bool.or_true, grd, Option.getD_some, hif, Bool.false_eq_true, if_false, h2, add64_1 (show i < 4611686018427387904 by omega), hr]
    · simp [ref09_number.l1]
  · rw [if_neg hc]
    have := loopF_g (body := ref09_number.l1 n sizes cols) (len := cols.length) (st := fun i => (widthP sizes (cols.take i) 1, (i : Int))) (g := fun i => some (if (cols.drop i).all (colOK sizes) = true then widthP sizes cols 1 else 0)) (fun rec i hi hr => ?_) (fun rec => ?_) n 0 (Nat.zero_le _) (by omega)
    · simpa [widthP, hc] using this
    · rw [List.take_succ_eq_append_getElem hi, widthP_append] at hr
      simp only [widthP] at hr
      rw [drop_cons hi, List.all_cons]
      by_cases hcol : colOK sizes cols[i] = true
      · have h2 := idx_col hcol
        rw [hcol, Bool.true_and]
        simp only [colOK, Bool.and_eq_true, decide_eq_true_eq] at hcol
        have hif : ((decide (cols[i] < 0)) || (decide ((sizes.length : Int) ≤ cols[i]))) = false := by
          simp only [Bool.or_eq_false_iff, decide_eq_false_iff_not]; omega
        simp only [ref09_number.l1, lt_len hi, if_true, idx_nat hi, Option.bind_some, Option.isSome_some, Bool.or_true, grd, Option.getD_some, hif, Bool.false_eq_true, if_false, h2, add64_1 (show i < 4611686018427387904 by omega), hr]
      · have hif : ((decide (cols[i] < 0)) || (decide ((sizes.length : Int) ≤ cols[i]))) = true := by
          simp only [colOK, Bool.and_eq_true, decide_eq_true_eq] at hcol
          simp only [Bool.or_eq_true, decide_eq_true_eq]; omega
        simp only [Bool.not_eq_true] at hcol
        rw [hcol, Bool.false_and, if_neg (by simp)]
        simp only [ref09_number.l1, lt_len hi, if_true, idx_nat hi, Option.bind_some, Option.isSome_some, Bool.or_true, grd, Option.getD_some, hif]
    · simp [ref09_number.l1]
theorem ref09_number_eq {n : Nat} {sizes cols : List Int} (hl : cols.length < 4611686018427387904) (hn : cols.length < n) (hs : sizes.length < 4611686018427387904) (hsn : sizes.length < n) :
    ref09_number n sizes cols = some (if (decide (cols.length ≤ 3) && sizes.all sizeOK && cols.all (colOK sizes)) = true then widthP sizes cols 1 else 0) := by
  unfold ref09_number
  rw [ref09_sound_eq hs hsn, number_loop hl hn]
  simp only [Option.isSome_some, Bool.or_true, grd, if_true, Option.getD_some]
  by_cases h3 : cols.length ≤ 3
  · cases h4 : sizes.all sizeOK with
    | true => rw [if_neg (by simp; omega)]; simp [h3]
    | false => rw [if_pos (by simp)]; simp
  · rw [if_pos (by simp; left; omega)]; simp [h3]
end Go.Proofs.YtcagdmegicijlaaGreatDoor
