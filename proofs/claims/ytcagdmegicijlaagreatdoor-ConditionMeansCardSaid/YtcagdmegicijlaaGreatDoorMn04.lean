/- Part of the proof of one law of the seat. -/
import Derived.Test.YtcagdmegicijlaaGreatDoorMn03
import Derived.Shelf.SlGeneric
import Derived.Ground.SlsfProg
set_option linter.unusedVariables false
set_option linter.unusedSectionVars false
set_option linter.unusedSimpArgs false
set_option maxHeartbeats 4000000
namespace Go.Proofs.YtcagdmegicijlaaGreatDoor
open Go Go.RowKit
abbrev yj := @_root_.Option.isSome_some
abbrev yr := @_root_.Bool.or_true
abbrev yy := @_root_.List.take_succ_eq_append_getElem
abbrev yF := @_root_.Bool.not_eq_true
abbrev y6 := @_root_.Bool.false_and
abbrev ua := @_root_.Bool.or_eq_false_iff
abbrev uT := @_root_.List.any_cons
theorem zia (n t0 r) (h : zfk n t0 = some r) : Pure pg 143 [.str t0] (.bool r) := by
 refine Pure.ot Tryz.func143 I Tryz.ntmps143 I fun A w => .sA 1 I<|.seq<|.plain 8 I<|.A 1 I<|.p I (.len_str I U9 I)<|.A 2 I<|gK h fun c2 h => .jA 3 (((zef n t0).getD default) == 1) I (fun b1 => ?_) ?_
 ·refine .A 1 I<|.q I (.call I (kC I) I (lexer_Kind_ok _ _ _ (someD (impT c2 b1))))<|.A 1 I<|.nil I
 refine .nil<|.A 1 I<|.nil<|.ret (rO h I)
theorem zhA (n t0 t1 r) (h : zcn n t0 t1 = some r) : Pure pg 194 [.int t0, .ref (eA t1)] (.bool r) := by
 refine Pure.ot Tryz.func194 I Tryz.ntmps194 I fun A w => .sA 1 I<|.seq<|.plain 8 I<|.A 3 I<|.jO 4 (decide ((t1.length : Int) ≤ t0)) I (fun b1 => ?_) ?_
 ·refine .A 2 I<|.q I (.len I U22 I)<|.A 1 I<|.nil I
 refine .nil<|.A 1 I<|.nil<|.ret (rO h I)
theorem ziH (n t0 t1 r) (h : zdM n t0 t1 = some r) : Pure pg 145 [eA t0, eA t1] (.bool r) := by
 refine Pure.ot Tryz.func145 I Tryz.ntmps145 I fun A w => .sA 2 I<|.seq<|.plain 9 I<|.A 1 I<|.p I (.len I U22 I)<|.A 2 I<|gK h fun c2 h => .jA 4 (!((zu n t1 (fun q0 => zcn n q0 t0)).getD default)) I (fun b1 => ?_) ?_
 ·refine .A 1 I<|.q I (.makeFunc I I)<|.q I (.call I (kC I) I (zaO _ _ _ _ (fun q0 y hq => ⟨_, _, I, K194, zhA _ q0 _ _ hq⟩) _ (someD (impT c2 b1))))<|.A 1 I<|.nil I
 refine .nil<|.A 1 I<|.nil<|.ret (rO h I)
theorem zj7 (n t0 r) (h : zeI n t0 = some r) : Pure pg 146 [Table.enc t0] (.bool r) := by
 refine Pure.ot Tryz.func146 I Tryz.ntmps146 I fun A w => .sA 2 I<|.seq<|.sA 2 I<|.block<|.J [1] h (fun v => [(5, .d (.bool v))]) (fun v => []) I (fun k_2 h => ?_) (fun x1 h => ?_)
 ·refine .sA 2 I<|.condS I h (fun h => ?_) fun h => ?_
  ·refine .skip (ndE h I)
  ·refine .sA 2 I<|.condS I h (fun h => ?_) fun h => ?_
   ·refine .skip (ndE h I)
   ·refine .rA 2 I (ndE h I)
 ·refine .condS I h (fun h => ?_) fun h => ?_
  ·refine .seq<|.plain 19 I<|.p I (.fa I (zdD _))<|.A 2 I<|.p I (.fa I (zdD _))<|.A 4 I<|.jA 4 (decide ((-9999) ≤ t0.range.lo)) I (fun b3 => ?_) ?_
   ·refine .q I (.fa I (zdD _))<|.A 3 I<|.nil I
   refine .A 1 I<|.jA 4 (decide (t0.range.hi ≤ 9999)) I (fun b4 => ?_) ?_
   ·refine .q I (.fa I (zdD _))<|.A 3 I<|.nil I
   refine .nil<|.A 1 I<|.nil<|.K [2] I<|.ret (rO h I)
  ·refine .skip<|.K [1] I<|.sr<|.p I (.fa I (zdD _))<|.A 1 I<|.p I (.castD (Range.enc (⟨0, 1⟩ : Range)) I (.build I Pl87 (.agg Zc87 (ds' := [_, _]) (.e .e1)) I I))<|.p I (.seql I SE87 I I (xs := Range.vals _) (ys := Range.vals _) I I I I (SQ87 _ _))<|.A 1 I<|.nil<|.ret (rO h I)
theorem zdE (n t0 r) (h : zbY n t0 = some r) : Pure pg 147 [Table.enc t0] (.bool r) := by
 refine Pure.ot Tryz.func147 I Tryz.ntmps147 I fun A w => .sA 2 I<|.seq<|.plain 8 I<|.A 4 I<|.jO 3 (t0.kind == 1) I (fun b1 => ?_) ?_
 ·refine .A 3 I<|.nil I
 refine .nil<|.A 1 I<|.nil<|.ret (rO h I)
theorem zdN (n t0 t1 r) (h : za7 n t0 t1 = some r) : Pure pg 148 [eA t0, eA t1] (.int r) := by
 refine Pure.ot Tryz.func148 I Tryz.ntmps148 I fun A w => .sA 1 I<|.sA 1 I<|.seq<|.S 1 I<|.p I (.len I U22 I)<|.A 1 I<|.nil<|.block<|.L [0,8,9] h (fun v => [(5, .d (.int v.1)), (10, .d (.int v.2))]) (fun v => []) I fun _ ⟨x9, x10⟩ h => .sA 1 I<|.seq<|.condS I h (fun h => ?_) fun h => ?_
 ·refine .skip<|.seq<|.block<|.sr<|.X h I fun x12 h => .A 2 I<|.nil<|.region<|.A 3 I<|.X h I fun x13 h => .A 3 I<|.nil<|.rA 2 I (ndE h I)
 ·refine .exit<|.sA 2 I<|.ret (rO h I)
theorem zeW (n t0 t1 r) (h : zbH n t0 t1 = some r) : Pure pg 94 [eA t0, eB t1] (.bool r) := by
 refine Pure.ot Tryz.func94 I Tryz.ntmps94 I fun A w => .sA 1 I<|.seq<|.S 1 I<|.p I (.len I U22 I)<|.A 2 I<|.p I (.len I U23 I)<|.A 2 I<|.Z h I (cells_sized_ok _ _) fun x1 h => .p I (.buildSl [_, _, _] I I E144 I (fun _ => I) I (enc := D.bool))<|.Z h I (zjf _ _) fun x2 h => .A 1 I<|.nil<|.condS I h (fun h => ?_) fun h => ?_
 ·refine .sA 1 I<|.ret (rO h I)
 ·refine .skip<|.sr<|.makeMap (fun l : List UInt8 => Value.string ⟨l.toArray⟩) D.bool I I I I<|.A 1 I<|.nil<|.sr<|.allocZ I I I I (.val Zv3) I<|.allocZ I I I I (.val Zv3) I<|.store I I I I I I (.ofD I) C3 I (yh I)<|.store I I I I I I (.ofD I) C3 I (yh I)<|.nil<|.K [0,1,5,6,7] I<|.seq<|.S 1 I<|.p I (.len I U23 I)<|.A 1 I<|.nil<|.block<|.L [0,5,6,7,23,24] h (fun v => [(25, .d (.int v.2.2.2))]) (fun v => [(0, GMap.blk (fun l : List UInt8 => Value.string ⟨l.toArray⟩) D.bool v.1), (1, .box 3 [.d (.int v.2.1)]), (2, .box 3 [.d (.int v.2.2.1)])]) I fun _ ⟨m0_37, c1_0_38, c2_0_39, x40⟩ h => .sA 1 I<|.K [0,5,6,7,23,24,25,26] I<|.seq<|.condS I h (fun h => ?_) fun h => ?_
  ·refine .skip<|.J [0,5,6,7,23,24,25] h (fun v => []) (fun v => [(0, GMap.blk (fun l : List UInt8 => Value.string ⟨l.toArray⟩) D.bool v.1), (1, .box 3 [.d (.int v.2.1)]), (2, .box 3 [.d (.int v.2.2)])]) I (fun k_45 h => ?_) (fun v h => ?_)
   ·refine .block<|.sr<|.X h I fun x46 h => .A 1 I<|.allocStore I I I I I I I I (by simp) I I Z127<|.nil<|.seq<|.seq<|.draw 20 Hm (by kernel_rfl) (by kernel_rfl)<|.A 2 I<|.Z h I (zia _ _) fun x47 h => .A 3 I<|.p I (.mapGet I U167 KT9 I I I (z := (false : Bool)) (.val Zv4))<|.A 3 I<|.Z h I (zgd _ _ _ _) fun x48 h => .A 3 I<|.Z h I (ziH _ _ _) fun x49 h => .A 1 I<|.Z h I (zj7 _ _) fun x50 h => .p I (.buildSl [_, _, _, _, _] I I E144 I (fun _ => I) I (enc := D.bool))<|.Z h I (zjf _ _) fun x51 h => .A 1 I<|.nil<|.nil<|.K [0,5,6,7,9,23,24,25,48] I<|.condS I h (fun h => ?_) fun h => ?_
    ·refine .sA 1 I<|.ret (rO h I)
    ·refine .skip<|.S 3 I<|.mapPut (k := x46.name) (v := true) I I I U167 KT9 I I I I<|.nil<|.sA 1 I<|.seq<|.S 1 I<|.Z h I (zdE _ _) fun x52 h => .nil<|.condS I h (fun h => ?_) fun h => ?_
     ·refine .rA 1 I<|.seq<|.seq<|.draw 6 Hm (by kernel_rfl) (by kernel_rfl)<|.A 3 I<|.p I (.nilCheck_loc I I I)<|.p I (.loadLoc1 I I I Y3 I)<|.A 1 I<|.nil<|.nil<|.condS I h (fun h => ?_) fun h => ?_
      ·refine .sA 1 I<|.ret (rO h I)
      ·refine .skip<|.draw 9 Hm (by kernel_rfl) (by kernel_rfl)<|.A 1 I<|.p I (.nilCheck_loc I I I)<|.p I (.loadLoc1 I I I Y3 I)<|.A 3 I<|.Z h I (zdN _ _ _) fun x53 h => .A 1 I<|.p I (.nilCheck_loc I I I)<|.nil<|.store I I I I I I (.ofD I) C3 I (yh I)<|.nil (ndE h I)
     ·refine .skip<|.seq<|.seq<|.draw 6 Hm (by kernel_rfl) (by kernel_rfl)<|.A 3 I<|.p I (.nilCheck_loc I I I)<|.p I (.loadLoc1 I I I Y3 I)<|.A 1 I<|.nil<|.nil<|.condS I h (fun h => ?_) fun h => ?_
      ·refine .sA 1 I<|.ret (rO h I)
      ·refine .skip<|.draw 9 Hm (by kernel_rfl) (by kernel_rfl)<|.A 1 I<|.p I (.nilCheck_loc I I I)<|.p I (.loadLoc1 I I I Y3 I)<|.A 3 I<|.Z h I (zdN _ _ _) fun x54 h => .A 1 I<|.p I (.nilCheck_loc I I I)<|.nil<|.store I I I I I I (.ofD I) C3 I (yh I)<|.nil (ndE h I)
   ·obtain ⟨m0_42, c1_0_43, c2_0_44⟩ := v
    refine .rA 2 I (ndE h I)
  ·refine .exit<|.seq<|.plain 6 I<|.p I (.loadLoc1 I I I Y3 I)<|.A 2 I<|.jA 2 (decide (c2_0_39 ≤ 64)) I (fun b55 => ?_) ?_
   ·refine .q I (.loadLoc1 I I I Y3 I)<|.A 1 I<|.nil I
   refine .nil<|.A 1 I<|.nil<|.ret (rO h I)
theorem zfm (n t0 r) (h : zak n t0 = some r) : Pure pg 95 [eC t0] (.bool r) := by
 refine Pure.ot Tryz.func95 I Tryz.ntmps95 I fun A w => .sA 1 I<|.sr<|.makeMap (fun l : List UInt8 => Value.string ⟨l.toArray⟩) D.bool I I I I<|.A 1 I<|.nil<|.seq<|.S 1 I<|.p I (.len I U24 I)<|.A 1 I<|.nil<|.block<|.L [3,7,8] h (fun v => [(9, .d (.int v.2))]) (fun v => [(0, GMap.blk (fun l : List UInt8 => Value.string ⟨l.toArray⟩) D.bool v.1)]) I fun _ ⟨m0_11, x12⟩ h => .sA 1 I<|.K [3,7,8,9,10] I<|.seq<|.condS I h (fun h => ?_) fun h => ?_
 ·refine .skip<|.seq<|.block<|.sr<|.X h I fun x14 h => .A 2 I<|.nil<|.seq<|.seq<|.plain 8 I<|.A 1 I<|.Z h I (zia _ _) fun x15 h => .A 2 I<|.jO 3 ((m0_11.get? x14).getD false) I (fun b16 => ?_) ?_
  ·refine .A 2 I<|.q I (.mapGet I U167 KT9 I I I (z := (false : Bool)) (.val Zv4))<|.nil I
  refine .nil<|.nil<|.condS I h (fun h => ?_) fun h => ?_
  ·refine .sA 1 I<|.ret (rO h I)
  ·refine .skip<|.region<|.A 2 I<|.mapPut (k := x14) (v := true) I I I U167 KT9 I I I I<|.nil<|.rA 2 I (ndE h I)
 ·refine .exit<|.sA 1 I<|.ret (rO h I)
theorem zid (n t0 t1 r) (h : zer n t0 t1 = some r) : Pure pg 220 [.val (.int .u64 t0), .val (.int .u64 t1)] (.tup [.val (.int .u64 r.1), .val (.int .u64 r.2)]) := by
 refine Pure.ot Tryz.func220 I Tryz.ntmps220 I fun A w => .sA 2 I<|.S 1 I<|.p I (.band I I I)<|.A 1 I<|.nil<|.S 1 I<|bK h fun x1 q1 h => .p I (.shr I I I q1)<|.A 1 I<|.nil<|.S 1 I<|.p I (.band I I I)<|.A 1 I<|.nil<|.S 1 I<|bK h fun x2 q2 h => .p I (.shr I I I q2)<|.A 1 I<|.nil<|.S 2 I<|.p I (.mul I I I)<|.A 1 I<|.nil<|.K [0,1,6,7,8,9,10] I<|.S 2 I<|.p I (.mul I I I)<|.A 1 I<|bK h fun x3 q3 h => .p I (.shr I I I q3)<|.p I (.add I I I)<|.A 1 I<|.nil<|.S 1 I<|.p I (.band I I I)<|.A 1 I<|.nil<|.S 1 I<|bK h fun x4 q4 h =>  ?_
 refine .p I (.shr I I I q4)<|.A 1 I<|.nil<|.S 3 I<|.p I (.mul I I I)<|.p I (.add I I I)<|.A 1 I<|.nil<|.K [0,1,7,9,12,13] I<|.S 2 I<|.p I (.mul I I I)<|.A 1 I<|.p I (.add I I I)<|.A 1 I<|bK h fun x5 q5 h => .p I (.shr I I I q5)<|.p I (.add I I I)<|.A 1 I<|.nil<|.S 2 I<|.p I (.mul I I I)<|.A 1 I<|.nil<|.ret ?_
 cases h
 exact zdx I I (.d _) (.d _)
theorem zjC (n t0 t1 r) (h : zea n t0 t1 = some r) : Pure pg 195 [.val (.int .u64 t0), .val (.int .u64 t1)] (.tup [.val (.int .u64 r.1), .val (.int .u64 r.2)]) := by
 refine Pure.ot Tryz.func195 I Tryz.ntmps195 I fun A w => .sA 2 I<|.seq<|.condF I<|.skip<|.S 2 I<|.Z h I (zid _ _ _) fun x1 h => .A 1 I<|.p I (.extract I I I)<|.p I (.extract I I I)<|.A 2 I<|.nil<|.sA 4 I<|.ret ?_
 cases h
 exact zdx I I (.d _) (.d _)
theorem zdz (n t0 t1 r) (h : zG n t0 t1 = some r) : Pure pg 149 [eK t0, .int t1] (eK r) := by
 refine Pure.ot Tryz.func149 I Tryz.ntmps149 I fun A w => .sr<|.p I (.nilS 2 (α := Range) Range.enc I)<|.nil<|.seq<|.sA 2 I<|.condS I h (fun h => ?_) fun h => ?_
 ·refine .region ?_
  cases h
 ·refine .skip<|.S 1 I<|.p I (.len I U48 I)<|.p I (.conv I U3 U210 I)<|.A 1 I<|.p I (.conv I U3 U210 I)<|.Z h I (zjC _ _ _) fun x1 h => .A 1 I<|.p I (.extract I I I)<|.p I (.extract I I I)<|.A 2 I<|.nil<|.seq<|.seq<|.plain 6 I<|.A 3 I<|.jO 2 (decide (9223372036854775807 < x1.2)) I (fun b2 => ?_) ?_
  ·refine .A 2 I<|.nil I
  refine .nil<|.nil<|.K [0,6,26] I<|.condS I h (fun h => ?_) fun h => ?_
  ·refine .region ?_
   cases h
  ·refine .skip<|.S 1 I<|.p I (.conv I U210 U3 I)<|bK h fun x3 q3 h => .makeVec (enc := Range.enc) (z := (⟨0, 0⟩ : Range)) I I I I E48 I I I (.agg Zc87 (ds' := [.int 0, .int 0]) (.e .e1)) q3<|.A 1 I<|.nil<|.S 2 I<|.asSub 31 I<|.copySub (enc := Range.enc) (l := x3) (ys := t0) I I I I E48 I I I (.d I) (fun _ => I)<|.relen 7 I (zkb _ t0).symm<|.relen 30 I (zkb _ t0).symm<|.A 1 I<|.nil<|.seq<|.block<|.L [] h (fun v => [(7, .vec 0 (List.length v.1)), (8, .d (.int v.2))]) (fun v => [(0, .vec 87 2 (List.map Range.enc v.1))]) I fun _ ⟨b0_12, x13⟩ h => .seq<|.S 2 I<|.p I (.lenV I U48 I I I)<|.A 1 I<|.nil<|.K [7,8,37] I<|.condS I h (fun h => ?_) fun h => ?_
   ·refine .skip<|.block<|.drawF 7 [0] Hm (by kernel_rfl) (by kernel_rfl)<|.A 3 I<|bK h fun x15 q15 h => .p I (.subL I I I I I U48 S87 q15)<|.A 2 I<|bK h fun x16 q16 h => .p I (.subH I I I I I U48 S87 q16)<|.nil ⟨.move I I .nil, ?_⟩
    refine .copySub (enc := Range.enc) (l := b0_12) (ys := ((b0_12.drop 0).take (x13.toNat - 0))) I I I I E48 I I I (.sub I I I) (fun _ => I)<|.relen 7 I (zem q15 ((b0_12.drop 0).take (x13.toNat - 0))).symm<|.relen 39 I (zem q15 ((b0_12.drop 0).take (x13.toNat - 0))).symm<|.relen 42 I (zem q15 ((b0_12.drop 0).take (x13.toNat - 0))).symm<|.A 2 I<|.nil (ndE h I)
   ·refine .exit<|.sA 2 I<|.ret ?_
    cases h
    exact zbk I (.vec I (by simp))
theorem zgb (n t0 t1 t2 r) (h : zbB n t0 t1 t2 = some r) : Pure pg 96 [eA t0, eB t1, .bool t2] (eK r) := by
 refine Pure.ot Tryz.func96 I Tryz.ntmps96 I fun A w => .sr<|.p I (.nilS 2 (α := Range) Range.enc I)<|.nil<|.seq<|.S 2 I<|.Z h I (zeW _ _ _) fun x1 h => .A 1 I<|.nil<|.condS I h (fun h => ?_) fun h => ?_
 ·refine .sr<|.p I (.nilS 2 (α := Range) Range.enc I)<|.nil<|.ret ?_
  cases h
  exact zbk I (.d _)
 ·refine .skip<|.S 1 I<|.nilVec 7 2 87 I<|.nil<|.seq<|.S 1 I<|.p I (.len I U23 I)<|.A 1 I<|.nil<|.block<|.L [0,2,14,15] h (fun v => [(7, .vec 0 (List.length v.1)), (16, .d (.int v.2))]) (fun v => [(0, .vec 87 2 (List.map Range.enc v.1))]) I fun _ ⟨b0_20, x21⟩ h => .sA 1 I<|.K [0,2,7,14,15,16,17] I<|.seq<|.condS I h (fun h => ?_) fun h => ?_
  ·refine .skip<|.J [0,2,14,15,16] h (fun v => [(7, .vec 0 (List.length v))]) (fun v => [(0, .vec 87 2 (List.map Range.enc v))]) I (fun k_24 h => ?_) (fun b0_23 h => ?_)
   ·refine .block<|.sr<|.X h I fun x25 h => .A 1 I<|.allocStore I I I I I I I I (by simp) I I Z127<|.nil<|.S 1 I<|.Z h I (zdE _ _) fun x26 h => .A 1 I<|.p I (.beq I U4 I I)<|.nil<|.condS I h (fun h => ?_) fun h => ?_
    ·refine .draw 9 Hm (by kernel_rfl) (by kernel_rfl)<|.A 1 I<|.p I (.fa I (zdD _))<|.A 1 I<|.p I (.buildSl [_] I I E48 I (fun _ => I) I (enc := Range.enc))<|.A 3 I<|.Z h I (zdN _ _ _) fun x27 h => .Z h I (zdz _ _ _) fun x28 h => .nil<|bK h fun x29 q29 h => .app I I I I I I I I E48 I (fun _ => I) q29<|.A 1 I<|.nil (ndE h I)
    ·refine .skip (ndE h I)
   ·refine .rA 2 I (ndE h I)
  ·refine .exit<|.sA 2 I<|.ret ?_
   cases h
   exact zbk I (.vec I (by simp))
theorem zcs (n t0 t1 r) (h : zai n t0 t1 = some r) : Pure pg 150 [.int t0, .int t1] (.bool r) := by
 refine Pure.ot Tryz.func150 I Tryz.ntmps150 I fun A w => .sA 1 I<|.seq<|.plain 7 I<|.A 3 I<|.jA 3 (decide (t0 < t1)) I (fun b1 => ?_) ?_
 ·refine .A 3 I<|.nil I
 refine .nil<|.A 1 I<|.nil<|.ret (rO h I)
theorem zdt (n t0 t1 r) (h : zay n t0 t1 = some r) : Pure pg 156 [.int t0, .int t1] (.bool r) := by
 refine Pure.ot Tryz.func156 I Tryz.ntmps156 I fun A w => .sA 1 I<|.seq<|.plain 9 I<|.A 2 I<|.p I (.neg6 I I)<|.A 2 I<|.jA 3 (decide (t0 ≤ t1)) I (fun b1 => ?_) ?_
 ·refine .A 3 I<|.nil I
 refine .nil<|.A 1 I<|.nil<|.ret (rO h I)
theorem zeM (n t0 t1 r) (h : zav n t0 t1 = some r) : Pure pg 151 [Judge.enc t0, Row.enc t1] (.bool r) := by
 refine Pure.ot Tryz.func151 I Tryz.ntmps151 I fun A w => .sA 3 I<|.sA 1 I<|.seq<|.S 2 I<|.p I (.len I U31 I)<|.A 1 I<|.nil<|.block<|.L [2,3,9,10] h (fun v => [(5, .d (.int v.1)), (11, .d (.int v.2))]) (fun v => []) I fun _ ⟨x15, x16⟩ h => .sA 1 I<|.seq<|.condS I h (fun h => ?_) fun h => ?_
 ·refine .skip<|.seq<|.block<|.sr<|.X h I fun x18 h => .A 1 I<|.allocStore I I I I I I I I (by simp) I I Z41<|.nil<|.seq<|.seq<|.plain 23 I<|.A 5 I<|.jO 6 (decide ((t0.strict.length : Int) ≤ x18.cell)) I (fun b19 => ?_) ?_
  ·refine .A 4 I<|.q I (.len I U48 I)<|.A 1 I<|.nil I
  refine .A 1 I<|.jO 3 (x18.factor == 0) I (fun b20 => ?_) ?_
  ·refine .A 3 I<|.nil I
  refine .A 1 I<|gK h fun c22 h => .jO 4 (!((zay n x18.factor 1000).getD default)) I (fun b21 => ?_) ?_
  ·refine .A 2 I<|.q I (.call I (kC I) I (zdt _ _ _ _ (someD (impF c22 b21))))<|.A 1 I<|.nil I
  refine .nil<|.nil<|.K [2,3,7,9,10,11,37] I<|.condS I h (fun h => ?_) fun h => ?_
  ·refine .sA 1 I<|.ret (rO h I)
  ·refine .skip<|.rA 3 I<|.rA 2 I (ndE h I)
 ·refine .exit<|.S 2 I<|.Z h I (zdt _ _ _) fun x23 h => .A 1 I<|.nil<|.ret (rO h I)
theorem zf7 (n t0 t1 t2 r) (h : zbj n t0 t1 t2 = some r) : Pure pg 197 [Table.enc t0, .ref (Constraint.enc t1), .ref (Judge.enc t2)] (.bool r) := by
 refine Pure.ot Tryz.func197 I Tryz.ntmps197 I fun A w => .sA 2 I<|.seq<|.draw 42 Hm (by kernel_rfl) (by kernel_rfl)<|.A 4 I<|.jA 4 ((t0.columns.length : Int) == 2) I (fun b1 => ?_) ?_
 ·refine .A 2 I<|.q I (.len I U22 I)<|.A 1 I<|.nil I
 refine .A 1 I<|gK h fun c3 h => gK h fun c4 h => .jA 9 (((idx t0.columns 0).getD default) == ((idx t0.columns 1).getD default)) I (fun b2 => ?_) ?_
 ·refine .A 2 I<|.q I (.ix I U22 S3 (someD (impT c3 b2)))<|.A 3 I<|.q I (.ix I U22 S3 (someD (impT c4 b2)))<|.A 2 I<|.nil I
 refine .A 1 I<|.jA 5 (t0.first == t1.first) I (fun b5 => ?_) ?_
 ·refine .A 5 I<|.nil I
 refine .A 1 I<|gK h fun c7 h => gK h fun c8 h => .jA 12 (((idx t2.model.sorts ((idx t0.columns 0).getD default)).getD default) == t1.size) I (fun b6 => ?_) ?_
 ·refine .q I (.fa I (zb6 _))<|.A 4 I<|.q I (.ix I U22 S3 (someD (impT c7 b6)))<|.A 1 I<|.q I (.ix I U22 S3 (someD (impT c8 b6)))<|.A 4 I<|.nil I
 refine .A 1 I<|.nil<|.nil<|.K [4] I<|.ret (rO h I)
theorem zc3 (n t0) (t1 : Table → Option Bool) (F1 : D) (hF1 : ∀ (q0 : Table) (y : Bool), t1 q0 = some y → Dyn pg F1 [Table.enc q0] (.bool y)) (r) (h : zw n t0 t1 = some r) : Pure pg 221 [eB t0, F1] (.int r) := by
 refine Pure.ot Tryz.func221 I Tryz.ntmps221 I fun A w => .sA 1 I<|.seq<|.S 1 I<|.p I (.len I U23 I)<|.A 1 I<|.nil<|.block<|.L [0,1,7] h (fun v => [(8, .d (.int v))]) (fun v => []) I fun _ x7 h => .sA 1 I<|.seq<|.condS I h (fun h => ?_) fun h => ?_
 ·refine .skip<|.seq<|.block<|.sA 2 I<|.S 3 I<|.X h I fun x9 h => .A 1 I<|bK h fun x10 q10 h => .p I (.dyn I I I (hF1 _ _ q10))<|.nil<|.condS I h (fun h => ?_) fun h => ?_
  ·refine .sA 2 I<|.ret (rO h I)
  ·refine .skip<|.rA 2 I (ndE h I)
 ·refine .exit<|.sA 1 I<|.ret (rO h I)
theorem zcL (n t0) (t1 : Table → Option Bool) (F1 : D) (hF1 : ∀ (q0 : Table) (y : Bool), t1 q0 = some y → Dyn pg F1 [Table.enc q0] (.bool y)) (r) (h : zK n t0 t1 = some r) : Pure pg 196 [eB t0, F1] (.bool r) := by
 refine Pure.ot Tryz.func196 I Tryz.ntmps196 I fun A w => .sA 1 I<|.S 2 I<|.Z h I (zc3 _ _ _ _ hF1) fun x1 h => .A 2 I<|.nil<|.ret (rO h I)
theorem zg3 (n t0 t1 r) (h : zbF n t0 t1 = some r) : Pure pg 152 [Judge.enc t0, Constraint.enc t1] (.bool r) := by
 refine Pure.ot Tryz.func152 I Tryz.ntmps152 I fun A w => .sA 3 I<|.seq<|.plain 18 I<|.p I (.fa I (G78_2 _))<|.A 2 I<|.p I (.len I U31 I)<|.A 2 I<|.jA 4 (t1.row.bound == 0) I (fun b1 => ?_) ?_
 ·refine .q I (.fa I (G78_2 _))<|.A 3 I<|.nil I
 refine .A 1 I<|gK h fun c3 h => .jA 5 (((zK n t0.model.tables (fun q0 => zbj n q0 t1 t0)).getD default)) I (fun b2 => ?_) ?_
 ·refine .q I (.fa I (zb6 _))<|.A 2 I<|.q I (.makeFunc I I)<|.q I (.call I (kC I) I (zcL _ _ _ _ (fun q0 y hq => ⟨_, _, I, K197, zf7 _ q0 _ _ _ hq⟩) _ (someD (impT c3 b2))))<|.nil I
 refine .nil<|.A 1 I<|.nil<|.K [4] I<|.ret (rO h I)
theorem zdW (n t0 t1 r) (h : zI n t0 t1 = some r) : Pure pg 198 [eL t0, eL t1] (.bool r) := by
 refine Pure.ot Tryz.func198 I Tryz.ntmps198 I fun A w => .sA 1 I<|.seq<|.S 1 I<|.p I (.len I U31 I)<|.A 1 I<|.p I (.len I U31 I)<|.A 1 I<|.nil<|.condS I h (fun h => ?_) fun h => ?_
 ·refine .sA 1 I<|.ret (rO h I)
 ·refine .skip<|.seq<|.S 1 I<|.p I (.len I U31 I)<|.A 1 I<|.nil<|.block<|.L [0,1,12] h (fun v => [(13, .d (.int v))]) (fun v => []) I fun _ x7 h => .sA 1 I<|.seq<|.condS I h (fun h => ?_) fun h => ?_
  ·refine .skip<|.seq<|.block<|.sA 2 I<|.seq<|.draw 9 Hm (by kernel_rfl) (by kernel_rfl)<|.A 2 I<|.X h I fun x9 h => .A 3 I<|.X h I fun x10 h => .A 1 I<|.p I (.sneq I SE41 I I (xs := Term.vals _) (ys := Term.vals _) I I I I (SQ41 _ _))<|.nil<|.nil<|.condS I h (fun h => ?_) fun h => ?_
   ·refine .sA 1 I<|.ret (rO h I)
   ·refine .skip<|.rA 2 I (ndE h I)
  ·refine .exit<|.sA 1 I<|.ret (rO h I)
theorem zkB (n t0 t1 t2 t3 r) (h : zdh n t0 t1 t2 t3 = some r) : Pure pg 153 [Row.enc t0, .int t1, .int t2, .int t3] (.bool r) := by
 refine Pure.ot Tryz.func153 I Tryz.ntmps153 I fun A w => .sA 2 I<|.seq<|.plain 13 I<|.A 4 I<|.p I (.castD (Term.enc (⟨t1, t2⟩ : Term)) I (.build I Pl41 (.agg Zc41 (ds' := [_, _]) (.e .e1)) I I))<|.p I (.buildSl [_] I I E31 I (fun _ => I) I (enc := Term.enc))<|.Z h I (zdW _ _ _) fun x1 h => .A 1 I<|.jA 4 (t0.bound == t3) I (fun b2 => ?_) ?_
 ·refine .A 4 I<|.nil I
 refine .nil<|.A 1 I<|.nil<|.K [8] I<|.ret (rO h I)
theorem zeF (n t0 r) (h : zW n t0 = some r) : Pure pg 97 [Judge.enc t0] (.bool r) := by
 refine Pure.ot Tryz.func97 I Tryz.ntmps97 I fun A w => .sA 2 I<|.seq<|.seq<|.plain 16 I<|.p I (.fa I (zb6 _))<|.A 2 I<|.p I (.len I U25 I)<|.A 2 I<|.jO 9 (decide ((t0.model.constraints.length : Int) < mul64 2 (t0.strict.length : Int))) I (fun b1 => ?_) ?_
 ·refine .q I (.fa I (zb6 _))<|.A 2 I<|.q I (.len I U25 I)<|.A 2 I<|.q I (.len I U48 I)<|.A 2 I<|.nil I
 refine .nil<|.nil<|.K [1,23] I<|.condS I h (fun h => ?_) fun h => ?_
 ·refine .sA 1 I<|.ret (rO h I)
 ·refine .skip<|.seq<|.sr<|.p I (.fa I (zb6 _))<|.A 2 I<|.p I (.len I U25 I)<|.A 1 I<|.nil<|.block<|.L [1,26,27] h (fun v => [(28, .d (.int v))]) (fun v => []) I fun _ x42 h => .sA 1 I<|.seq<|.condS I h (fun h => ?_) fun h => ?_
  ·refine .skip<|.J [1,26,27,28] h (fun v => []) (fun v => []) I (fun k_44 h => ?_) (fun v h => ?_)
   ·refine .block<|.S 1 I<|.X h I fun x45 h => .A 1 I<|.allocZ I I I I (.agg Zc78 (ds' := [.int 0, .int 0, eL [], .int 0, .int 0, .int 0]) (.e (.e (.o (.e (.e .e1)))))) I<|.A 1 I<|.store I I I I I I (.ofD I) C78 I (yh I)<|.nil<|.J [1,3,4,26,27,28] h (fun v => []) (fun v => []) I (fun k_46 h => ?_) (fun v h => ?_)
    ·refine .block<|.sr<|.p I (.fieldAddrLoc I I I F78_1)<|.p I (.loadLoc1 I I I Y3 I)<|.p I (.fa I (zb6 _))<|.A 2 I<|.p I (.len I U24 I)<|.Z h I (zcs _ _ _) fun x47 h => .A 2 I<|.nil<|.condS I h (fun h => ?_) fun h => ?_
     ·refine .sA 1 I<|.K [2] I<|.ret (rO h I)
     ·refine .sr<|.p I (.fieldAddrLoc I I I F78_0)<|.p I (.loadLoc1 I I I Y3 I)<|.A 2 I<|.nil<|.K [1,3,4,26,27,28,42] I<|.condS I h (fun h => ?_) fun h => ?_
      ·refine .seq<|.plain 15 I<|.p I (.fieldAddrLoc I I I F78_3)<|.p I (.loadLoc1 I I I Y3 I)<|.A 2 I<|.jO 3 (x45.size != 0) I (fun b48 => ?_) ?_
       ·refine .q I (.fieldAddrLoc I I I F78_4)<|.q I (.loadLoc1 I I I Y3 I)<|.A 1 I<|.nil I
       refine .A 1 I<|gK h fun c50 h => .jO 5 (!((zav n t0 x45.row).getD default)) I (fun b49 => ?_) ?_
       ·refine .A 1 I<|.q I (.fieldAddrLoc I I I F78_2)<|.q I (.loadLoc I I I Y33 (yh I) (v := .d (Row.enc x45.row)) I)<|.q I (.call I (kC I) I (zeM _ _ _ _ (someD (impF c50 b49))))<|.A 1 I<|.nil I
       refine .nil<|.nil<|.condS I h (fun h => ?_) fun h => ?_
       ·refine .sA 1 I<|.K [2] I<|.ret (rO h I)
       ·refine .skip (ndE h I)
      ·refine .seq<|.plain 9 I<|.p I (.fieldAddrLoc I I I F78_0)<|.p I (.loadLoc1 I I I Y3 I)<|.A 2 I<|gK h fun c52 h => .jO 4 (!((zbF n t0 x45).getD default)) I (fun b51 => ?_) ?_
       ·refine .A 1 I<|.q I (.loadLoc I I I Y78 (yh I) (v := .d (Constraint.enc x45)) I)<|.q I (.call I (kC I) I (zg3 _ _ _ _ (someD (impF c52 b51))))<|.A 1 I<|.nil I
       refine .nil<|.A 1 I<|.nil<|.condS I h (fun h => ?_) fun h => ?_
       ·refine .sA 1 I<|.ret (rO h I)
       ·refine .skip (ndE h I)
    ·refine .S 1 I<|bK h fun x53 q53 h => .p I (.quo6 I I I q53)<|.A 2 I<|.p I (.len I U48 I)<|.A 1 I<|.nil<|.K [1,3,4,26,27,28,76] I<|.condS I h (fun h => ?_) fun h => ?_
     ·refine .S 3 I<|bK h fun x54 q54 h => .p I (.quo6 I I I q54)<|.X h I fun x55 h => .A 1 I<|.allocStore I I I I I I I I (by simp) I I Z87<|.A 2 I<|.nil<|.J [1,3,4,26,27,28] h (fun v => [(6, .d (.int v.1)), (7, .d (.int v.2))]) (fun v => []) I (fun k_58 h => ?_) (fun v h => ?_)
      ·refine .sA 3 I<|.S 1 I<|bK h fun x59 q59 h => .p I (.rem6 I I I q59)<|.A 1 I<|.nil<|.K [1,3,4,5,6,7,26,27,28,87] I<|.condS I h (fun h => ?_) fun h => ?_
       ·refine .draw 5 Hm (by kernel_rfl) (by kernel_rfl)<|.A 2 I<|.p I (.neg6 I I)<|.A 2 I<|.nil<|.nil (ndE h I)
       ·refine .skip (ndE h I)
      ·obtain ⟨x56, x57⟩ := v
       refine .seq<|.plain 13 I<|.p I (.fieldAddrLoc I I I F78_0)<|.p I (.loadLoc1 I I I Y3 I)<|.A 2 I<|gK h fun c61 h => gK h fun c62 h => .jO 8 (!((zdh n x45.row ((quo64 x42 2).getD default) x56 x57).getD default)) I (fun b60 => ?_) ?_
       ·refine .q I (.fieldAddrLoc I I I F78_2)<|.q I (.loadLoc I I I Y33 (yh I) (v := .d (Row.enc x45.row)) I)<|.A 1 I<|.q I (.quo6 I I I (someD (impF c61 b60)))<|.A 2 I<|.q I (.call I (kC I) I (zkB _ _ _ _ _ _ (someD (impF c62 b60))))<|.A 1 I<|.nil I
       refine .nil<|.nil<|.K [1,26,27,28,103] I<|.condS I h (fun h => ?_) fun h => ?_
       ·refine .sA 1 I<|.ret (rO h I)
       ·refine .skip (ndE h I)
     ·refine .skip (ndE h I)
   ·refine .rA 2 I (ndE h I)
  ·refine .exit<|.sA 1 I<|.ret (rO h I)
theorem zes (n t0 t1 r) (h : za2 n t0 t1 = some r) : Pure pg 155 [.int t0, .ref (Judge.enc t1)] (.bool r) := by
 refine Pure.ot Tryz.func155 I Tryz.ntmps155 I fun A w => .sA 1 I<|.seq<|.plain 10 I<|.A 3 I<|.jO 6 (decide ((t1.model.sorts.length : Int) ≤ t0)) I (fun b1 => ?_) ?_
 ·refine .A 1 I<|.q I (.fa I (zb6 _))<|.A 2 I<|.q I (.len I U22 I)<|.A 1 I<|.nil I
 refine .nil<|.A 1 I<|.nil<|.ret (rO h I)
theorem ze0 (n t0 r) (h : zC n t0 = some r) : Pure pg 98 [Judge.enc t0] (.bool r) := by
 refine Pure.ot Tryz.func98 I Tryz.ntmps98 I fun A w => .sA 2 I<|.S 1 I<|.nilVec 3 1 9 I<|.nil<|.seq<|.sr<|.p I (.fa I (zb6 _))<|.A 2 I<|.p I (.len I U26 I)<|.A 1 I<|.nil<|.block<|.L [1,8,9] h (fun v => [(3, .vec 0 (List.length v.1)), (10, .d (.int v.2))]) (fun v => [(0, .vec 9 1 (List.map D.str v.1))]) I fun _ ⟨b0_13, x14⟩ h => .sA 1 I<|.K [1,3,8,9,10,11] I<|.seq<|.condS I h (fun h => ?_) fun h => ?_
 ·refine .skip<|.seq<|.block<|.sr<|.X h I fun x16 h => .A 1 I<|.allocStore I I I I I I I I (by simp) I I Z129<|.nil<|.S 3 I<|.p I (.buildSl [_] I I E24 I (fun _ => I) I (enc := D.str))<|bK h fun x17 q17 h => .app I I I I I I I I E24 I (fun _ => I) q17<|.A 1 I<|.nil<|.seq<|.plain 10 I<|.A 2 I<|.p I (.len I U22 I)<|.A 2 I<|gK h fun c19 h => .jO 4 (((zu n x16.sorts (fun q0 => za2 n q0 t0)).getD default)) I (fun b18 => ?_) ?_
  ·refine .A 2 I<|.q I (.makeFunc I I)<|.q I (.call I (kC I) I (zaO _ _ _ _ (fun q0 y hq => ⟨_, _, I, K155, zes _ q0 _ _ hq⟩) _ (someD (impF c19 b18))))<|.nil I
  refine .nil<|.nil<|.K [1,3,8,9,10,28] I<|.condS I h (fun h => ?_) fun h => ?_
  ·refine .sA 1 I<|.ret (rO h I)
  ·refine .skip<|.rA 2 I (ndE h I)
 ·refine .exit<|.seq<|.plain 7 I<|.A 1 I<|.p I (.lenV I U24 I I I)<|.A 2 I<|gK h fun c21 h => .jA 2 (((zak n b0_13).getD default)) I (fun b20 => ?_) ?_
  ·refine .A 1 I<|.q I (.callB I (kC I) (.cons I (.vec I (by simp)) .nil) I (zfm _ _ _ (someD (impT c21 b20))))<|.nil I
  refine .nil<|.A 1 I<|.nil<|.ret (rO h I)
theorem zf1 (n t0 r) (h : zdm n t0 = some r) : Pure pg 222 [.int t0] (.bool r) := by
 refine Pure.ot Tryz.func222 I Tryz.ntmps222 I fun A w => .sA 1 I<|.sA 4 I<|.ret (rO h I)
theorem zeJ (n t0 t1 r) (h : zb7 n t0 t1 = some r) : Pure pg 200 [.int t0, .int t1] (.int r) := by
 refine Pure.ot Tryz.func200 I Tryz.ntmps200 I fun A w => .sA 1 I<|.S 1 I<|.Z h I (zf1 _ _) fun x1 h => .A 1 I<|.nil<|.S 1 I<|.Z h I (zf1 _ _) fun x2 h => .A 1 I<|.nil<|.seq<|.sA 1 I<|.condS I h (fun h => ?_) fun h => ?_
 ·refine .seq<|.sA 1 I<|.condS I h (fun h => ?_) fun h => ?_
  ·refine .sA 1 I<|.ret (rO h I)
  ·refine .skip<|.sA 1 I<|.ret (rO h I)
 ·refine .skip<|.seq<|.sA 1 I<|.condS I h (fun h => ?_) fun h => ?_
  ·refine .sA 1 I<|.ret (rO h I)
  ·refine .skip<|.seq<|.sA 3 I<|.condS I h (fun h => ?_) fun h => ?_
   ·refine .sA 1 I<|.ret (rO h I)
   ·refine .skip<|.seq<|.sA 3 I<|.condS I h (fun h => ?_) fun h => ?_
    ·refine .sA 1 I<|.K [4] I<|.ret (rO h I)
    ·refine .skip<|.sA 1 I<|.K [4] I<|.ret (rO h I)
theorem zcU (n t0 t1 r) (h : zi n t0 t1 = some r) : Pure pg 157 [eA t0, eA t1] (.int r) := by
 refine Pure.ot Tryz.func157 I Tryz.ntmps157 I fun A w => .sA 1 I<|.seq<|.S 1 I<|.p I (.len I U22 I)<|.A 1 I<|.nil<|.block<|.L [0,1,9,10] h (fun v => [(11, .d (.int v))]) (fun v => []) I fun _ x9 h => .sA 1 I<|.seq<|.condS I h (fun h => ?_) fun h => ?_
 ·refine .skip<|.seq<|.block<|.S 1 I<|.X h I fun x11 h => .A 3 I<|.nil<|.seq<|.S 2 I<|.p I (.len I U22 I)<|.A 1 I<|.nil<|.condS I h (fun h => ?_) fun h => ?_
  ·refine .sA 1 I<|.ret (rO h I)
  ·refine .skip<|.S 2 I<|.X h I fun x12 h => .A 2 I<|.nil<|.S 2 I<|.Z h I (zeJ _ _ _) fun x13 h => .A 1 I<|.nil<|.K [0,1,8,9,10,11] I<|.sA 2 I<|.condS I h (fun h => ?_) fun h => ?_
   ·refine .sA 2 I<|.ret (rO h I)
   ·refine .skip<|.rA 2 I (ndE h I)
 ·refine .exit<|.seq<|.S 1 I<|.p I (.len I U22 I)<|.A 1 I<|.p I (.len I U22 I)<|.A 1 I<|.nil<|.condS I h (fun h => ?_) fun h => ?_
  ·refine .sA 1 I<|.ret (rO h I)
  ·refine .skip<|.sA 1 I<|.ret (rO h I)
theorem cells_Tuple_ok (n t0 t1 t2 t3 r) (h : za6 n t0 t1 t2 t3 = some r) : Pure pg 223 [eA t0, eB t1, .bool t2, .int t3] (.tup [.int r.1, eA r.2.1, .bool r.2.2]) := by
 refine Pure.ot Tryz.func223 I Tryz.ntmps223 I fun A w => .S 1 I<|.p I (.nilS 1 (α := Int) D.int I)<|.A 1 I<|.nil<|.seq<|.seq<|.plain 8 I<|.A 2 I<|.Z h I (zeW _ _ _) fun x1 h => .A 2 I<|.jO 2 (decide (t3 < 0)) I (fun b2 => ?_) ?_
 ·refine .A 2 I<|.nil I
 refine .nil<|.nil<|.condS I h (fun h => ?_) fun h => ?_
 ·refine .S 1 I<|.p I (.nilS 1 (α := Int) D.int I)<|.A 1 I<|.nil<|.ret ?_
  cases h
  exact zgX I I I (.d _) (.d _) (.d _)
 ·refine .skip<|.seq<|.S 1 I<|.p I (.len I U23 I)<|.A 1 I<|.nil<|.block<|.L [0,2,3,25,26] h (fun v => [(27, .d (.int v))]) (fun v => []) I fun _ x73 h => .sA 1 I<|.seq<|.condS I h (fun h => ?_) fun h => ?_
  ·refine .skip<|.seq<|.block<|.S 1 I<|.X h I fun x75 h => .A 1 I<|.allocZ I I I I (.agg Zc127 (ds' := [.str [], .int 0, eA [], .int 0, .int 0, .int 0]) (.e (.e (.o (.e (.e .e1)))))) I<|.A 1 I<|.store I I I I I I (.ofD I) C127 I (yh I)<|.nil<|.S 1 I<|.p I (.fieldAddrLoc I I I F127_4)<|.p I (.loadLoc1 I I I Y3 I)<|.A 2 I<|.nil<|.seq<|.seq<|.plain 16 I<|.p I (.loadLoc I I I Y127 (yh I) (v := .d (Table.enc x75)) I)<|.Z h I (zdE _ _) fun x76 h => .A 1 I<|.p I (.bne I U4 I I)<|.A 1 I<|.jO 2 (decide (sub64 t3 x75.first < 0)) I (fun b77 => ?_) ?_
   ·refine .A 2 I<|.nil I
   refine .A 1 I<|gK h fun c79 h => .jO 6 (decide (((za7 n t0 x75.columns).getD default) ≤ sub64 t3 x75.first)) I (fun b78 => ?_) ?_
   ·refine .A 2 I<|.q I (.fieldAddrLoc I I I F127_2)<|.q I (.loadLoc1 I I I Y22 I)<|.q I (.call I (kC I) I (zdN _ _ _ _ (someD (impF c79 b78))))<|.A 1 I<|.nil I
   refine .nil<|.nil<|.K [0,2,3,11,12,13,25,26,27,51] I<|.condS I h (fun h => ?_) fun h => ?_
   ·refine .exit<|.rA 2 I (ndE h I)
   ·refine .skip<|.sr<|.p I (.fieldAddrLoc I I I F127_2)<|.p I (.loadLoc1 I I I Y22 I)<|.p I (.len I U22 I)<|bK h fun x80 q80 h => .makeVec (enc := D.int) (z := (0 : Int)) I I I I E22 I I I (.val Zv3) q80<|.A 1 I<|.nil<|.seq<|.S 1 I<|.p I (.lenV I U22 I I I)<|.A 2 I<|.nil<|.block<|.L [0,11,12] h (fun v => [(13, .d (.int v.2.1)), (14, .vec 1 (List.length v.1)), (15, .d (.int v.2.2))]) (fun v => [(1, .vec 3 1 (List.map D.int v.1))]) I fun _ ⟨b1_99, x100, x101⟩ h => .seq<|.sA 2 I<|.K [0,11,12,13,14,15,60] I<|.condS I h (fun h => ?_) fun h => ?_
    ·refine .skip<|.seq<|.block<|.S 1 I<|.p I (.fieldAddrLoc I I I F127_2)<|.p I (.loadLoc1 I I I Y22 I)<|.A 1 I<|.X h I fun x103 h => .A 1 I<|.X h I fun x104 h => .A 2 I<|.nil<|.drawF 9 [5, 6, 7] Hm (by kernel_rfl) (by kernel_rfl)<|.A 4 I<|bK h fun x105 q105 h => .p I (.rem6 I I I q105)<|.A 2 I<|bK h fun x106 q106 h => .p I (.quo6 I I I q106)<|bK h fun x107 q107 h => .p I (.idxV I I I I I U22 S3 q107)<|.nil ⟨.move I I (.move I I (.ints I I I I .nil)), ?_⟩
     refine bK h fun b1_108 hb1_108 h => .storeEl (enc := D.int) I I I I I I I I I C3 hb1_108<|.relen 14 I (zdb hb1_108)<|.relen 71 I (zdb hb1_108)<|.A 1 I<|.nil<|.K [0,11,12,13,14,15] I<|.rA 3 I (ndE h I)
    ·refine .exit<|.sA 5 I<|.ret ?_
     cases h
     exact zgX I I I (.d _) (.vec I (by simp)) (.d _)
  ·refine .exit<|.S 1 I<|.p I (.nilS 1 (α := Int) D.int I)<|.A 1 I<|.nil<|.ret ?_
   cases h
   exact zgX I I I (.d _) (.d _) (.d _)
theorem zgv (n t0 t1 r) (h : zbt n t0 t1 = some r) : Pure pg 201 [Judge.enc t0, Update.enc t1] (.bool r) := by
 refine Pure.ot Tryz.func201 I Tryz.ntmps201 I fun A w => .sA 3 I<|.sr<|.p I (.fa I (zb6 _))<|.A 2 I<|.p I (.fa I (zb6 _))<|.A 4 I<|.Z h I (cells_Tuple_ok _ _ _ _ _) fun x1 h => .A 1 I<|.p I (.extract I I I)<|.p I (.extract I I I)<|.p I (.extract I I I)<|.A 3 I<|.nil<|.K [2,3,5,7] I<|.seq<|.sA 2 I<|.condS I h (fun h => ?_) fun h => ?_
 ·refine .sA 1 I<|.ret (rO h I)
 ·refine .skip<|.sr<|.p I (.fa I (zb6 _))<|.A 3 I<|.X h I fun x2 h => .A 1 I<|.allocStore I I I I I I I I (by simp) I I Z127<|.nil<|.sA 2 I<|.block<|.J [3,8] h (fun v => [(51, .d (.bool v))]) (fun v => []) I (fun k_4 h => ?_) (fun x3 h => ?_)
  ·refine .sA 2 I<|.condS I h (fun h => ?_) fun h => ?_
   ·refine .skip (ndE h I)
   ·refine .rA 2 I (ndE h I)
  ·refine .condS I h (fun h => ?_) fun h => ?_
   ·refine .seq<|.plain 13 I<|.A 4 I<|.jO 3 (t1.kind == 1) I (fun b5 => ?_) ?_
    ·refine .A 3 I<|.nil I
    refine .A 1 I<|.jA 3 (t1.value == 0) I (fun b6 => ?_) ?_
    ·refine .A 3 I<|.nil I
    refine .nil<|.A 1 I<|.nil<|.K [4] I<|.ret (rO h I)
   ·refine .seq<|.plain 19 I<|.A 4 I<|.jA 6 (decide (x2.range.lo ≤ t1.value)) I (fun b7 => ?_) ?_
    ·refine .A 2 I<|.q I (.fa I (zdD _))<|.A 3 I<|.nil I
    refine .A 1 I<|.jA 6 (decide (t1.value ≤ x2.range.hi)) I (fun b8 => ?_) ?_
    ·refine .A 2 I<|.q I (.fa I (zdD _))<|.A 3 I<|.nil I
    refine .nil<|.A 1 I<|.nil<|.K [4] I<|.ret (rO h I)
theorem zfP (n t0 t1 r) (h : zbb n t0 t1 = some r) : Pure pg 202 [Row.enc t0, .ref (Judge.enc t1)] (.bool r) := by
 refine Pure.ot Tryz.func202 I Tryz.ntmps202 I fun A w => .sA 2 I<|.S 2 I<|.Z h I (zeM _ _ _) fun x1 h => .A 2 I<|.nil<|.ret (rO h I)
theorem zdC (n t0) (t1 : Row → Option Bool) (F1 : D) (hF1 : ∀ (q0 : Row) (y : Bool), t1 q0 = some y → Dyn pg F1 [Row.enc q0] (.bool y)) (r) (h : zE n t0 t1 = some r) : Pure pg 213 [eH t0, F1] (.int r) := by
 refine Pure.ot Tryz.func213 I Tryz.ntmps213 I fun A w => .sA 1 I<|.seq<|.S 1 I<|.p I (.len I U49 I)<|.A 1 I<|.nil<|.block<|.L [0,1,7] h (fun v => [(8, .d (.int v))]) (fun v => []) I fun _ x7 h => .sA 1 I<|.seq<|.condS I h (fun h => ?_) fun h => ?_
 ·refine .skip<|.seq<|.block<|.sA 2 I<|.S 3 I<|.X h I fun x9 h => .A 1 I<|bK h fun x10 q10 h => .p I (.dyn I I I (hF1 _ _ q10))<|.nil<|.condS I h (fun h => ?_) fun h => ?_
  ·refine .sA 2 I<|.ret (rO h I)
  ·refine .skip<|.rA 2 I (ndE h I)
 ·refine .exit<|.sA 1 I<|.ret (rO h I)
theorem zbM (n t0) (t1 : Row → Option Bool) (F1 : D) (hF1 : ∀ (q0 : Row) (y : Bool), t1 q0 = some y → Dyn pg F1 [Row.enc q0] (.bool y)) (r) (h : zl n t0 t1 = some r) : Pure pg 176 [eH t0, F1] (.bool r) := by
 refine Pure.ot Tryz.func176 I Tryz.ntmps176 I fun A w => .sA 1 I<|.S 2 I<|.Z h I (zdC _ _ _ _ hF1) fun x1 h => .A 2 I<|.nil<|.ret (rO h I)
theorem zgt (n t0 t1 r) (h : zH n t0 t1 = some r) : Pure pg 158 [Judge.enc t0, Effect.enc t1] (.bool r) := by
 refine Pure.ot Tryz.func158 I Tryz.ntmps158 I fun A w => .sA 3 I<|.sA 1 I<|.seq<|.S 2 I<|.p I (.len I U79 I)<|.A 1 I<|.nil<|.block<|.L [2,3,11,12] h (fun v => [(5, .d (.int v.1)), (13, .d (.int v.2))]) (fun v => []) I fun _ ⟨x15, x16⟩ h => .sA 1 I<|.seq<|.condS I h (fun h => ?_) fun h => ?_
 ·refine .skip<|.seq<|.block<|.sr<|.X h I fun x18 h => .A 1 I<|.allocStore I I I I I I I I (by simp) I I Z131<|.nil<|.seq<|.seq<|.plain 23 I<|.A 5 I<|.jO 6 (decide ((t0.strict.length : Int) ≤ x18.cell)) I (fun b19 => ?_) ?_
  ·refine .A 4 I<|.q I (.len I U48 I)<|.A 1 I<|.nil I
  refine .A 1 I<|.jO 3 (x18.add == 0) I (fun b20 => ?_) ?_
  ·refine .A 3 I<|.nil I
  refine .A 1 I<|gK h fun c22 h => .jO 4 (!((zay n x18.add 1000000000).getD default)) I (fun b21 => ?_) ?_
  ·refine .A 2 I<|.q I (.call I (kC I) I (zdt _ _ _ _ (someD (impF c22 b21))))<|.A 1 I<|.nil I
  refine .nil<|.nil<|.K [2,3,7,11,12,13,39] I<|.condS I h (fun h => ?_) fun h => ?_
  ·refine .sA 1 I<|.ret (rO h I)
  ·refine .skip<|.rA 3 I<|.rA 2 I (ndE h I)
 ·refine .exit<|.sA 1 I<|.seq<|.S 2 I<|.p I (.len I U80 I)<|.A 1 I<|.nil<|.block<|.L [2,3,44,45] h (fun v => [(5, .d (.int v.1)), (46, .d (.int v.2))]) (fun v => []) I fun _ ⟨x33, x34⟩ h => .sA 1 I<|.seq<|.condS I h (fun h => ?_) fun h => ?_
  ·refine .skip<|.seq<|.block<|.sr<|.X h I fun x36 h => .A 1 I<|.allocStore I I I I I I I I (by simp) I I Z218<|.nil<|.seq<|.seq<|.plain 10 I<|.A 5 I<|gK h fun c38 h => .jO 4 (!((zbt n t0 x36).getD default)) I (fun b37 => ?_) ?_
   ·refine .A 2 I<|.q I (.call I (kC I) I (zgv _ _ _ _ (someD (impF c38 b37))))<|.A 1 I<|.nil I
   refine .nil<|.nil<|.condS I h (fun h => ?_) fun h => ?_
   ·refine .sA 1 I<|.ret (rO h I)
   ·refine .skip<|.rA 3 I<|.K [2,3,5,44,45,46] I<|.rA 2 I (ndE h I)
  ·refine .exit<|.seq<|.plain 17 I<|.A 2 I<|.p I (.len I U49 I)<|.A 2 I<|.jA 4 (decide ((t1.updates.length : Int) ≤ 32)) I (fun b39 => ?_) ?_
   ·refine .A 2 I<|.q I (.len I U80 I)<|.A 1 I<|.nil I
   refine .A 1 I<|gK h fun c41 h => .jA 5 (!((zl n t1.hold (fun q0 => zbb n q0 t0)).getD default)) I (fun b40 => ?_) ?_
   ·refine .A 2 I<|.q I (.makeFunc I I)<|.q I (.call I (kC I) I (zbM _ _ _ _ (fun q0 y hq => ⟨_, _, I, K202, zfP _ q0 _ _ hq⟩) _ (someD (impT c41 b40))))<|.A 1 I<|.nil I
   refine .nil<|.A 1 I<|.nil<|.K [4] I<|.ret (rO h I)
theorem zf6 (n t0 r) (h : zx n t0 = some r) : Pure pg 99 [Judge.enc t0] (.bool r) := by
 refine Pure.ot Tryz.func99 I Tryz.ntmps99 I fun A w => .sA 2 I<|.seq<|.sr<|.p I (.fa I (zb6 _))<|.A 2 I<|.p I (.len I U27 I)<|.A 1 I<|.nil<|.condS I h (fun h => ?_) fun h => ?_
 ·refine .sA 1 I<|.ret (rO h I)
 ·refine .skip<|.seq<|.sr<|.p I (.fa I (zb6 _))<|.A 2 I<|.p I (.len I U27 I)<|.A 1 I<|.nil<|.block<|.L [1,16,17] h (fun v => [(18, .d (.int v))]) (fun v => []) I fun _ x81 h => .sA 1 I<|.seq<|.condS I h (fun h => ?_) fun h => ?_
  ·refine .skip<|.seq<|.block<|.S 1 I<|.X h I fun x83 h => .A 1 I<|.allocZ I I I I (.agg Zc84 (ds' := [.int 0, eA [], eM [], eH [], eI []]) (.e (.o (.o (.o .o1))))) I<|.A 1 I<|.store I I I I I I (.ofD I) C84 I (yh I)<|.nil<|.seq<|.seq<|.draw 23 Hm (by kernel_rfl) (by kernel_rfl)<|.p I (.fieldAddrLoc I I I F84_0)<|.p I (.loadLoc1 I I I Y3 I)<|.p I (.fa I (zb6 _))<|.A 2 I<|.p I (.len I U26 I)<|.Z h I (zcs _ _ _) fun x84 h => .A 2 I<|gK h fun c86 h => .jO 13 ((x83.arguments.length : Int) != ((((idx t0.model.operations x83.operation).getD default).sorts).length : Int)) I (fun b85 => ?_) ?_
   ·refine .q I (.fieldAddrLoc I I I F84_1)<|.q I (.loadLoc1 I I I Y22 I)<|.q I (.len I U22 I)<|.q I (.fa I (zb6 _))<|.A 2 I<|.q I (.fieldAddrLoc I I I F84_0)<|.q I (.loadLoc1 I I I Y3 I)<|.q I (.ix I U26 S129 (someD (impF c86 b85)))<|.A 2 I<|.q I (.len I U22 I)<|.A 1 I<|.nil I
   refine .nil<|.nil<|.K [1,3,4,16,17,18,45] I<|.condS I h (fun h => ?_) fun h => ?_
   ·refine .sA 1 I<|.ret (rO h I)
   ·refine .skip<|.seq<|.sr<|.p I (.fa I (zb6 _))<|.A 2 I<|.p I (.fieldAddrLoc I I I F84_0)<|.p I (.loadLoc1 I I I Y3 I)<|.X h I fun x87 h => .A 2 I<|.p I (.len I U22 I)<|.A 1 I<|.nil<|.block<|.L [1,3,4,16,17,18,53,54] h (fun v => [(55, .d (.int v))]) (fun v => []) I fun _ x106 h => .sA 1 I<|.seq<|.condS I h (fun h => ?_) fun h => ?_
    ·refine .skip<|.seq<|.block<|.S 1 I<|.X h I fun x108 h => .A 3 I<|.nil<|.sr<|.p I (.fieldAddrLoc I I I F84_1)<|.p I (.loadLoc1 I I I Y22 I)<|.A 1 I<|.X h I fun x109 h => .A 2 I<|.nil<|.seq<|.plain 22 I<|.A 3 I<|gK h fun c111 h => .jA 3 (!((zay n x109 9999).getD default)) I (fun b110 => ?_) ?_
     ·refine .A 1 I<|.q I (.call I (kC I) I (zdt _ _ _ _ (someD (impT c111 b110))))<|.A 1 I<|.nil I
     refine .A 1 I<|gK h fun c114 h => gK h fun c115 h => .jO 13 ((decide (0 ≤ x108)) && (!((zai n x109 ((idx t0.model.sorts x108).getD default)).getD default))) I (fun b112 => ?_) ?_
     ·refine .A 3 I<|.jAnd 9 (b2 := !((zai n x109 ((idx t0.model.sorts x108).getD default)).getD default)) I I I I (.inr ⟨_, _, _, I, I, I⟩) (fun _ _ _ h1 h2 => by cases h1; cases h2; decide) I I (fun b113 => ?_) ?_
      ·refine .A 1 I<|.q I (.fa I (zb6 _))<|.A 3 I<|.q I (.ix I U22 S3 (someD (impT (impF c114 b112) b113)))<|.A 1 I<|.q I (.call I (kC I) I (zcs _ _ _ _ (someD (impT (impF c115 b112) b113))))<|.A 1 I<|.nil I
      exact .nil I
     refine .nil<|.nil<|.K [1,3,4,16,17,18,53,54,55,86] I<|.condS I h (fun h => ?_) fun h => ?_
     ·refine .sA 1 I<|.ret (rO h I)
     ·refine .skip<|.rA 2 I (ndE h I)
    ·refine .exit<|.J [1,4,16,17,18] h (fun v => []) (fun v => []) I (fun k_116 h => ?_) (fun v h => ?_)
     ·refine .sA 2 I<|.condS I h (fun h => ?_) fun h => ?_
      ·refine .sr<|.p I (.fa I (zb6 _))<|.A 4 I<|.X h I fun x117 h => .A 1 I<|.allocStore I I I I I I I I (by simp) I I Z84<|.nil<|.seq<|.plain 20 I<|.A 2 I<|.p I (.fieldAddrLoc I I I F84_0)<|.p I (.loadLoc1 I I I Y3 I)<|.A 2 I<|gK h fun c120 h => .jO 13 ((x117.operation == x83.operation) && (decide (0 ≤ ((zi n x117.arguments x83.arguments).getD default)))) I (fun b118 => ?_) ?_
       ·refine .A 2 I<|.q I (.fieldAddrLoc I I I F84_0)<|.q I (.loadLoc1 I I I Y3 I)<|.A 2 I<|.jAnd 6 (b2 := decide (0 ≤ ((zi n x117.arguments x83.arguments).getD default))) I I I I (.inr ⟨_, _, _, I, I, I⟩) (fun _ _ _ h1 h2 => by cases h1; cases h2; decide) I I (fun b119 => ?_) ?_
        ·refine .A 2 I<|.q I (.fieldAddrLoc I I I F84_1)<|.q I (.loadLoc1 I I I Y22 I)<|.q I (.call I (kC I) I (zcU _ _ _ _ (someD (impT (impF c120 b118) b119))))<|.A 1 I<|.nil I
        exact .nil I
       refine .nil<|.nil<|.K [1,4,16,17,18,116] I<|.condS I h (fun h => ?_) fun h => ?_
       ·refine .sA 1 I<|.ret (rO h I)
       ·refine .skip (ndE h I)
      ·refine .skip (ndE h I)
     ·refine .S 1 I<|.p I (.fieldAddrLoc I I I F84_2)<|.p I (.loadLoc I I I Y82 (yh I) (v := .d (Effect.enc x83.effect)) I)<|.Z h I (zgt _ _ _) fun x121 h => .A 1 I<|.nil<|.K [1,16,17,18,121] I<|.condS I h (fun h => ?_) fun h => ?_
      ·refine .sA 1 I<|.ret (rO h I)
      ·refine .skip<|.rA 2 I (ndE h I)
  ·refine .exit<|.sA 1 I<|.ret (rO h I)
theorem zfQ (n t0 t1 t2 r) (h : zcW n t0 t1 t2 = some r) : Pure pg 160 [Hide.enc t0, .ref (.int t1), .ref (GMap.dat (fun n : Int => Value.int .i64 n) D.bool t2)] (.bool r) := by
 refine Pure.ot Tryz.func160 I Tryz.ntmps160 I fun A w => .sA 2 I<|.seq<|.plain 10 I<|.A 5 I<|.jA 4 ((t2.get? t0.to).getD false) I (fun b1 => ?_) ?_
 ·refine .A 3 I<|.q I (.mapGetD (ke := (fun n : Int => Value.int .i64 n)) (ve := D.bool) I U180 KT3 I I (z := (false : Bool)) (.val Zv4))<|.nil I
 refine .nil<|.A 1 I<|.nil<|.ret (rO h I)
theorem zdj (n t0) (t1 : Hide → Option Bool) (F1 : D) (hF1 : ∀ (q0 : Hide) (y : Bool), t1 q0 = some y → Dyn pg F1 [Hide.enc q0] (.bool y)) (r) (h : zz n t0 t1 = some r) : Pure pg 203 [eG t0, F1] (.int r) := by
 refine Pure.ot Tryz.func203 I Tryz.ntmps203 I fun A w => .sA 1 I<|.seq<|.S 1 I<|.p I (.len I U28 I)<|.A 1 I<|.nil<|.block<|.L [0,1,7] h (fun v => [(8, .d (.int v))]) (fun v => []) I fun _ x7 h => .sA 1 I<|.seq<|.condS I h (fun h => ?_) fun h => ?_
 ·refine .skip<|.seq<|.block<|.sA 2 I<|.S 3 I<|.X h I fun x9 h => .A 1 I<|bK h fun x10 q10 h => .p I (.dyn I I I (hF1 _ _ q10))<|.nil<|.condS I h (fun h => ?_) fun h => ?_
  ·refine .sA 2 I<|.ret (rO h I)
  ·refine .skip<|.rA 2 I (ndE h I)
 ·refine .exit<|.sA 1 I<|.ret (rO h I)
theorem zcX (n t0) (t1 : Hide → Option Bool) (F1 : D) (hF1 : ∀ (q0 : Hide) (y : Bool), t1 q0 = some y → Dyn pg F1 [Hide.enc q0] (.bool y)) (r) (h : zaw n t0 t1 = some r) : Pure pg 159 [eG t0, F1] (.bool r) := by
 refine Pure.ot Tryz.func159 I Tryz.ntmps159 I fun A w => .sA 1 I<|.S 2 I<|.Z h I (zdj _ _ _ _ hF1) fun x1 h => .A 2 I<|.nil<|.ret (rO h I)
theorem zgu (n t0 r) (h : zd n t0 = some r) : Pure pg 100 [Judge.enc t0] (.bool r) := by
 refine Pure.ot Tryz.func100 I Tryz.ntmps100 I fun A w => .sA 2 I<|.seq<|.sr<|.p I (.fa I (zb6 _))<|.A 2 I<|.p I (.len I U28 I)<|.A 1 I<|.nil<|.condS I h (fun h => ?_) fun h => ?_
 ·refine .sA 1 I<|.ret (rO h I)
 ·refine .skip<|.seq<|.sr<|.p I (.fa I (zb6 _))<|.A 2 I<|.p I (.len I U28 I)<|.A 1 I<|.nil<|.block<|.L [1,18,19] h (fun v => [(20, .d (.int v))]) (fun v => []) I fun _ x31 h => .sA 1 I<|.K [1,18,19,20,21] I<|.seq<|.condS I h (fun h => ?_) fun h => ?_
  ·refine .skip<|.seq<|.block<|.sr<|.X h I fun x33 h => .A 1 I<|.allocStore I I I I I I I I (by simp) I I Z179<|.nil<|.seq<|.seq<|.plain 25 I<|.A 2 I<|.p I (.fa I (zb6 _))<|.A 2 I<|.p I (.len I U23 I)<|.Z h I (zcs _ _ _) fun x34 h => .A 2 I<|gK h fun c36 h => .jO 8 (!((zai n x33.to (t0.model.tables.length : Int)).getD default)) I (fun b35 => ?_) ?_
   ·refine .A 2 I<|.q I (.fa I (zb6 _))<|.A 2 I<|.q I (.len I U23 I)<|.q I (.call I (kC I) I (zcs _ _ _ _ (someD (impF c36 b35))))<|.A 1 I<|.nil I
   refine .A 1 I<|.jO 5 (x33.table == x33.to) I (fun b37 => ?_) ?_
   ·refine .A 5 I<|.nil I
   refine .nil<|.nil<|.K [1,4,18,19,20,48] I<|.condS I h (fun h => ?_) fun h => ?_
   ·refine .sA 1 I<|.ret (rO h I)
   ·refine .skip<|.seq<|.draw 18 Hm (by kernel_rfl) (by kernel_rfl)<|.p I (.fa I (zb6 _))<|.A 4 I<|.X h I fun x38 h => .A 1 I<|.p I (.fa I (zb6 _))<|.A 4 I<|.X h I fun x39 h => .A 1 I<|.alloc I I I I ZZ127<|.alloc I I I I ZZ127<|.store I I I I I I Z127<|.store I I I I I I Z127<|.nil<|.freezes [0, 1] (.cons (t := 5) (d := .ref (Table.enc x38)) I (.loc (inIds I) I (.v (.v (.v (.v (.v .v1)))))) (.cons (t := 6) (d := .ref (Table.enc x39)) I (.loc (inIds I) I (.v (.v (.v (.v (.v .v1)))))) .nil))<|.nil<|.K [1,4,5,6,18,19,20] I<|.seq<|.draw 36 Hm (by kernel_rfl) (by kernel_rfl)<|.A 4 I<|.jO 3 (x39.kind != 0) I (fun b40 => ?_) ?_
    ·refine .A 3 I<|.nil I
    refine .A 1 I<|gK h fun c42 h => .jO 7 (!((zai n x33.column (x38.columns.length : Int)).getD default)) I (fun b41 => ?_) ?_
    ·refine .A 4 I<|.q I (.len I U22 I)<|.q I (.call I (kC I) I (zcs _ _ _ _ (someD (impF c42 b41))))<|.A 1 I<|.nil I
    refine .A 1 I<|.jO 4 ((x39.columns.length : Int) != 1) I (fun b43 => ?_) ?_
    ·refine .A 2 I<|.q I (.len I U22 I)<|.A 1 I<|.nil I
    refine .A 1 I<|gK h fun c45 h => gK h fun c46 h => .jO 11 (((idx x39.columns 0).getD default) != ((idx x38.columns x33.column).getD default)) I (fun b44 => ?_) ?_
    ·refine .A 2 I<|.q I (.ix I U22 S3 (someD (impF c45 b44)))<|.A 5 I<|.q I (.ix I U22 S3 (someD (impF c46 b44)))<|.A 2 I<|.nil I
    refine .nil<|.nil<|.K [1,18,19,20,98] I<|.condS I h (fun h => ?_) fun h => ?_
    ·refine .sA 1 I<|.ret (rO h I)
    ·refine .skip<|.rA 2 I (ndE h I)
  ·refine .exit<|.sr<|.makeMap (fun n : Int => Value.int .i64 n) D.bool I I I I<|.allocZ I I I I (.val Zv180) I<|.store I I I I I I (.cons (.mp I) .nil) C180 I (yh I)<|.nil<|.seq<|.sr<|.p I (.fa I (zb6 _))<|.A 2 I<|.p I (.len I U28 I)<|.A 1 I<|.nil<|.block<|.L [1,7,103,104] h (fun v => [(105, .d (.int v.2))]) (fun v => [(0, GMap.blk (fun n : Int => Value.int .i64 n) D.bool v.1)]) I fun _ ⟨m0_53, x54⟩ h => .sA 1 I<|.K [1,7,103,104,105,106] I<|.seq<|.condS I h (fun h => ?_) fun h => ?_
   ·refine .skip<|.seq<|.block<|.sr<|.X h I fun x56 h => .A 1 I<|.allocStore I I I I I I I I (by simp) I I Z179<|.nil<|.region<|.p I (.loadLoc1 I I I Y180 I)<|.A 2 I<|.mapPut (k := x56.table) (v := true) I I I U180 KT3 I I I I<|.nil<|.rA 2 I (ndE h I)
   ·refine .exit<|.seq<|.sr<|.p I (.fa I (zb6 _))<|.A 2 I<|.p I (.len I U28 I)<|.A 1 I<|.nil<|.block<|.L [1,7,116] h (fun v => [(117, .d (.int v.2))]) (fun v => [(0, GMap.blk (fun n : Int => Value.int .i64 n) D.bool v.1)]) I fun _ ⟨m0_139, x140⟩ h => .sA 1 I<|.K [1,7,116,117,118] I<|.seq<|.condS I h (fun h => ?_) fun h => ?_
    ·refine .skip<|.seq<|.block<|.sr<|.p I (.loadLoc1 I I I Y180 I)<|.mapRange I I I I U180 I I<|.nil<|.block<|.L [1,7,116,117,120] h (fun v => []) (fun v => [(0, GMap.blk (fun n : Int => Value.int .i64 n) D.bool v.1), (2, .it 0 m0_139.clock v.2.1 v.2.2)]) I fun _ ⟨m0_171, m2_172, m2_173⟩ h => .seq<|.region ?_
     obtain ⟨hold_176, hend_177, hstep_178⟩ := stepM_S h
     refine .mapNext I I I I I I I hold_176 (fun hz => ?_) (fun en_175 hen_175 => ?_)
     ·have h := hend_177 hz
      refine .p I (.extract I I I)<|.nil<|.K [1,7,116,117,120,122] I<|.seq<|.condF I<|.exit<|.rA 2 I (ndE h I)
     ·have h := hstep_178 en_175 hen_175
      refine .p I (.extract I I I)<|.nil<|.K [1,7,116,117,120,122] I<|.seq<|.condT I<|.skip<|.block<|.sr<|gK h fun hn_179 h => .p I (.entry I I I I (List.mem_filter.1 hen_175).1 (of_decide_eq_true hn_179))<|.p I (.extract I I I)<|.allocStore I I I I I I I I (by simp) I I Z3<|.nil<|.sr<|.p I (.fa I (zb6 _))<|.A 2 I<|.p I (.makeFuncV I I)<|bK h fun x180 q180 h => .p I (.callB I (kC I) (.cons I (.d _) (.cons I (.fn .nil (.v (.cons (.loc1 I (.mp I) I) .nil))) .nil)) I (zcX _ _ _ _ (fun q0 y hq => ⟨_, _, I, K160, zfQ _ q0 _ _ _ hq⟩) _ q180))<|.A 1 I<|.nil<|.condS I h (fun h => ?_) fun h => ?_
      ·refine .region<|.p I (.loadLoc1 I I I Y180 I)<|.A 1 I<|.mapDel (k := en_175.2.1) I I I U180 KT3 I I I<|.nil (ndE h I)
      ·refine .skip (ndE h I)
    ·refine .exit<|.sr<|.p I (.loadLoc1 I I I Y180 I)<|.p I (.mapLen I U180 I I)<|.A 2 I<|.nil<|.ret (rO h I)
theorem zdP (n t0 r) (h : zda n t0 = some r) : Pure pg 39 [Model.enc t0] (.bool r) := by
 refine Pure.ot Tryz.func39 I Tryz.ntmps39 I fun A w => .sA 2 I<|.seq<|.seq<|.plain 18 I<|.A 4 I<|.Z h I (zeW _ _ _) fun x1 h => .A 2 I<|.jO 4 (decide (24 < (t0.families.length : Int))) I (fun b2 => ?_) ?_
 ·refine .A 2 I<|.q I (.len I U24 I)<|.A 1 I<|.nil I
 refine .A 1 I<|gK h fun c4 h => .jO 4 (!((zak n t0.families).getD default)) I (fun b3 => ?_) ?_
 ·refine .A 2 I<|.q I (.call I (kC I) I (zfm _ _ _ (someD (impF c4 b3))))<|.A 1 I<|.nil I
 refine .nil<|.nil<|.K [1,21] I<|.condS I h (fun h => ?_) fun h => ?_
 ·refine .sA 1 I<|.ret (rO h I)
 ·refine .skip<|.seq<|.draw 9 Hm (by kernel_rfl) (by kernel_rfl)<|.A 5 I<|.Z h I (zgb _ _ _ _) fun x5 h => .p I (.castD (Judge.enc (⟨t0, x5⟩ : Judge)) I (.build I Pl136 (.agg Zc136 (ds' := [_, _, _, _, _, _, _, _]) (.e (.e (.e (.e (.e (.e (.e .e1)))))))) I I))<|.alloc I I I I ZZ136<|.store I I I I I I Z136<|.nil<|.freezes [0] (.cons (t := 3) (d := .ref (Judge.enc (⟨t0, x5⟩ : Judge))) I (.loc (inIds I) I (.v (.v (.v (.v (.v (.v (.v .v1)))))))) .nil)<|.nil<|.seq<|.plain 14 I<|.A 1 I<|.Z h I (zeF _ _) fun x6 h => .A 1 I<|gK h fun c8 h => .jA 2 (((zC n (⟨t0, x5⟩ : Judge)).getD default)) I (fun b7 => ?_) ?_
  ·refine .A 1 I<|.q I (.call I (kC I) I (ze0 _ _ _ (someD (impT c8 b7))))<|.nil I
  refine .A 1 I<|gK h fun c10 h => .jA 2 (((zx n (⟨t0, x5⟩ : Judge)).getD default)) I (fun b9 => ?_) ?_
  ·refine .A 1 I<|.q I (.call I (kC I) I (zf6 _ _ _ (someD (impT c10 b9))))<|.nil I
  refine .A 1 I<|gK h fun c12 h => .jA 2 (((zd n (⟨t0, x5⟩ : Judge)).getD default)) I (fun b11 => ?_) ?_
  ·refine .A 1 I<|.q I (.call I (kC I) I (zgu _ _ _ (someD (impT c12 b11))))<|.nil I
  refine .nil<|.A 1 I<|.nil<|.K [2] I<|.ret (rO h I)
theorem zjP (n t0 r) (h : zk n t0 = some r) : Pure pg 107 [Model.enc t0] (.tup [optD Layout.enc r.1, .bool r.2]) := by
 refine Pure.ot Tryz.func107 I Tryz.ntmps107 I fun A w => .sA 3 I<|.seq<|.S 1 I<|.Z h I (zdP _ _) fun x1 h => .A 1 I<|.nil<|.condS I h (fun h => ?_) fun h => ?_
 ·refine .sA 2 I<|.ret ?_
  cases h
  exact zdx I I (.d _) (.d _)
 ·refine .skip<|.S 1 I<|.p I (.build I Pl190 (.agg Zc190 (ds' := [_, _, _, _, _, _, _, .val (.slice none 0 0), .val (.slice none 0 0)]) (.e (.e (.e (.e (.e (.e (.e (.e .e1))))))))) I I)<|.box I I I I I (.ofD I)<|.nilCell 0 7 2 192 I I<|.nilCell 0 8 2 192 I I<|.A 1 I<|.nil<|.seq<|.S 2 I<|.p I (.len I U23 I)<|.A 1 I<|.nil<|.block<|.L [1,4,23,24] h (fun v => [(25, .d (.int v.2.2))]) (fun v => [(0, .box 190 [.d (eA t0.sorts), .d (eB t0.tables), .d (eC t0.families), .d (eD t0.constraints), .d (eE t0.operations), .d (eF t0.actions), .d (eG t0.hides), .vec 1 (List.length v.1), .vec 2 (List.length v.2.1)]), (1, .vec 192 2 (List.map Place.enc v.1)), (2, .vec 192 2 (List.map Place.enc v.2.1))]) I fun _ ⟨b1_452, b2_453, x454⟩ h => .sA 1 I<|.K [1,4,23,24,25,26] I<|.seq<|.condS I h (fun h => ?_) fun h => ?_
  ·refine .skip<|.seq<|.block<|.S 1 I<|.X h I fun x456 h => .A 1 I<|.allocZ I I I I (.agg Zc127 (ds' := [.str [], .int 0, eA [], .int 0, .int 0, .int 0]) (.e (.e (.o (.e (.e .e1)))))) I<|.A 1 I<|.store I I I I I I (.ofD I) C127 I (yh I)<|.nil<|.sr<|.p I (.buildSlLe [[]] I I E145 I .o1 (fun _ => I) I (enc := eA))<|.A 1 I<|.nil<|.seq<|.sr<|.p I (.fieldAddrLoc I I I F127_2)<|.p I (.loadLoc1 I I I Y22 I)<|.p I (.len I U22 I)<|.A 1 I<|.nil<|.block<|.L [1,4,5,6,23,24,25,32,33] h (fun v => [(7, .d (eN v.1)), (34, .d (.int v.2))]) (fun v => []) I fun _ ⟨x585, x586⟩ h => .sA 1 I<|.K [1,4,5,6,7,23,24,25,32,33,34,35] I<|.seq<|.condS I h (fun h => ?_) fun h => ?_
   ·refine .skip<|.seq<|.block<|.sr<|.X h I fun x588 h => .A 2 I<|.nil<|.S 1 I<|.nilVec 10 1 22 I<|.nil<|.seq<|.S 1 I<|.p I (.len I U145 I)<|.A 1 I<|.nil<|.block<|.L [1,4,5,6,9,23,24,25,32,33,34,38,39] h (fun v => [(10, .vec 4 (List.length v.1)), (40, .d (.int v.2))]) (fun v => [(4, .vec 22 1 (List.map eA v.1))]) I fun _ ⟨b4_629, x630⟩ h => .sA 1 I<|.K [1,4,5,6,9,10,23,24,25,32,33,34,38,39,40,41] I<|.seq<|.condS I h (fun h => ?_) fun h => ?_
    ·refine .skip<|.seq<|.block<|.sr<|.X h I fun x632 h => .A 2 I<|.nil<|.S 3 I<|.X h I fun x633 h => .A 2 I<|.nil<|.block<|.L [1,4,5,6,9,12,23,24,25,32,33,34,38,39,40,48] h (fun v => [(10, .vec 4 (List.length v.1)), (49, .d (.int v.2))]) (fun v => [(4, .vec 22 1 (List.map eA v.1))]) I fun _ ⟨b4_644, x645⟩ h => .sA 1 I<|.K [1,4,5,6,9,10,12,23,24,25,32,33,34,38,39,40,48,49,50] I<|.seq<|.condS I h (fun h => ?_) fun h => ?_
     ·refine .skip<|.seq<|.block<|.sA 2 I<|.region<|.A 2 I<|bK h fun x647 q647 h => .clone (enc := D.int) I I I I K29 Tryz.func29 I I I I E22 I (fun _ => I) (fun _ => I) q647 I I<|.A 1 I<|.p I (.buildSl [_] I I E22 I (fun _ => I) I (enc := D.int))<|bK h fun x648 q648 h => .app I I I I I I I I E22 I (fun _ => I) q648<|.freezes [5] (.cons (t := 57) I (.vec (inIds I) I (by simp)) .nil)<|.p I (.buildSl [_] I I E145 I (fun _ => I) I (enc := eA))<|bK h fun x649 q649 h => .app I I I I I I I I E145 I (fun _ => I) q649<|.A 1 I<|.nil<|.rA 2 I (ndE h I)
     ·refine .exit<|.rA 2 I (ndE h I)
    ·refine .exit<|.region<|.A 1 I<|.freezes [4] (.cons (t := 62) I (.vec (inIds I) I (by simp)) .nil)<|.A 1 I<|.nil<|.rA 2 I (ndE h I)
   ·refine .exit<|.S 1 I<|.p I (.len I U145 I)<|.A 1 I<|.nil<|.block<|.L [1,4,5,6,23,24,25,64,65] h (fun v => [(66, .d (.int v.2.2))]) (fun v => [(0, .box 190 [.d (eA t0.sorts), .d (eB t0.tables), .d (eC t0.families), .d (eD t0.constraints), .d (eE t0.operations), .d (eF t0.actions), .d (eG t0.hides), .vec 1 (List.length v.1), .vec 2 (List.length v.2.1)]), (1, .vec 192 2 (List.map Place.enc v.1)), (2, .vec 192 2 (List.map Place.enc v.2.1))]) I fun _ ⟨b1_668, b2_669, x670⟩ h => .sA 1 I<|.K [1,4,5,6,23,24,25,64,65,66,67] I<|.seq<|.condS I h (fun h => ?_) fun h => ?_
    ·refine .skip<|.J [1,4,5,6,23,24,25,64,65,66] h (fun v => []) (fun v => [(0, .box 190 [.d (eA t0.sorts), .d (eB t0.tables), .d (eC t0.families), .d (eD t0.constraints), .d (eE t0.operations), .d (eF t0.actions), .d (eG t0.hides), .vec 1 (List.length v.1), .vec 2 (List.length v.2)]), (1, .vec 192 2 (List.map Place.enc v.1)), (2, .vec 192 2 (List.map Place.enc v.2))]) I (fun k_674 h => ?_) (fun v h => ?_)
     ·refine .block<|.sr<|.X h I fun x675 h => .A 2 I<|.nil<|.sr<|.p I (.fieldAddrLoc I I I F127_1)<|.p I (.loadLoc1 I I I Y3 I)<|.A 1 I<|.nil<|.condS I h (fun h => ?_) fun h => ?_
      ·refine .region<|.A 2 I<|.p I (.nilCheck_loc I I I)<|.p I (.fieldAddrLoc I I I F190_1)<|.p I (.loadLoc1 I I I Y188 I)<|.A 2 I<|.p I (.castD (Place.enc (⟨x454, x675⟩ : Place)) I (.build I Pl192 (.agg Zc192 (ds' := [_, _]) (.e .e1)) I I))<|.p I (.buildSl [_] I I E188 I (fun _ => I) I (enc := Place.enc))<|bK h fun x676 q676 h => .app I I I I I I I I E188 I (fun _ => I) q676<|.p I (.nilCheck_loc I I I)<|.p I (.fieldAddrLoc I I I F190_1)<|.store I I I I I I (.cons (.vec I (by simp)) .nil) C188 I (yh I)<|.nil (ndE h I)
      ·refine .region<|.A 2 I<|.p I (.nilCheck_loc I I I)<|.p I (.fieldAddrLoc I I I F190_2)<|.p I (.loadLoc1 I I I Y188 I)<|.A 2 I<|.p I (.castD (Place.enc (⟨x454, x675⟩ : Place)) I (.build I Pl192 (.agg Zc192 (ds' := [_, _]) (.e .e1)) I I))<|.p I (.buildSl [_] I I E188 I (fun _ => I) I (enc := Place.enc))<|bK h fun x677 q677 h => .app I I I I I I I I E188 I (fun _ => I) q677<|.p I (.nilCheck_loc I I I)<|.p I (.fieldAddrLoc I I I F190_2)<|.store I I I I I I (.cons (.vec I (by simp)) .nil) C188 I (yh I)<|.nil (ndE h I)
     ·obtain ⟨b1_672, b2_673⟩ := v
      refine .rA 2 I (ndE h I)
    ·refine .exit<|.rA 2 I (ndE h I)
  ·refine .exit<|.sA 3 I<|.ret ?_
   cases h
   exact zdx I I (.loc I (.v (.v (.v (.v (.v (.v (.v (.cons (.vec I (by simp)) (.cons (.vec I (by simp)) .nil)))))))))) (.d _)
theorem zfA (n t0 t1 r) (h : zbr n t0 t1 = some r) : Pure pg 108 [.ref (Layout.enc t0), Question.enc t1] (.bool r) := by
 refine Pure.ot Tryz.func108 I Tryz.ntmps108 I fun A w => .sA 2 I<|.S 1 I<|.p I (.nilCheck_ref I I)<|.p I (.fa I (G190_0 _))<|.A 2 I<|.p I (.len I U27 I)<|.A 1 I<|.nil<|.seq<|.seq<|.plain 26 I<|.A 4 I<|.jO 3 (decide (t1.f < 0)) I (fun b1 => ?_) ?_
 ·refine .A 3 I<|.nil I
 refine .A 1 I<|.jO 4 (decide ((t0.m.actions.length : Int) ≤ t1.e)) I (fun b2 => ?_) ?_
 ·refine .A 4 I<|.nil I
 refine .A 1 I<|.jO 4 (decide ((t0.m.actions.length : Int) ≤ t1.f)) I (fun b3 => ?_) ?_
 ·refine .A 4 I<|.nil I
 refine .A 1 I<|.jO 4 (decide (t1.target.index < 0)) I (fun b4 => ?_) ?_
 ·refine .q I (.fa I (G37_2 _))<|.A 3 I<|.nil I
 refine .nil<|.nil<|.K [0,3,37] I<|.condS I h (fun h => ?_) fun h => ?_
 ·refine .sA 1 I<|.ret (rO h I)
 ·refine .skip<|.seq<|.sr<|.p I (.fa I (G37_2 _))<|.A 2 I<|.nil<|.condS I h (fun h => ?_) fun h => ?_
  ·refine .seq<|.draw 17 Hm (by kernel_rfl) (by kernel_rfl)<|.p I (.fa I (G37_2 _))<|.A 3 I<|.p I (.nilCheck_ref I I)<|.p I (.fa I (G190_0 _))<|.A 4 I<|.X h I fun x5 h => .p I (.fa I (G84_2 _))<|.A 2 I<|.p I (.len I U49 I)<|.A 2 I<|.nil<|.nil<|.K [4] I<|.ret (rO h I)
  ·refine .skip<|.seq<|.draw 18 Hm (by kernel_rfl) (by kernel_rfl)<|.A 6 I<|.jA 10 (decide (t1.target.index < (t0.m.constraints.length : Int))) I (fun b6 => ?_) ?_
   ·refine .q I (.fa I (G37_2 _))<|.A 3 I<|.q I (.nilCheck_ref I I)<|.q I (.fa I (G190_0 _))<|.A 2 I<|.q I (.len I U25 I)<|.A 1 I<|.nil I
   refine .A 1 I<|.nil<|.nil<|.K [4] I<|.ret (rO h I)
theorem zfz (n t0 t1 r) (h : zc4 n t0 t1 = some r) : Pure pg 43 [Model.enc t0, Question.enc t1] (.bool r) := by
 refine Pure.ot Tryz.func43 I Tryz.ntmps43 I fun A w => .sA 3 I<|.S 1 I<|.Z h I (zjP _ _) fun x1 h => .A 1 I<|.p I (.extract I I I)<|.p I (.extract I I I)<|.A 2 I<|.nil<|.seq<|.plain 6 I<|.A 2 I<|gK h fun c3 h => gK h fun c4 h => .jA 3 (((zbr n ((x1.1).getD default) t1).getD default)) I (fun b2 => ?_) ?_
 ·refine .A 2 I<|.q I (.callLe I (kC I) I (.cons (.ofEq (optD_of (someD (impT c3 b2)))) .e1) (zfA _ _ _ _ (someD (impT c4 b2))))<|.nil I
 refine .nil<|.A 1 I<|.nil<|.K [4] I<|.ret (rO h I)
theorem zkA (n t0 t1 r) (h : zgw n t0 t1 = some r) : Pure pg 110 [Model.enc t0, .bool t1] (eK r) := by
 refine Pure.ot Tryz.func110 I Tryz.ntmps110 I fun A w => .S 1 I<|.p I (.nilS 2 (α := Range) Range.enc I)<|.nil<|.seq<|.S 1 I<|.Z h I (zdP _ _) fun x1 h => .A 1 I<|.nil<|.condS I h (fun h => ?_) fun h => ?_
 ·refine .sr<|.p I (.nilS 2 (α := Range) Range.enc I)<|.nil<|.ret ?_
  cases h
  exact zbk I (.d _)
 ·refine .skip<|.S 5 I<|.Z h I (zgb _ _ _ _) fun x2 h => .A 1 I<|.nil<|.ret ?_
  cases h
  exact zbk I (.d _)
theorem zkx (n t0 r) (h : zeL n t0 = some r) : Pure pg 48 [Model.enc t0] (eK r) := by
 refine Pure.ot Tryz.func48 I Tryz.ntmps48 I fun A w => .S 1 I<|.p I (.nilS 2 (α := Range) Range.enc I)<|.nil<|.S 1 I<|.Z h I (zkA _ _ _) fun x1 h => .A 1 I<|.nil<|.ret ?_
 cases h
 exact zbk I (.d _)
theorem zaR (n t0 t1 r) (h : zD n t0 t1 = some r) : Pure pg 61 [Action.enc t0, .int t1] (.int r) := by
 refine Pure.ot Tryz.func61 I Tryz.ntmps61 I fun A w => .sA 2 I<|.seq<|.sr<|.p I (.fa I (G84_2 _))<|.A 2 I<|.p I (.len I U79 I)<|.A 1 I<|.nil<|.block<|.L [1,9,10] h (fun v => [(11, .d (.int v))]) (fun v => []) I fun _ x5 h => .sA 1 I<|.seq<|.condS I h (fun h => ?_) fun h => ?_
 ·refine .skip<|.seq<|.block<|.sr<|.X h I fun x7 h => .A 1 I<|.allocStore I I I I I I I I (by simp) I I Z131<|.nil<|.sA 4 I<|.condS I h (fun h => ?_) fun h => ?_
  ·refine .sA 3 I<|.ret (rO h I)
  ·refine .skip<|.rA 2 I (ndE h I)
 ·refine .exit<|.sA 1 I<|.ret (rO h I)
theorem zaq (n t0 t1 r) (h : zm n t0 t1 = some r) : Pure pg 40 [Action.enc t0, Row.enc t1] (.int r) := by
 refine Pure.ot Tryz.func40 I Tryz.ntmps40 I fun A w => .sA 3 I<|.sA 1 I<|.seq<|.S 2 I<|.p I (.len I U31 I)<|.A 1 I<|.nil<|.block<|.L [2,9,10] h (fun v => [(5, .d (.int v.1)), (11, .d (.int v.2))]) (fun v => []) I fun _ ⟨x9, x10⟩ h => .sA 1 I<|.seq<|.condS I h (fun h => ?_) fun h => ?_
 ·refine .skip<|.seq<|.block<|.sr<|.X h I fun x12 h => .A 1 I<|.allocStore I I I I I I I I (by simp) I I Z41<|.nil<|.draw 10 Hm (by kernel_rfl) (by kernel_rfl)<|.A 6 I<|.Z h I (zaR _ _ _) fun x13 h => .A 3 I<|.nil<|.nil<|.rA 2 I (ndE h I)
 ·refine .exit<|.sA 2 I<|.ret (rO h I)
theorem zfx (n t0 t1 r) (h : zae n t0 t1 = some r) : Pure pg 111 [eA t0, .int t1] (.int r) := by
 refine Pure.ot Tryz.func111 I Tryz.ntmps111 I fun A w => .sA 1 I<|.seq<|.S 1 I<|.p I (.len I U22 I)<|.A 1 I<|.nil<|.block<|.L [0,1,7] h (fun v => [(8, .d (.int v))]) (fun v => []) I fun _ x5 h => .sA 1 I<|.seq<|.condS I h (fun h => ?_) fun h => ?_
 ·refine .skip<|.seq<|.block<|.sA 2 I<|.S 3 I<|.X h I fun x7 h => .A 2 I<|.nil<|.condS I h (fun h => ?_) fun h => ?_
  ·refine .sA 2 I<|.ret (rO h I)
  ·refine .skip<|.rA 2 I (ndE h I)
 ·refine .exit<|.sA 1 I<|.ret (rO h I)
theorem zcM (n t0 t1 r) (h : zaC n t0 t1 = some r) : Pure pg 49 [eA t0, .int t1] (.bool r) := by
 refine Pure.ot Tryz.func49 I Tryz.ntmps49 I fun A w => .sA 1 I<|.S 2 I<|.Z h I (zfx _ _ _) fun x1 h => .A 2 I<|.nil<|.ret (rO h I)
theorem zhC (n t0 t1 r) (h : zd1 n t0 t1 = some r) : Pure pg 112 [.int t0, .ref (.int t1)] (.int r) := by
 refine Pure.ot Tryz.func112 I Tryz.ntmps112 I fun A w => .sA 1 I<|.sA 4 I<|.ret (rO h I)
theorem ziK (n : Nat) (t0 : Int) : Pure pg 52 [.int t0] (.fn (.func 112) [] [.ref (.int t0)]) := by
 refine Pure.ot Tryz.func52 I Tryz.ntmps52 I fun A w => .sA 2 I<|.sr<|.p I (.makeFunc I I)<|.A 1 I<|.nil<|.ret (zbk I (.d _))
theorem zb5 (n t0) (t1 : Int → Option Int) (t2 : Int → Option Int) (F1 : D) (hF1 : ∀ (q0 : Int) (y : Int), t1 q0 = some y → Dyn pg F1 [.int q0] (.int y)) (F2 : D) (hF2 : ∀ (q0 : Int) (y : Int), t2 q0 = some y → Dyn pg F2 [.int q0] (.int y)) (r) (h : zM n t0 t1 t2 = some r) : Pure pg 50 [Row.enc t0, F1, F2] (Row.enc r) := by
 refine Pure.ot Tryz.func50 I Tryz.ntmps50 I fun A w => .S 1 I<|.allocZ I I I I (.agg Zc33 (ds' := [eL [], .int 0]) (.o .e1)) I<|.nil<|.S 3 I<|bK h fun x1 q1 h => .p I (.dyn I I I (hF2 _ _ q1))<|.p I (.build I Pl33 (.agg Zc33 (ds' := [.val (.slice none 0 0), _]) (.e .e1)) I I)<|.allocZ I I I I (.agg Zc33 (ds' := [.val (.slice none 0 0), .int 0]) (.e .e1)) I<|.nilCell 1 0 2 41 I I<|.store I I I I I I (.ofD I) C33 I (yh I)<|.nilCell 1 0 2 41 I I<|.nil<|.seq<|.S 2 I<|.p I (.len I U31 I)<|.A 1 I<|.nil<|.block<|.L [1,6,7,16,17] h (fun v => [(18, .d (.int v.2))]) (fun v => [(1, .box 33 [.vec 3 (List.length v.1), .d (.int x1)]), (3, .vec 41 2 (List.map Term.enc v.1))]) I fun _ ⟨b3_12, x13⟩ h => .sA 1 I<|.K [1,6,7,16,17,18,19] I<|.seq<|.condS I h (fun h => ?_) fun h => ?_
 ·refine .skip<|.seq<|.block<|.sr<|.X h I fun x15 h => .A 1 I<|.allocStore I I I I I I I I (by simp) I I Z41<|.nil<|.draw 10 Hm (by kernel_rfl) (by kernel_rfl)<|.p I (.fieldAddrLoc I I I F33_0)<|.p I (.loadLoc1 I I I Y31 I)<|.A 5 I<|bK h fun x16 q16 h => .p I (.dyn I I I (hF1 _ _ q16))<|.p I (.castD (Term.enc (⟨x15.cell, x16⟩ : Term)) I (.build I Pl41 (.agg Zc41 (ds' := [_, _]) (.e .e1)) I I))<|.p I (.buildSl [_] I I E31 I (fun _ => I) I (enc := Term.enc))<|.nil<|bK h fun x17 q17 h => .app I I I I I I I I E31 I (fun _ => I) q17<|.p I (.fieldAddrLoc I I I F33_0)<|.store I I I I I I (.cons (.vec I (by simp)) .nil) C31 I (yh I)<|.nil<|.K [1,6,7,16,17,18] I<|.rA 2 I (ndE h I)
 ·refine .exit<|.sr<|.p I (.loadLoc I I I Y33 (yh I) I)<|.store I I I I I I (.cons (.vec I (by simp)) (.cons (.d I) .nil)) C33 I (yh I)<|.nil<|.ret ?_
  cases h
  exact retCell I I Y33 (.cons (.vec I (by simp)) .v1)
theorem zdG (n t0 r) (h : zbl n t0 = some r) : Pure pg 51 [.int t0] (.int r) := by
 refine Pure.ot Tryz.func51 I Tryz.ntmps51 I fun A w => .sA 1 I<|.sA 2 I<|.ret (rO h I)
theorem zdn (n t0 t1 r) (h : zaP n t0 t1 = some r) : Pure pg 56 [.int t0, .ref (.int t1)] (.int r) := by
 refine Pure.ot Tryz.func56 I Tryz.ntmps56 I fun A w => .sA 1 I<|.S 1 I<|.p I (.neg6 I I)<|.A 4 I<|.nil<|.ret (rO h I)
theorem zd5 (n t0 r) (h : zbg n t0 = some r) : Pure pg 55 [.int t0] (.int r) := by
 refine Pure.ot Tryz.func55 I Tryz.ntmps55 I fun A w => .sA 1 I<|.S 1 I<|.p I (.neg6 I I)<|.A 1 I<|.nil<|.ret (rO h I)
theorem zdo (n t0) (t1 : Int → Option Int) (F1 : D) (hF1 : ∀ (q0 : Int) (y : Int), t1 q0 = some y → Dyn pg F1 [.int q0] (.int y)) (r) (h : zL n t0 t1 = some r) : Pure pg 57 [Constraint.enc t0, F1] (Graph.enc r) := by
 refine Pure.ot Tryz.func57 I Tryz.ntmps57 I fun A w => .S 1 I<|.allocZ I I I I (.agg Zc99 (ds' := [.int 0, .int 0, eA []]) (.e (.e .o1))) I<|.nil<|.S 4 I<|.p I (.build I Pl99 (.agg Zc99 (ds' := [_, _, .val (.slice none 0 0)]) (.e (.e .e1))) I I)<|.allocZ I I I I (.agg Zc99 (ds' := [.int 0, .int 0, .val (.slice none 0 0)]) (.e (.e .e1))) I<|.nilCell 1 2 1 3 I I<|.store I I I I I I (.ofD I) C99 I (yh I)<|.nilCell 1 2 1 3 I I<|.nil<|.seq<|.sA 6 I<|.block<|.L [1,2,4,5,16] h (fun v => [(17, .d (.int v.2))]) (fun v => [(1, .box 99 [.d (.int t0.first), .d (.int t0.size), .vec 3 (List.length v.1)]), (3, .vec 3 1 (List.map D.int v.1))]) I fun _ ⟨b3_9, x10⟩ h => .sA 1 I<|.K [1,2,4,5,16,17,18] I<|.seq<|.condS I h (fun h => ?_) fun h => ?_
 ·refine .skip<|.seq<|.block<|.sA 2 I<|.draw 10 Hm (by kernel_rfl) (by kernel_rfl)<|.p I (.fieldAddrLoc I I I F99_2)<|.p I (.loadLoc1 I I I Y22 I)<|.A 5 I<|bK h fun x12 q12 h => .p I (.dyn I I I (hF1 _ _ q12))<|.A 1 I<|.p I (.buildSl [_] I I E22 I (fun _ => I) I (enc := D.int))<|.nil<|bK h fun x13 q13 h => .app I I I I I I I I E22 I (fun _ => I) q13<|.p I (.fieldAddrLoc I I I F99_2)<|.store I I I I I I (.cons (.vec I (by simp)) .nil) C22 I (yh I)<|.nil<|.rA 2 I (ndE h I)
 ·refine .exit<|.sr<|.p I (.loadLoc I I I Y99 (yh I) I)<|.store I I I I I I (.cons (.d I) (.cons (.d I) (.cons (.vec I (by simp)) .nil))) C99 I (yh I)<|.nil<|.ret ?_
  cases h
  exact retCell I I Y99 (.v (.v (.cons (.vec I (by simp)) .nil)))
theorem zgf (n t0 r) (h : zbs n t0 = some r) : Pure pg 58 [.int t0] (.int r) := by
 refine Pure.ot Tryz.func58 I Tryz.ntmps58 I fun A w => .sA 1 I<|.sA 1 I<|.ret (rO h I)
theorem zcg (n t0 t1 r) (h : zn n t0 t1 = some r) : Pure pg 59 [Action.enc t0, Constraint.enc t1] (eA r) := by
 refine Pure.ot Tryz.func59 I Tryz.ntmps59 I fun A w => .S 2 I<|.p I (.nilS 1 (α := Int) D.int I)<|.nil<|.S 1 I<|.nilVec 5 1 3 I<|.nil<|.seq<|.sA 6 I<|.block<|.L [2,3,11] h (fun v => [(5, .vec 0 (List.length v.1)), (12, .d (.int v.2))]) (fun v => [(0, .vec 3 1 (List.map D.int v.1))]) I fun _ ⟨b0_13, x14⟩ h => .sA 1 I<|.K [2,3,5,11,12,13] I<|.seq<|.condS I h (fun h => ?_) fun h => ?_
 ·refine .skip<|.J [2,3,11,12] h (fun v => [(5, .vec 0 (List.length v))]) (fun v => [(0, .vec 3 1 (List.map D.int v))]) I (fun k_17 h => ?_) (fun b0_16 h => ?_)
  ·refine .block<|.sA 2 I<|.S 5 I<|.Z h I (zaR _ _ _) fun x18 h => .A 1 I<|.nil<|.condS I h (fun h => ?_) fun h => ?_
   ·refine .region<|.A 2 I<|.p I (.buildSl [_] I I E22 I (fun _ => I) I (enc := D.int))<|bK h fun x19 q19 h => .app I I I I I I I I E22 I (fun _ => I) q19<|.A 1 I<|.nil (ndE h I)
   ·refine .skip (ndE h I)
  ·refine .rA 2 I (ndE h I)
 ·refine .exit<|.sA 2 I<|.ret ?_
  cases h
  exact zbk I (.vec I (by simp))
theorem zgg (n t0 t1 r) (h : z9 n t0 t1 = some r) : Pure pg 60 [.int t0, .ref (Action.enc t1)] (.int r) := by
 refine Pure.ot Tryz.func60 I Tryz.ntmps60 I fun A w => .sA 1 I<|.S 2 I<|.Z h I (zaR _ _ _) fun x1 h => .A 1 I<|.nil<|.ret (rO h I)
theorem zgh (n t0 t1 r) (h : zaa n t0 t1 = some r) : Pure pg 62 [.int t0, .ref (Action.enc t1)] (.int r) := by
 refine Pure.ot Tryz.func62 I Tryz.ntmps62 I fun A w => .sA 1 I<|.S 2 I<|.Z h I (zaR _ _ _) fun x1 h => .A 1 I<|.nil<|.ret (rO h I)
theorem zd4 (n t0 t1 t2 t3 r) (h : zaN n t0 t1 t2 t3 = some r) : Pure pg 113 [.int t0, .ref (Action.enc t1), .ref (Constraint.enc t2), .ref (Action.enc t3)] (.int r) := by
 refine Pure.ot Tryz.func113 I Tryz.ntmps113 I fun A w => .sA 1 I<|.seq<|.draw 14 Hm (by kernel_rfl) (by kernel_rfl)<|.A 5 I<|.Z h I (zaR _ _ _) fun x1 h => .A 5 I<|.Z h I (zaR _ _ _) fun x2 h => .A 2 I<|.nil<|.nil<|.ret (rO h I)
theorem zke (n t0 t1 r) (h : zdf n t0 t1 = some r) : Pure pg 171 [.int t0, eJ t1] (.tup [DGraph.enc r.1, .bool r.2]) := by
 refine Pure.ot Tryz.func171 I Tryz.ntmps171 I fun A w => .sr<|.allocZ I I I I (.agg Zc194 (ds' := [.int 0, eJ []]) (.e .o1)) I<|.A 1 I<|.nil<|.seq<|.plain 17 I<|.A 2 I<|.p I (.castD (DGraph.enc (⟨t0, t1⟩ : DGraph)) I (.build I Pl194 (.agg Zc194 (ds' := [_, _]) (.e .e1)) I I))<|.A 3 I<|.jA 2 (decide (t0 ≤ 6)) I (fun b1 => ?_) ?_
 ·refine .A 2 I<|.nil I
 refine .A 1 I<|.jA 6 ((t1.length : Int) == (mul64 t0 t0)) I (fun b2 => ?_) ?_
 ·refine .A 1 I<|.q I (.len I U144 I)<|.A 4 I<|.nil I
 refine .nil<|.store I I I I I I (.ofD I) C194 I (yh I)<|.A 1 I<|.nil<|.K [4,5] I<|.ret ?_
 cases h
 exact zfv I I Y194 (.v .v1) I (.d _)
theorem zg1 (n t0 t1 t2 r) (h : za0 n t0 t1 t2 = some r) : Pure pg 209 [DGraph.enc t0, .int t1, .int t2] (.bool r) := by
 refine Pure.ot Tryz.func209 I Tryz.ntmps209 I fun A w => .sA 2 I<|.S 8 I<|.X h I fun x1 h => .A 2 I<|.nil<|.ret (rO h I)
theorem cmp_Or_int_ok (n t0 r) (h : zcN n t0 = some r) : Pure pg 212 [eA t0] (.int r) := by
 refine Pure.ot Tryz.func212 I Tryz.ntmps212 I fun A w => .sA 1 I<|.sA 1 I<|.seq<|.S 1 I<|.p I (.len I U22 I)<|.A 1 I<|.nil<|.block<|.L [3,6,7] h (fun v => [(8, .d (.int v))]) (fun v => []) I fun _ x5 h => .sA 1 I<|.seq<|.condS I h (fun h => ?_) fun h => ?_
 ·refine .skip<|.seq<|.block<|.sr<|.X h I fun x7 h => .A 2 I<|.nil<|.sA 3 I<|.condS I h (fun h => ?_) fun h => ?_
  ·refine .sA 2 I<|.ret (rO h I)
  ·refine .skip<|.rA 2 I (ndE h I)
 ·refine .exit<|.sA 2 I<|.ret (rO h I)
theorem zhX (n t0 t1 r) (h : zb8 n t0 t1 = some r) : Pure pg 174 [eA t0, eA t1] (.int r) := by
 refine Pure.ot Tryz.func174 I Tryz.ntmps174 I fun A w => .sA 1 I<|.S 1 I<|.p I (.len I U22 I)<|.A 1 I<|.p I (.len I U22 I)<|.Z h I (zeJ _ _ _) fun x1 h => .A 2 I<|.Z h I (zcU _ _ _) fun x2 h => .p I (.buildSl [_, _] I I E22 I (fun _ => I) I (enc := D.int))<|.Z h I (cmp_Or_int_ok _ _) fun x3 h => .A 1 I<|.nil<|.ret (rO h I)
abbrev LI (l : List Int) : D := .sl 1 (l.map D.int)
abbrev yfn (l : Nat) : D := .fn (.yield l) [] []
abbrev HT (out : List (List Int)) : List Blk := [.box 145 [.vec 1 out.length], .vec 22 1 (out.map LI)]
abbrev HH (g : DGraph) (l : Nat) (out : List (List Int)) : List Blk := [.box 145 [.vec 1 out.length], .vec 22 1 (out.map LI), .box 63 [.fn (.func 208) [] [.d (.ref g.enc), .d (.ref (yfn l)), .loc 2 0]]]
theorem dK208 : callable pg 208 = true := by kernel_rfl
theorem dK172 : callable pg 172 = true := by kernel_rfl
theorem dK173 : callable pg 173 = true := by kernel_rfl
theorem dK174 : callable pg 174 = true := by kernel_rfl
theorem dK171 : callable pg 171 = true := by kernel_rfl
theorem dK209 : callable pg 209 = true := by kernel_rfl
theorem dK49 : callable pg 49 = true := by kernel_rfl
theorem dK29 : callable pg 29 = true := by kernel_rfl
theorem dY63 : zao pg 63 = some none := by kernel_rfl
theorem dY145 : zao pg 145 = some none := by kernel_rfl
theorem dC63 : cellsOf pg 63 = some 1 := by kernel_rfl
theorem dC145 : cellsOf pg 145 = some 1 := by kernel_rfl
theorem dZa63 : zb2 pg 63 = some .nilFunc := by kernel_rfl
theorem dZa145 : zb2 pg 145 = some (.slice none 0 0) := by kernel_rfl
theorem dZ194 : zaV pg 194 (some 2) = true := by kernel_rfl
def Tryz.sortLL_ren : Go.Shelf.Ren := ⟨fun | 6 => 173 | 15 => 211 | 14 => 210 | 28 => 234 | 29 => 235 | 20 => 226 | 21 => 227 | 22 => 228 | 23 => 229 | 24 => 230 | 25 => 231 | 26 => 232 | 27 => 233 | 46 => 250 | 47 => 251 | 48 => 252 | 49 => 253 | 50 => 254 | 57 => 264 | n => n, fun | 22 => 145 | 24 => 22 | 25 => 165 | 3 => 3 | 39 => 210 | 0 => 0 | 53 => 235 | 55 => 238 | 4 => 4 | 46 => 248 | 45 => 247 | 50 => 71 | 5 => 5 | 9 => 9 | 66 => 263 | 70 => 170 | 76 => 272 | 77 => 261 | n => n, fun | n => n⟩
theorem Tryz.sortLL : Go.Proofs.SlLaysF.n6 Tryz.prog Tryz.sortLL_ren := {
  mixed := by kernel_rfl
  f6 := ⟨Tryz.f173.name, by decide, Tryz.func173.trans (congrArg some (by kernel_rfl))⟩
  f14 := ⟨Tryz.f210.name, by decide, Tryz.func210.trans (congrArg some (by kernel_rfl))⟩
  f15 := Tryz.func211.trans (congrArg some (by kernel_rfl))
  f20 := ⟨Tryz.f226.name, by decide, Tryz.func226.trans (congrArg some (by kernel_rfl))⟩
  f21 := ⟨Tryz.f227.name, by decide, Tryz.func227.trans (congrArg some (by kernel_rfl))⟩
  f22 := ⟨Tryz.f228.name, by decide, Tryz.func228.trans (congrArg some (by kernel_rfl))⟩
  f23 := ⟨Tryz.f229.name, by decide, Tryz.func229.trans (congrArg some (by kernel_rfl))⟩
  f24 := ⟨Tryz.f230.name, by decide, Tryz.func230.trans (congrArg some (by kernel_rfl))⟩
  f25 := ⟨Tryz.f231.name, by decide, Tryz.func231.trans (congrArg some (by kernel_rfl))⟩
  f26 := ⟨Tryz.f232.name, by decide, Tryz.func232.trans (congrArg some (by kernel_rfl))⟩
  f27 := ⟨Tryz.f233.name, by decide, Tryz.func233.trans (congrArg some (by kernel_rfl))⟩
  f28 := Tryz.func234.trans (congrArg some (by kernel_rfl))
  f29 := Tryz.func235.trans (congrArg some (by kernel_rfl))
  f46 := ⟨Tryz.f250.name, by decide, Tryz.func250.trans (congrArg some (by kernel_rfl))⟩
  f47 := Tryz.func251.trans (congrArg some (by kernel_rfl))
  f48 := Tryz.func252.trans (congrArg some (by kernel_rfl))
  f49 := ⟨Tryz.f253.name, by decide, Tryz.func253.trans (congrArg some (by kernel_rfl))⟩
  f50 := ⟨Tryz.f254.name, by decide, Tryz.func254.trans (congrArg some (by kernel_rfl))⟩
  f57 := ⟨Tryz.f264.name, by decide, Tryz.func264.trans (congrArg some (by kernel_rfl))⟩
  t0 := Tryz.underlying0
  a0 := Tryz.isAgg0
  z0 := Tryz.sizeOf0
  v0 := Tryz.zeroValue0
  t3 := Tryz.underlying3
  a3 := Tryz.isAgg3
  z3 := Tryz.sizeOf3
  v3 := Tryz.zeroValue3
  t4 := Tryz.underlying4
  a4 := Tryz.isAgg4
  z4 := Tryz.sizeOf4
  v4 := Tryz.zeroValue4
  t5 := Tryz.underlying5
  a5 := Tryz.isAgg5
  z5 := Tryz.sizeOf5
  v5 := Tryz.zeroValue5
  t9 := Tryz.underlying9
  a9 := Tryz.isAgg9
  z9 := Tryz.sizeOf9
  v9 := Tryz.zeroValue9
  t22 := Tryz.underlying145
  a22 := Tryz.isAgg145
  z22 := Tryz.sizeOf145
  v22 := Tryz.zeroValue145
  a24 := Tryz.isAgg22
  z24 := Tryz.sizeOf22
  t25 := Tryz.underlying165
  a25 := Tryz.isAgg165
  z25 := Tryz.sizeOf165
  v25 := Tryz.zeroValue165
  t39 := Tryz.underlying210
  a39 := Tryz.isAgg210
  z39 := Tryz.sizeOf210
  v39 := Tryz.zeroValue210
  t45 := Tryz.underlying247
  a45 := Tryz.isAgg247
  z45 := Tryz.sizeOf247
  v45 := Tryz.zeroValue247
  t46 := Tryz.underlying248
  a46 := Tryz.isAgg248
  z46 := Tryz.sizeOf248
  v46 := Tryz.zeroValue248
  t50 := Tryz.underlying71
  a50 := Tryz.isAgg71
  z50 := Tryz.sizeOf71
  v50 := Tryz.zeroValue71
  t53 := Tryz.underlying235
  a53 := Tryz.isAgg235
  z53 := Tryz.sizeOf235
  v53 := Tryz.zeroValue235
  t55 := Tryz.underlying238
  a55 := Tryz.isAgg238
  z55 := Tryz.sizeOf238
  v55 := Tryz.zeroValue238
  t66 := Tryz.underlying263
  a66 := Tryz.isAgg263
  z66 := Tryz.sizeOf263
  v66 := Tryz.zeroValue263
  t70 := Tryz.underlying170
  a70 := Tryz.isAgg170
  z70 := Tryz.sizeOf170
  v70 := Tryz.zeroValue170
  t76 := Tryz.underlying272
  a76 := Tryz.isAgg272
  z76 := Tryz.sizeOf272
  v76 := Tryz.zeroValue272
  t77 := Tryz.underlying261
  a77 := Tryz.isAgg261
  z77 := Tryz.sizeOf261
  v77 := Tryz.zeroValue261 }
theorem dE145 : zbI pg 145 22 1 24 = true := by kernel_rfl
theorem Tri.seqJ [Globs] {P : Program} {C : Ctx} {Q : Exit → St → Prop} {s : St} {x y : Code} (J : St → Prop) (hy : ∀ s, J s → Tri P C y Q s) (hx : Tri P C x (thenQ J Q) s) : Tri P C (.seq x y) Q s :=
 .seq (hx.mono fun e s h => by cases e <;> first | exact hy s h | exact h)
theorem TriL.visit {G : Globs} {g : DGraph} {l : Nat} {rec : Loop} {xs : List Int} {out out2 : List (List Int)} {T1 : List (Nat × V)}
  (IH : ∀ (A0 own0 : Nat → Prop) (w0 : World) (gh : List (V × Value)), Serves ⟨A0, own0, w0, 57, fun _ _ => False, gh, 3, []⟩ l rec T1 → Tri pg ⟨A0, own0, w0, 57, fun _ _ => False, gh, 3, []⟩ (bodyOf pg 208) (retV [.tmp 5] fun v H2 => v = .d (.bool true) ∧ ∃ X, H2 = HH g l out2 ++ X)
   ⟨zd2 0 [.d (LI xs), .d (.ref g.enc), .d (.ref (yfn l)), .loc 2 0], HH g l out⟩)
  {C : Ctx} {ops : Array Oper} {o : Oper} {rest : List Oper} {Q : Exit → St → Prop} {T : List (Nat × V)} {d : Nat} (hg : o.guard = none) (hd : o.dst = some d) (hdn : Nat.blt d C.n = true) (hc : CallV pg o (ev T) 208 [.d (LI xs), .d (.ref g.enc), .d (.ref (yfn l)), .loc 2 0])
  (hu : (T.all fun p => p.2.under 3) = true) (hgn : Nat.ble C.gn 3 = true) (hs : Serves C l rec T1) (hT : Sub ((d, .d (.bool true)) :: T) ((d, .d (.bool true)) :: T))
  (kk : TriL pg C ops rest Q ⟨(d, .d (.bool true)) :: T, HH g l out2⟩) : TriL pg C ops (o :: rest) Q ⟨T, HH g l out⟩ := by
 refine TriL.inlineG (rs := [.tmp 5]) hg (by rw [hd]; simpa [dstOK] using hdn) hc Tryz.func208 rfl Tryz.ntmps208 rfl rfl hu hgn fun own0 w gh h1 h2 => ?_
 have ih := IH C.A0 own0 w gh ⟨h1 _ hs.1, fun q hq => h2 _ (hs.2 q hq)⟩
 rw [zfa Tryz.func208 rfl] at ih
 refine ih.mono fun e s ⟨he, vs, hv, hr, X, hX⟩ => ⟨he, vs, hv, ?_⟩
 rw [hr, hX, hd]
 exact TriL.ge (t := ⟨(d, .d (.bool true)) :: T, HH g l out2⟩) ⟨X, rfl, rfl, by simpa [V.under, ub] using hu, hT⟩ hgn kk
set_option maxRecDepth 10000 in
theorem visit_tri {G1 : Globs} [G : Globs] {l : Nat} {rec : Loop} {ia ib ic : Nat} {ra rb : List Oper} (hGs : @Globs.gs G = (l, .loop rec) :: @Globs.gs G1) (hGE : ∀ q ∈ @Globs.gs G1, q.1 ≠ l) (hsub : ∀ p ∈ @Globs.gs globs, p ∈ @Globs.gs G)
  (hrec : rec.state = .ready ∧ rec.pending = none ∧ rec.params = #[19] ∧ rec.tmps.size = 27) (hasg : rec.assign = .region ia ra.toArray false) (hbd : rec.body = .block ib (.region ic rb.toArray false)) (hda : (ra.all zet) = true) (hdb : (rb.all zet) = true) (n : Nat) (g : DGraph)
  (hY : ∀ (A0 own0 : Nat → Prop) (w : World) (gh : List (V × Value)) (out out' : List (List Int)) (z : List Int), app 24 out [z] = some out' → @TriL G1 pg ⟨A0, own0, w, 27, fun _ _ => False, gh, 3, []⟩ ra.toArray ra (fun e s1 => e = .normal ∧ ∀ (own0 : Nat → Prop) (w : World),
   @TriL G1 pg ⟨A0, own0, w, 27, fun _ _ => False, gh, 3, []⟩ rb.toArray rb (fun e s2 => e = .normal ∧ s2.H = HH g l out') s1) ⟨(19, .d (LI z)) :: [(7, .loc 0 0)], HH g l out⟩) :
  ∀ (k : Nat) (xs : List Int) (out out2 : List (List Int)), zy n g k xs out = some out2 → ∀ (A0 own0 : Nat → Prop) (w0 : World) (gh : List (V × Value)), Serves ⟨A0, own0, w0, 57, fun _ _ => False, gh, 3, []⟩ l rec [(7, .loc 0 0)] →
   Tri pg ⟨A0, own0, w0, 57, fun _ _ => False, gh, 3, []⟩ (bodyOf pg 208) (retV [.tmp 5] fun v H2 => v = .d (.bool true) ∧ ∃ X, H2 = HH g l out2 ++ X) ⟨zd2 0 [.d (LI xs), .d (.ref g.enc), .d (.ref (yfn l)), .loc 2 0], HH g l out⟩
 | 0, xs, out, out2, h, _, _, _, _, _ => by simp [zy] at h
 | k + 1, xs, out, out2, h, A0, own0, w0, gh, hs => by
  have hasP : ∀ n (g : DGraph) a b r, za0 n g a b = some r → Pure pg 209 [DGraph.enc g, .int a, .int b] (.bool r) := fun _ _ _ _ _ h => Pure.widen hsub (zg1 _ _ _ _ _ h)
  have hasP : ∀ n a b r, za0 n g a b = some r → Pure pg 209 [DGraph.enc g, .int a, .int b] (.bool r) := fun n a b r h => hasP n g a b r h
  have contP : ∀ n b r, zaC n xs b = some r → Pure pg 49 [eA xs, .int b] (.bool r) := fun _ _ _ h => Pure.widen hsub (zcM _ _ _ _ h)
  have cloneP : ∀ ys zs, app 8 [] ys = some zs → Pure pg 29 [eA ys] (eA zs) := fun _ _ h => clone_pure Tryz.func29 rfl Tryz.ntmps29 rfl E22 rfl (fun _ => rfl) (fun _ => rfl) h
  have hgn3 : Nat.ble (Ctx.gn ⟨A0, own0, w0, 57, fun _ _ => False, gh, 3, []⟩) 3 = true := rfl
  have IH := visit_tri hGs hGE hsub hrec hasg hbd hda hdb n g hY k
  rw [zfa Tryz.func208 rfl]
  simp only [zy] at h
  refine .sr <| .z I <| .nil <| .sr <| .m I <| .m I <| .p I (.len I U22 I) <| .p I (.sb I) <| bK h fun last ql h => .p I (.ix I U22 S3 ql) <| .p I (.ld Y3 I) <| .z I <| .nil ?_
  obtain ⟨first, qf, h⟩ := bindS h
  obtain ⟨e, he, h⟩ := bindS h
  refine Tri.seqJ (fun s => ∃ out1, loopF (zy.l1 n g (zy n g k) xs last) n (add64 first 1, out1) = some out2 ∧ s = ⟨[(0, .d (LI xs)), (1, .d (.ref g.enc)), (2, .d (.ref (yfn l))), (3, .loc 2 0), (6, .d (.int last)), (26, .d (.bool false))], HH g l out1⟩) ?_ ?_
  ·rintro s ⟨out1, h, rfl⟩
   refine .seq <| .seq <| .region <| .m I <| .p I (.ix I U22 S3 qf) <| .p I (.ld Y3 I) <| .p I (.ad I) <| .z I <| .nil ?_
   refine .block <| .loopS [0, 1, 2, 3, 6] (fun (v : Int × List (List Int)) => [(7, .d (.int v.1))]) (fun v => [(0, .box 145 [.vec 1 v.2.length]), (1, .vec 22 1 (v.2.map LI))]) (.c4 I <| .c I .nil) h ⟨_, Fz8 I <| FzE⟩ (fun rec' v h => ?_)
   refine .seq <| .seq <| .region <| .m I <| .p I (.fa I (G194_0 _)) <| .p I (.ld Y3 I) <| .p I (.ls I) <| .nil <| .keep (HH g l v.2) [0, 1, 2, 3, 6, 7, 34] (.c4 I <| .c2 I <| .c I .nil) I <| .condS I h (fun h => ?_) fun h => ?_
   ·obtain ⟨e2, he2, h⟩ := bindS h
    refine .skip <| Tri.seqJ (fun s => ∃ out1, rec' (add64 v.1 1, out1) = some out2 ∧ s = ⟨[(0, .d (LI xs)), (1, .d (.ref g.enc)), (2, .d (.ref (yfn l))), (3, .loc 2 0), (6, .d (.int last)), (7, .d (.int v.1)), (56, .d (.bool false))], HH g l out1⟩) ?_ ?_
    ·rintro s ⟨out1, h, rfl⟩
     refine .region <| .m I <| .p I (.ad I) <| .z I <| .nil ⟨_, h, ⟨_, Fz8 I <| FzE⟩⟩
    refine .block <| .seq <| .drawI 20 Hm I ?_
    cases e2 with
    | false =>
     rw [if_neg (by simp)] at h
     refine .first 1 rfl (by decide +kernel) rfl (.none rfl) ?_
     refine .first 2 rfl (by decide +kernel) rfl (.none rfl) ?_
     refine .step 0 [] (by decide +kernel) (.cons (i := 0) rfl (OneI.of rfl (.p I (.ld Y194 I) (.nil ⟨rfl, rfl⟩))) ?_ .nil)
     refine .step 3 [] (by decide +kernel) (.cons (i := 3) rfl (OneI.of rfl (.p I (.call I dK209 I (hasP _ _ _ _ he2)) (.nil ⟨rfl, rfl⟩))) ?_ .nil)
     refine .first 4 rfl (by decide +kernel) rfl (.none rfl) ?_
     refine .skip 5 rfl (by decide +kernel) rfl rfl (.some rfl) ?_
     refine .skip 6 rfl (by decide +kernel) rfl rfl (.some rfl) ?_
     refine .step 7 [] (by decide +kernel) (.cons (i := 7) rfl (OneI.no rfl (.some rfl)) ?_ .nil)
     refine .skip 8 rfl (by decide +kernel) rfl rfl (.some rfl) ?_
     refine .step 9 [] (by decide +kernel) (.cons (i := 9) rfl (OneI.of rfl (.p I (.pick (b := false) (v := .d (.bool false)) I I (fun h => by cases h) (fun _ => rfl)) (.nil ⟨rfl, rfl⟩))) ?_ .nil)
     refine .first 10 rfl (by decide +kernel) rfl (.none rfl) ?_
     refine .skip 11 rfl (by decide +kernel) rfl rfl (.some rfl) ?_
     refine .skip 12 rfl (by decide +kernel) rfl rfl (.some rfl) ?_
     refine .skip 14 rfl (by decide +kernel) rfl rfl (.some rfl) ?_
     refine .skip 15 rfl (by decide +kernel) rfl rfl (.some rfl) ?_
     refine .step 13 [] (by decide +kernel) (.cons (i := 13) rfl (OneI.no rfl (.some rfl)) ?_ .nil)
     refine .step 16 [] (by decide +kernel) (.cons (i := 16) rfl (OneI.no rfl (.some rfl)) ?_ .nil)
     refine .step 17 [] (by decide +kernel) (.cons (i := 17) rfl (OneI.no rfl (.some rfl)) ?_ .nil)
     refine .skip 18 rfl (by decide +kernel) rfl rfl (.some rfl) ?_
     refine .step 19 [] (by decide +kernel) (.cons (i := 19) rfl (OneI.of rfl (.p I (.pick (b := false) (v := .d (.bool false)) I I (fun h => by cases h) (fun _ => rfl)) (.nil ⟨rfl, rfl⟩))) ?_ .nil)
     refine .done (by decide +kernel) ?_
     refine .keep (HH g l v.2) [0, 1, 2, 3, 6, 7, 56] (.c4 I <| .c2 I <| .c I .nil) I ?_
     refine .cond (t := false) rfl (fun h => by cases h) (fun _ => .skip ?_)
     exact ⟨_, h, rfl⟩
    | true =>
     rw [if_pos rfl] at h
     obtain ⟨f, hf, h⟩ := bindS h
     cases f with
     | true =>
      rw [if_pos rfl] at h
      refine .first 1 rfl (by decide +kernel) rfl (.none rfl) ?_
      refine .first 2 rfl (by decide +kernel) rfl (.none rfl) ?_
      refine .step 0 [] (by decide +kernel) (.cons (i := 0) rfl (OneI.of rfl (.p I (.ld Y194 I) (.nil ⟨rfl, rfl⟩))) ?_ .nil)
      refine .step 3 [] (by decide +kernel) (.cons (i := 3) rfl (OneI.of rfl (.p I (.call I dK209 I (hasP _ _ _ _ he2)) (.nil ⟨rfl, rfl⟩))) ?_ .nil)
      refine .first 4 rfl (by decide +kernel) rfl (.none rfl) ?_
      refine .first 5 rfl (by decide +kernel) rfl (.some rfl) ?_
      refine .first 6 rfl (by decide +kernel) rfl (.some rfl) ?_
      refine .step 7 [] (by decide +kernel) (.cons (i := 7) rfl (OneI.ofG rfl (.some rfl) (.p I (.call I dK49 I (contP _ _ _ hf)) (.nil ⟨rfl, rfl⟩))) ?_ .nil)
      refine .step 8 [] (by decide +kernel) (.cons (i := 8) rfl (OneI.ofG rfl (.some rfl) (.p I (.nt I) (.nil ⟨rfl, rfl⟩))) ?_ .nil)
      refine .step 9 [] (by decide +kernel) (.cons (i := 9) rfl (OneI.of rfl (.p I (.pick (b := true) (v := .d (.bool false)) I I (fun _ => rfl) (fun h => by cases h)) (.nil ⟨rfl, rfl⟩))) ?_ .nil)
      refine .first 10 rfl (by decide +kernel) rfl (.none rfl) ?_
      refine .skip 11 rfl (by decide +kernel) rfl rfl (.some rfl) ?_
      refine .skip 12 rfl (by decide +kernel) rfl rfl (.some rfl) ?_
      refine .skip 14 rfl (by decide +kernel) rfl rfl (.some rfl) ?_
      refine .skip 15 rfl (by decide +kernel) rfl rfl (.some rfl) ?_
      refine .step 13 [] (by decide +kernel) (.cons (i := 13) rfl (OneI.no rfl (.some rfl)) ?_ .nil)
      refine .step 16 [] (by decide +kernel) (.cons (i := 16) rfl (OneI.no rfl (.some rfl)) ?_ .nil)
      refine .step 17 [] (by decide +kernel) (.cons (i := 17) rfl (OneI.no rfl (.some rfl)) ?_ .nil)
      refine .skip 18 rfl (by decide +kernel) rfl rfl (.some rfl) ?_
      refine .step 19 [] (by decide +kernel) (.cons (i := 19) rfl (OneI.of rfl (.p I (.pick (b := false) (v := .d (.bool false)) I I (fun h => by cases h) (fun _ => rfl)) (.nil ⟨rfl, rfl⟩))) ?_ .nil)
      refine .done (by decide +kernel) ?_
      refine .keep (HH g l v.2) [0, 1, 2, 3, 6, 7, 56] (.c4 I <| .c2 I <| .c I .nil) I ?_
      refine .cond (t := false) rfl (fun h => by cases h) (fun _ => .skip ?_)
      exact ⟨_, h, rfl⟩
     | false =>
      rw [if_neg (by simp)] at h
      obtain ⟨c2, hc2, h⟩ := bindS h
      obtain ⟨l2, hl2, h⟩ := bindS h
      obtain ⟨out3, ho3, h⟩ := bindS h
      refine TriI.via 3 #[true, true, true, true, true, true, true, true, true, true, true, true, true, true, true, true, true, false, false, false] ⟨[(0, .d (LI xs)), (1, .d (.ref g.enc)), (2, .d (.ref (yfn l))), (3, .loc 2 0), (6, .d (.int last)), (7, .d (.int v.1)), (47, .d (.bool true)), (48, .fn (.func 208) [] [.d (.ref g.enc), .d (.ref (yfn l)), .loc 2 0]), (53, .d (LI l2))], HH g l v.2⟩ ?_ fun tail => ?_
      ·have visitCall : ∀ {C : Ctx} {ops : Array Oper} {o : Oper} {rest : List Oper} {Q : Exit → St → Prop} {T : List (Nat × V)} {d : Nat}, o.guard = none → o.dst = some d → Nat.blt d C.n = true → CallV pg o (ev T) 208 [.d (LI l2), .d (.ref g.enc), .d (.ref (yfn l)), .loc 2 0] → (T.all fun p => p.2.under 3) = true → Nat.ble C.gn 3 = true →
         Serves C l rec [(7, .loc 0 0)] → Sub ((d, .d (.bool true)) :: T) ((d, .d (.bool true)) :: T) → TriL pg C ops rest Q ⟨(d, .d (.bool true)) :: T, HH g l out3⟩ → TriL pg C ops (o :: rest) Q ⟨T, HH g l v.2⟩ := fun a1 a2 a3 a4 a5 a6 a7 a8 a9 => TriL.visit (IH _ _ _ ho3) a1 a2 a3 a4 a5 a6 a7 a8 a9
       refine .step 17 [] (by decide +kernel) (.cons (i := 17) rfl (OneI.ofG rfl (.some rfl) (visitCall rfl rfl rfl (CallV.clos (xs := [.d (LI l2)]) (caps := [.d (.ref g.enc), .d (.ref (yfn l)), .loc 2 0]) rfl rfl dK208 rfl) rfl rfl hs (Fz8 I <| Fz2 I trivial) (.nil ⟨rfl, rfl⟩))) ?_ .nil)
       refine .step 18 [] (by decide +kernel) (.cons (i := 18) rfl (OneI.ofG rfl (.some rfl) (.p I (.nt I) (.nil ⟨rfl, rfl⟩))) ?_ .nil)
       refine .step 19 [] (by decide +kernel) (.cons (i := 19) rfl (OneI.of rfl (.p I (.pick (b := true) (v := .d (.bool false)) I I (fun _ => rfl) (fun h => by cases h)) (.nil ⟨rfl, rfl⟩))) ?_ .nil)
       refine .done (by decide +kernel) ?_
       refine .keep (HH g l out3) [0, 1, 2, 3, 6, 7, 56] (.c4 I <| .c2 I <| .c I .nil) I ?_
       refine .cond (t := false) rfl (fun h => by cases h) (fun _ => .skip ?_)
       exact ⟨_, h, rfl⟩
      refine .first 1 rfl (by decide +kernel) rfl (.none rfl) ?_
      refine .first 2 rfl (by decide +kernel) rfl (.none rfl) ?_
      refine .step 0 [] (by decide +kernel) (.cons (i := 0) rfl (OneI.of rfl (.p I (.ld Y194 I) (.nil ⟨rfl, rfl⟩))) ?_ .nil)
      refine .step 3 [] (by decide +kernel) (.cons (i := 3) rfl (OneI.of rfl (.p I (.call I dK209 I (hasP _ _ _ _ he2)) (.nil ⟨rfl, rfl⟩))) ?_ .nil)
      refine .first 4 rfl (by decide +kernel) rfl (.none rfl) ?_
      refine .first 5 rfl (by decide +kernel) rfl (.some rfl) ?_
      refine .first 6 rfl (by decide +kernel) rfl (.some rfl) ?_
      refine .step 7 [] (by decide +kernel) (.cons (i := 7) rfl (OneI.ofG rfl (.some rfl) (.p I (.call I dK49 I (contP _ _ _ hf)) (.nil ⟨rfl, rfl⟩))) ?_ .nil)
      refine .step 8 [] (by decide +kernel) (.cons (i := 8) rfl (OneI.ofG rfl (.some rfl) (.p I (.nt I) (.nil ⟨rfl, rfl⟩))) ?_ .nil)
      refine .step 9 [] (by decide +kernel) (.cons (i := 9) rfl (OneI.of rfl (.p I (.pick (b := true) (v := .d (.bool true)) I I (fun _ => rfl) (fun h => by cases h)) (.nil ⟨rfl, rfl⟩))) ?_ .nil)
      refine .first 10 rfl (by decide +kernel) rfl (.none rfl) ?_
      refine .first 12 rfl (by decide +kernel) rfl (.some rfl) ?_
      refine .first 14 rfl (by decide +kernel) rfl (.some rfl) ?_
      refine .step 11 [13, 15] (by decide +kernel) (.cons (i := 11) rfl (OneI.ofG rfl (.some rfl) (.p I (.loadLoc1 I I I dY63 I) (.nil ⟨rfl, rfl⟩))) ?_ (.cons (i := 13) rfl (OneI.ofG rfl (.some rfl) (.clone I I I I dK29 Tryz.func29 I Tryz.ntmps29 I I E22 I (fun _ => I) (fun _ => I) hc2 I hgn3 (.nil ⟨rfl, rfl⟩))) ?_ (.cons (i := 15) rfl (OneI.ofG rfl (.some rfl) (.p I (.buildSl [_] I I E22 I (fun _ => I) I (enc := D.int)) (.nil ⟨rfl, rfl⟩))) ?_ .nil)))
      ·refine .step 13 [15] (by decide +kernel) (.cons (i := 13) rfl (OneI.ofG rfl (.some rfl) (.clone I I I I dK29 Tryz.func29 I Tryz.ntmps29 I I E22 I (fun _ => I) (fun _ => I) hc2 I hgn3 (.nil ⟨rfl, rfl⟩))) ?_ (.cons (i := 15) rfl (OneI.ofG rfl (.some rfl) (.p I (.buildSl [_] I I E22 I (fun _ => I) I (enc := D.int)) (.nil ⟨rfl, rfl⟩))) ?_ .nil))
       ·refine .step 15 [] (by decide +kernel) (.cons (i := 15) rfl (OneI.ofG rfl (.some rfl) (.p I (.buildSl [_] I I E22 I (fun _ => I) I (enc := D.int)) (.nil ⟨rfl, rfl⟩))) ?_ .nil)
        refine .step 16 [] (by decide +kernel) (.cons (i := 16) rfl (OneI.ofG rfl (.some rfl) (.app I I I I I I I I E22 I (fun _ => I) hl2 (.freezes [3] (.cons (t := 53) rfl (.vec (inIds rfl) rfl (by simp)) .nil) (.nil ⟨rfl, rfl⟩)))) ?_ .nil)
        exact .keepT [0, 1, 2, 3, 6, 7, 47, 48, 53] (.c8 I <| .c I .nil) (.cut (HH g l v.2) ⟨_, rfl⟩ rfl rfl (Fz8 I <| FzE) hgn3 (.to _ (by decide +kernel) tail))
       ·refine .step 13 [] (by decide +kernel) (.cons (i := 13) rfl (OneI.ofG rfl (.some rfl) (.clone I I I I dK29 Tryz.func29 I Tryz.ntmps29 I I E22 I (fun _ => I) (fun _ => I) hc2 I hgn3 (.nil ⟨rfl, rfl⟩))) ?_ .nil)
        refine .step 16 [] (by decide +kernel) (.cons (i := 16) rfl (OneI.ofG rfl (.some rfl) (.app I I I I I I I I E22 I (fun _ => I) hl2 (.freezes [3] (.cons (t := 53) rfl (.vec (inIds rfl) rfl (by simp)) .nil) (.nil ⟨rfl, rfl⟩)))) ?_ .nil)
        exact .keepT [0, 1, 2, 3, 6, 7, 47, 48, 53] (.c8 I <| .c I .nil) (.cut (HH g l v.2) ⟨_, rfl⟩ rfl rfl (Fz8 I <| FzE) hgn3 (.to _ (by decide +kernel) tail))
      ·refine .step 11 [15] (by decide +kernel) (.cons (i := 11) rfl (OneI.ofG rfl (.some rfl) (.p I (.loadLoc1 I I I dY63 I) (.nil ⟨rfl, rfl⟩))) ?_ (.cons (i := 15) rfl (OneI.ofG rfl (.some rfl) (.p I (.buildSl [_] I I E22 I (fun _ => I) I (enc := D.int)) (.nil ⟨rfl, rfl⟩))) ?_ .nil))
       ·refine .step 15 [] (by decide +kernel) (.cons (i := 15) rfl (OneI.ofG rfl (.some rfl) (.p I (.buildSl [_] I I E22 I (fun _ => I) I (enc := D.int)) (.nil ⟨rfl, rfl⟩))) ?_ .nil)
        refine .step 16 [] (by decide +kernel) (.cons (i := 16) rfl (OneI.ofG rfl (.some rfl) (.app I I I I I I I I E22 I (fun _ => I) hl2 (.freezes [3] (.cons (t := 53) rfl (.vec (inIds rfl) rfl (by simp)) .nil) (.nil ⟨rfl, rfl⟩)))) ?_ .nil)
        exact .keepT [0, 1, 2, 3, 6, 7, 47, 48, 53] (.c8 I <| .c I .nil) (.cut (HH g l v.2) ⟨_, rfl⟩ rfl rfl (Fz8 I <| FzE) hgn3 (.to _ (by decide +kernel) tail))
       ·refine .step 11 [16] (by decide +kernel) (.cons (i := 11) rfl (OneI.ofG rfl (.some rfl) (.p I (.loadLoc1 I I I dY63 I) (.nil ⟨rfl, rfl⟩))) ?_ (.cons (i := 16) rfl (OneI.ofG rfl (.some rfl) (.app I I I I I I I I E22 I (fun _ => I) hl2 (.freezes [3] (.cons (t := 53) rfl (.vec (inIds rfl) rfl (by simp)) .nil) (.nil ⟨rfl, rfl⟩)))) ?_ .nil))
        ·refine .step 16 [] (by decide +kernel) (.cons (i := 16) rfl (OneI.ofG rfl (.some rfl) (.app I I I I I I I I E22 I (fun _ => I) hl2 (.freezes [3] (.cons (t := 53) rfl (.vec (inIds rfl) rfl (by simp)) .nil) (.nil ⟨rfl, rfl⟩)))) ?_ .nil)
         exact .keepT [0, 1, 2, 3, 6, 7, 47, 48, 53] (.c8 I <| .c I .nil) (.cut (HH g l v.2) ⟨_, rfl⟩ rfl rfl (Fz8 I <| FzE) hgn3 (.to _ (by decide +kernel) tail))
        ·refine .step 11 [] (by decide +kernel) (.cons (i := 11) rfl (OneI.ofG rfl (.some rfl) (.p I (.loadLoc1 I I I dY63 I) (.nil ⟨rfl, rfl⟩))) ?_ .nil)
         exact .keepT [0, 1, 2, 3, 6, 7, 47, 48, 53] (.c8 I <| .c I .nil) (.cut (HH g l v.2) ⟨_, rfl⟩ rfl rfl (Fz8 I <| FzE) hgn3 (.to _ (by decide +kernel) tail))
      ·refine .step 11 [13] (by decide +kernel) (.cons (i := 11) rfl (OneI.ofG rfl (.some rfl) (.p I (.loadLoc1 I I I dY63 I) (.nil ⟨rfl, rfl⟩))) ?_ (.cons (i := 13) rfl (OneI.ofG rfl (.some rfl) (.clone I I I I dK29 Tryz.func29 I Tryz.ntmps29 I I E22 I (fun _ => I) (fun _ => I) hc2 I hgn3 (.nil ⟨rfl, rfl⟩))) ?_ .nil))
       ·refine .step 13 [] (by decide +kernel) (.cons (i := 13) rfl (OneI.ofG rfl (.some rfl) (.clone I I I I dK29 Tryz.func29 I Tryz.ntmps29 I I E22 I (fun _ => I) (fun _ => I) hc2 I hgn3 (.nil ⟨rfl, rfl⟩))) ?_ .nil)
        refine .step 16 [] (by decide +kernel) (.cons (i := 16) rfl (OneI.ofG rfl (.some rfl) (.app I I I I I I I I E22 I (fun _ => I) hl2 (.freezes [3] (.cons (t := 53) rfl (.vec (inIds rfl) rfl (by simp)) .nil) (.nil ⟨rfl, rfl⟩)))) ?_ .nil)
        exact .keepT [0, 1, 2, 3, 6, 7, 47, 48, 53] (.c8 I <| .c I .nil) (.cut (HH g l v.2) ⟨_, rfl⟩ rfl rfl (Fz8 I <| FzE) hgn3 (.to _ (by decide +kernel) tail))
       ·refine .step 11 [16] (by decide +kernel) (.cons (i := 11) rfl (OneI.ofG rfl (.some rfl) (.p I (.loadLoc1 I I I dY63 I) (.nil ⟨rfl, rfl⟩))) ?_ (.cons (i := 16) rfl (OneI.ofG rfl (.some rfl) (.app I I I I I I I I E22 I (fun _ => I) hl2 (.freezes [3] (.cons (t := 53) rfl (.vec (inIds rfl) rfl (by simp)) .nil) (.nil ⟨rfl, rfl⟩)))) ?_ .nil))
        ·refine .step 16 [] (by decide +kernel) (.cons (i := 16) rfl (OneI.ofG rfl (.some rfl) (.app I I I I I I I I E22 I (fun _ => I) hl2 (.freezes [3] (.cons (t := 53) rfl (.vec (inIds rfl) rfl (by simp)) .nil) (.nil ⟨rfl, rfl⟩)))) ?_ .nil)
         exact .keepT [0, 1, 2, 3, 6, 7, 47, 48, 53] (.c8 I <| .c I .nil) (.cut (HH g l v.2) ⟨_, rfl⟩ rfl rfl (Fz8 I <| FzE) hgn3 (.to _ (by decide +kernel) tail))
        ·refine .step 11 [] (by decide +kernel) (.cons (i := 11) rfl (OneI.ofG rfl (.some rfl) (.p I (.loadLoc1 I I I dY63 I) (.nil ⟨rfl, rfl⟩))) ?_ .nil)
         exact .keepT [0, 1, 2, 3, 6, 7, 47, 48, 53] (.c8 I <| .c I .nil) (.cut (HH g l v.2) ⟨_, rfl⟩ rfl rfl (Fz8 I <| FzE) hgn3 (.to _ (by decide +kernel) tail))
   ·cases h
    refine .exit <| .sr <| .z I <| .nil <| .ret ⟨.inl rfl, [.d (.bool true)], ⟨_, [], rfl, rfl, rfl⟩, rfl, [], rfl⟩
  ·refine .seq <| .drawI 13 Hm I ?_
   refine TriI.via 8 #[true, true, true, true, true, false, false, false, false, false, false, false, false] ⟨[(0, .d (LI xs)), (1, .d (.ref g.enc)), (2, .d (.ref (yfn l))), (3, .loc 2 0), (6, .d (.int last)), (14, .d g.enc), (15, .d (.int last)), (18, .d (.int first))], HH g l out⟩ ?_ fun tail => ?_
   ·cases e with
    | false =>
     rw [if_neg (by simp)] at h
     refine .step 5 [] (by decide +kernel) (.cons (i := 5) rfl (OneI.of rfl (.p I (.call I dK209 I (hasP _ _ _ _ he)) (.nil ⟨rfl, rfl⟩))) ?_ .nil)
     refine .first 6 rfl (by decide +kernel) rfl (.none rfl) ?_
     refine .skip 7 rfl (by decide +kernel) rfl rfl (.some rfl) ?_
     refine .skip 8 rfl (by decide +kernel) rfl rfl (.some rfl) ?_
     refine .step 9 [] (by decide +kernel) (.cons (i := 9) rfl (OneI.no rfl (.some rfl)) ?_ .nil)
     refine .step 10 [] (by decide +kernel) (.cons (i := 10) rfl (OneI.no rfl (.some rfl)) ?_ .nil)
     refine .skip 11 rfl (by decide +kernel) rfl rfl (.some rfl) ?_
     refine .step 12 [] (by decide +kernel) (.cons (i := 12) rfl (OneI.of rfl (.p I (.pick (b := false) (v := .d (.bool false)) I I (fun h => by cases h) (fun _ => rfl)) (.nil ⟨rfl, rfl⟩))) ?_ .nil)
     refine .done (by decide +kernel) ?_
     refine .keep (HH g l out) [0, 1, 2, 3, 6, 26] (.c4 I <| .c2 I .nil) I ?_
     refine .cond (t := false) rfl (fun h => by cases h) (fun _ => .skip ?_)
     exact ⟨_, h, rfl⟩
    | true =>
     rw [if_pos rfl] at h
     obtain ⟨c, hc, h⟩ := bindS h
     obtain ⟨out1, ho1, h⟩ := bindS h
     refine TriI.via 3 #[true, true, true, true, true, true, true, true, true, true, false, false, false] ⟨[(0, .d (LI xs)), (1, .d (.ref g.enc)), (2, .d (.ref (yfn l))), (3, .loc 2 0), (6, .d (.int last)), (20, .d (.bool true)), (21, .d (yfn l)), (23, .d (LI c))], HH g l out⟩ ?_ fun tail2 => ?_
     ·have yieldBody := fun own0 w gh => hY A0 own0 w gh out out1 c ho1
      refine .step 10 [] (by decide +kernel) (.cons (i := 10) rfl (OneI.yield (G1 := G1) hGs hGE hrec hasg hbd hda hdb hs rfl rfl rfl rfl rfl rfl rfl (.some rfl) rfl rfl fun own0 w gh => yieldBody own0 w gh) ?_ .nil)
      refine .step 11 [] (by decide +kernel) (.cons (i := 11) rfl (OneI.ofG rfl (.some rfl) (.p I (.nt I) (.nil ⟨rfl, rfl⟩))) ?_ .nil)
      refine .step 12 [] (by decide +kernel) (.cons (i := 12) rfl (OneI.of rfl (.p I (.pick (b := true) (v := .d (.bool false)) I I (fun _ => rfl) (fun h => by cases h)) (.nil ⟨rfl, rfl⟩))) ?_ .nil)
      refine .done (by decide +kernel) ?_
      refine .keep (HH g l out1) [0, 1, 2, 3, 6, 26] (.c4 I <| .c2 I .nil) I ?_
      refine .cond (t := false) rfl (fun h => by cases h) (fun _ => .skip ?_)
      exact ⟨_, h, rfl⟩
     refine .step 5 [] (by decide +kernel) (.cons (i := 5) rfl (OneI.of rfl (.p I (.call I dK209 I (hasP _ _ _ _ he)) (.nil ⟨rfl, rfl⟩))) ?_ .nil)
     refine .first 6 rfl (by decide +kernel) rfl (.none rfl) ?_
     refine .first 8 rfl (by decide +kernel) rfl (.some rfl) ?_
     refine .step 7 [9] (by decide +kernel) (.cons (i := 7) rfl (OneI.ofG rfl (.some rfl) (.p I (.ld dY63 I) (.nil ⟨rfl, rfl⟩))) ?_ (.cons (i := 9) rfl (OneI.ofG rfl (.some rfl) (.p I (.call I dK29 I (cloneP _ _ hc)) (.nil ⟨rfl, rfl⟩))) ?_ .nil))
     ·refine .step 9 [] (by decide +kernel) (.cons (i := 9) rfl (OneI.ofG rfl (.some rfl) (.p I (.call I dK29 I (cloneP _ _ hc)) (.nil ⟨rfl, rfl⟩))) ?_ .nil)
      exact .keepT [0, 1, 2, 3, 6, 20, 21, 23] (.c8 I .nil) (.to _ (by decide +kernel) tail2)
     ·refine .step 7 [] (by decide +kernel) (.cons (i := 7) rfl (OneI.ofG rfl (.some rfl) (.p I (.ld dY63 I) (.nil ⟨rfl, rfl⟩))) ?_ .nil)
      exact .keepT [0, 1, 2, 3, 6, 20, 21, 23] (.c8 I .nil) (.to _ (by decide +kernel) tail2)
   refine .first 1 rfl (by decide +kernel) rfl (.none rfl) ?_
   refine .first 2 rfl (by decide +kernel) rfl (.none rfl) ?_
   refine .step 0 [3] (by decide +kernel) (.cons (i := 0) rfl (OneI.of rfl (.p I (.ld Y194 I) (.nil ⟨rfl, rfl⟩))) ?_ (.cons (i := 3) rfl (OneI.of rfl (.p I (.ix I U22 S3 qf) (.nil ⟨rfl, rfl⟩))) ?_ .nil))
   ·refine .step 3 [] (by decide +kernel) (.cons (i := 3) rfl (OneI.of rfl (.p I (.ix I U22 S3 qf) (.nil ⟨rfl, rfl⟩))) ?_ .nil)
    refine .step 4 [] (by decide +kernel) (.cons (i := 4) rfl (OneI.of rfl (.p I (.ld Y3 I) (.nil ⟨rfl, rfl⟩))) ?_ .nil)
    exact .keepT [0, 1, 2, 3, 6, 14, 15, 18] (.c8 I .nil) (.to _ (by decide +kernel) tail)
   ·refine .step 0 [4] (by decide +kernel) (.cons (i := 0) rfl (OneI.of rfl (.p I (.ld Y194 I) (.nil ⟨rfl, rfl⟩))) ?_ (.cons (i := 4) rfl (OneI.of rfl (.p I (.ld Y3 I) (.nil ⟨rfl, rfl⟩))) ?_ .nil))
    ·refine .step 4 [] (by decide +kernel) (.cons (i := 4) rfl (OneI.of rfl (.p I (.ld Y3 I) (.nil ⟨rfl, rfl⟩))) ?_ .nil)
     exact .keepT [0, 1, 2, 3, 6, 14, 15, 18] (.c8 I .nil) (.to _ (by decide +kernel) tail)
    ·refine .step 0 [] (by decide +kernel) (.cons (i := 0) rfl (OneI.of rfl (.p I (.ld Y194 I) (.nil ⟨rfl, rfl⟩))) ?_ .nil)
     exact .keepT [0, 1, 2, 3, 6, 14, 15, 18] (.c8 I .nil) (.to _ (by decide +kernel) tail)
theorem cycles_tri {G1 : Globs} [G : Globs] {l : Nat} {rec : Loop} {ia ib ic : Nat} {ra rb : List Oper} (hGs : @Globs.gs G = (l, .loop rec) :: @Globs.gs G1) (hGE : ∀ q ∈ @Globs.gs G1, q.1 ≠ l) (hsub : ∀ p ∈ @Globs.gs globs, p ∈ @Globs.gs G)
  (hrec : rec.state = .ready ∧ rec.pending = none ∧ rec.params = #[19] ∧ rec.tmps.size = 27) (hasg : rec.assign = .region ia ra.toArray false) (hbd : rec.body = .block ib (.region ic rb.toArray false)) (hda : (ra.all zet) = true) (hdb : (rb.all zet) = true) (n : Nat) (g : DGraph)
  (hY : ∀ (A0 own0 : Nat → Prop) (w : World) (gh : List (V × Value)) (out out' : List (List Int)) (z : List Int), app 24 out [z] = some out' → @TriL G1 pg ⟨A0, own0, w, 27, fun _ _ => False, gh, 3, []⟩ ra.toArray ra (fun e s1 => e = .normal ∧ ∀ (own0 : Nat → Prop) (w : World),
   @TriL G1 pg ⟨A0, own0, w, 27, fun _ _ => False, gh, 3, []⟩ rb.toArray rb (fun e s2 => e = .normal ∧ s2.H = HH g l out') s1) ⟨(19, .d (LI z)) :: [(7, .loc 0 0)], HH g l out⟩)
  (out : List (List Int)) (h : loopF (digraph_cycles.l1 n g) n (0, []) = some out) (A0 own0 : Nat → Prop) (w0 : World) (gh : List (V × Value)) (hs : Serves ⟨A0, own0, w0, 18, fun _ _ => False, gh, 2, []⟩ l rec [(7, .loc 0 0)]) :
  Tri pg ⟨A0, own0, w0, 18, fun _ _ => False, gh, 2, []⟩ (bodyOf pg 172) (retV [] fun _ H2 => ∃ X, H2 = HT out ++ X) ⟨zd2 0 [.d g.enc, .d (yfn l)], HT []⟩ := by
 rw [zfa Tryz.func172 rfl]
 refine .sr <| .p I (.bx I) <| .p I (.bx I) <| .nil <| .sr <| .alloc I I I I dZa63 <| .nil <| .sr <| .p I (.makeFuncV I I) <| .store I I I I I I (.cons .fn .nil) dC63 I (yh I) <| .nil <| .sr <| .p I (.fa I (G194_0 _)) <| .p I (.ld Y3 I) <| .m I <| .nil ?_
 refine .block <| .loopS [2, 3, 4, 8] (fun (v : Int × List (List Int)) => [(9, .d (.int v.1))]) (fun v => [(0, .box 145 [.vec 1 v.2.length]), (1, .vec 22 1 (v.2.map LI))]) (.c4 I .nil) h ⟨_, Fz8 I trivial⟩ (fun rec' v h => ?_)
 refine .sr <| .p I (.ls I) <| .nil <| .keep (HH g l v.2) [2, 3, 4, 8, 9, 10] (.c4 I <| .c2 I .nil) I <| .seq <| .condS I h (fun h => ?_) fun h => ?_
 ·obtain ⟨out3, ho3, h⟩ := bindS h
  refine .skip <| .seq <| .block <| .sr <| .m I <| .z I <| .nil <| .sr <| .p I (.loadLoc1 I I I dY63 I) <| .m I <| .p I (.buildSl [_] I I E22 I (fun _ => I) I (enc := D.int)) <| TriL.visit (visit_tri hGs hGE hsub hrec hasg hbd hda hdb n g hY n _ _ _ ho3) I I I (CallV.clos (xs := [.d (LI [v.1])]) (caps := [.d (.ref g.enc), .d (.ref (yfn l)), .loc 2 0]) I I dK208 I) I I hs (by repeat (first | exact trivial | refine ⟨rfl, ?_⟩)) <| .p I (.nt I) <| .nil ?_
  refine .cond (t := false) rfl (fun h => by cases h) (fun _ => .skip ?_)
  refine .region <| .p I (.ad I) <| .m I <| .nil ⟨_, h, ⟨_, Fz8 I trivial⟩⟩
 ·cases h
  refine .exit ?_
  exact ⟨.inr rfl, [], rfl, _, rfl⟩
theorem ziM (n : Nat) (t0 : Int) (t1 : List Bool) (r : List (List Int)) (h : zbC n t0 t1 = some r) : Pure pg 114 [.int t0, eJ t1] (eN r) := by
 unfold zbC at h
 obtain ⟨o, ho, h⟩ := bindS h
 refine Pure.of_triM Tryz.func114 rfl (by rw [Tryz.ntmps114]; simp) fun A w => ?_
 rw [Tryz.ntmps114]
 refine .sr <| .p I (.nilS 1 (α := List Int) LI I) <| .nil <| .sr <| .m I <| .m I <| .p I (.call I dK171 I (zke _ _ _ _ ho)) <| .m I <| .p I (.extract I I I) <| .p I (.extract I I I) <| .allocStore I I I I I I I I (by simp) I I dZ194 <| .z I <| .nil ?_
 refine .seq <| .sr <| .m I <| .p I (.nt I) <| .nil <| .condS I h (fun h => ?_) fun h => ?_
 ·refine .sr <| .p I (.nilS 1 (α := List Int) LI I) <| .nil <| .ret ?_
  cases h
  exact zbk I (.d _)
 obtain ⟨out, ho2, hsort⟩ := bindS h
 refine .skip <| .sr <| .alloc I I I I dZa145 <| .nilCell 0 0 1 22 rfl rfl <| .nil <| .keep (HT []) [5, 7] (.c2 I .nil) I ?_
 refine Tri.rangeFunc (K := fun H2 => ∃ X, H2 = HT out ++ X) (.region <| .p I (.ld Y194 I) <| .p I (.makeFunc1 I I) <| .nil ⟨rfl, rfl⟩) rfl dK172 Tryz.func172 rfl Tryz.ntmps172 rfl rfl rfl ?_ ?_
 ·intro l Dd rec own0 w1 gh G' hne hG' hGl hrec hasg hbd hown hgh
  obtain ⟨G1, hG1⟩ : ∃ G1 : Globs, @Globs.gs G1 = (Dd, .deferred (some [])) :: @Globs.gs globs := ⟨⟨_⟩, rfl⟩
  have hGs : @Globs.gs G' = (l, .loop rec) :: @Globs.gs G1 := by rw [hG', hG1]
  have ct := @cycles_tri G1 G' l rec _ _ _ _ _ hGs (fun q hq => by
   rw [hG1] at hq
   rcases yP.1 hq with rfl | hq
   ·exact fun e => hne e.symm
   ·exact hGl q hq) (fun p hp => by rw [hG']; exact uq _ (uq _ hp)) hrec hasg hbd rfl rfl n o.1 (fun A0 own0 w gh out out' z hz => ?_) out ho2 A own0 w1 gh ⟨hown, fun q hq => by
    have : q = (7, .loc 0 0) := by simpa using hq
    subst this
    exact hgh 7 _ rfl⟩
  ·rw [zfa Tryz.func172 rfl] at ct
   exact ct
  ·refine .z I <| .nil ⟨rfl, fun own0 w => ?_⟩
   refine .p I (.loadLoc1 I I I dY145 I) <| .m I <| .p I (.buildSl [_] I I dE145 I (fun _ => I) I (enc := LI)) <| .app I I I I I I I I dE145 I (fun _ => I) hz <| .store I I I I I I (.cons (.vec I ?_) .nil) dC145 I (yh I) <| .nil ⟨rfl, rfl⟩
   simp
 ·intro Dd H2 G' hG' ⟨X, hX⟩
  subst hX
  have hsub : ∀ p ∈ @Globs.gs globs, p ∈ @Globs.gs G' := fun p hp => by rw [hG']; exact uq _ hp
  refine Tri.ge (t := ⟨[(7, .loc 0 0)], HT out⟩) ⟨X, rfl, rfl, rfl, rfl, trivial⟩ ?_ rfl
  refine .sr <| .p I (.loadLoc1 I I I dY145 I) <| .sort1 (enc := LI) (l := out) Tryz.sortLL I I I I dK173 dK174 I I I I (fun _ => I) (fun _ => I) hsort (fun a b v hv => Pure.widen hsub (zhX _ _ _ _ hv)) <| .nil <| .sr <| .p I (.loadLoc1 I I I dY145 I) <| .z I <| .nil <| .ret ⟨rfl, zbk I (.vec I ?_)⟩
  simp [sortO_length hsort]
theorem zhV (n t0 t1 t2 t3 r) (h : zg n t0 t1 t2 t3 = some r) : Pure pg 63 [eK t0, Constraint.enc t1, Action.enc t2, Action.enc t3] (eR r) := by
 refine Pure.ot Tryz.func63 I Tryz.ntmps63 I fun A w => .S 3 I<|.p I (.nilS 1 (α := List Row) eH I)<|.nil<|.sr<|.p I (.makeFunc I I)<|.A 1 I<|.nil<|.S 5 I<|bK h fun x1 q1 h => .makeVec (enc := D.bool) (z := (false : Bool)) I I I I E144 I I I (.val Zv4) q1<|.A 1 I<|.nil<|.seq<|.S 1 I<|.p I (.lenV I U144 I I I)<|.A 1 I<|.nil<|.K [0,5,6,7,9,10,29,30] I<|.block<|.L [0,5,6,7,9,29] h (fun v => [(10, .vec 0 (List.length v.1)), (30, .d (.int v.2))]) (fun v => [(0, .vec 4 1 (List.map D.bool v.1))]) I fun _ ⟨b0_14, x15⟩ h => .sA 1 I<|.K [0,5,6,7,9,10,29,30,31] I<|.seq<|.condS I h (fun h => ?_) fun h => ?_
 ·refine .skip<|.seq<|.block<|.sA 2 I<|.draw 16 Hm (by kernel_rfl) (by kernel_rfl)<|.A 7 I<|.X h I fun x17 h => .A 4 I<|bK h fun x18 q18 h => .p I (.dyn I I I ⟨_, _, I, K113, zd4 _ _ _ _ _ _ q18⟩)<|.A 2 I<|bK h fun x19 q19 h => .p I (.idxV I I I I I U144 S4 q19)<|.nil<|bK h fun b0_20 hb0_20 h => .storeEl (enc := D.bool) I I I I I I I I I C4 hb0_20<|.relen 10 I (zdb hb0_20)<|.relen 33 I (zdb hb0_20)<|.nil<|.K [0,5,6,7,9,10,29,30] I<|.rA 2 I (ndE h I)
 ·refine .exit<|.S 1 I<|.nilVec 12 1 49 I<|.nil<|.seq<|.seq<|.freezes [0] (.cons (t := 10) I (.vec (inIds I) I (by simp)) .nil)<|.region<|.A 3 I<|.Z h I (ziM _ _ _) fun x22 h => .p I (.len I U145 I)<|.A 1 I<|.nil<|.block<|.L [5,6,7,9,53,54] h (fun v => [(12, .vec 1 (List.length v.1)), (55, .d (.int v.2))]) (fun v => [(1, .vec 49 1 (List.map eH v.1))]) I fun _ ⟨b1_117, x118⟩ h => .sA 1 I<|.K [5,6,7,9,12,53,54,55,56] I<|.seq<|.condS I h (fun h => ?_) fun h => ?_
  ·refine .skip<|.J [5,6,7,9,53,54,55] h (fun v => [(12, .vec 1 (List.length v))]) (fun v => [(1, .vec 49 1 (List.map eH v))]) I (fun k_121 h => ?_) (fun b1_120 h => ?_)
   ·refine .block<|.sr<|.X h I fun x122 h => .A 2 I<|.nil<|.S 1 I<|.nilVec 15 2 33 I<|.nil<|.sA 2 I<|.seq<|.S 1 I<|.p I (.len I U22 I)<|.A 1 I<|.nil<|.block<|.L [5,6,7,9,12,14,53,54,55,59,60] h (fun v => [(15, .vec 2 (List.length v.1)), (16, .d (.bool v.2.1)), (17, .d (.bool v.2.2.1)), (61, .d (.int v.2.2.2))]) (fun v => [(2, .vec 33 2 (List.map Row.enc v.1))]) I fun _ ⟨b2_149, x150, x151, x152⟩ h => .sA 1 I<|.K [5,6,7,9,12,14,15,16,17,53,54,55,59,60,61,62] I<|.seq<|.condS I h (fun h => ?_) fun h => ?_
    ·refine .skip<|.seq<|.block<|.S 1 I<|.X h I fun x154 h => .A 3 I<|.nil<|.seq<|.draw 14 Hm (by kernel_rfl) (by kernel_rfl)<|.A 8 I<|.p I (.len I U22 I)<|bK h fun x155 q155 h => .p I (.rem6 I I I q155)<|.X h I fun x156 h => .A 3 I<|.nil<|.nil<|.K [5,6,7,9,12,14,15,16,17,20,53,54,55,59,60,61] I<|.seq<|.plain 20 I<|.A 2 I<|gK h fun c158 h => .jO 7 (decide (0 < ((zD n t2 (add64 t1.first (add64 (mul64 x154 t1.size) x156))).getD default))) I (fun b157 => ?_) ?_
     ·refine .A 5 I<|.q I (.call I (kC I) I (zaR _ _ _ _ (someD (impF c158 b157))))<|.A 1 I<|.nil I
     refine .A 2 I<|gK h fun c160 h => .jO 7 (decide (0 < ((zD n t3 (add64 t1.first (add64 (mul64 x154 t1.size) x156))).getD default))) I (fun b159 => ?_) ?_
     ·refine .A 5 I<|.q I (.call I (kC I) I (zaR _ _ _ _ (someD (impF c160 b159))))<|.A 1 I<|.nil I
     refine .nil<|.A 2 I<|.nil<|.K [5,6,7,9,12,14,15,16,17,20,53,54,55,59,60,61] I<|.draw 13 Hm (by kernel_rfl) (by kernel_rfl)<|.A 5 I<|.p I (.castD (Term.enc (⟨add64 t1.first (add64 (mul64 x154 t1.size) x156), (-1)⟩ : Term)) I (.build I Pl41 (.agg Zc41 (ds' := [_, _]) (.e .e1)) I I))<|.p I (.buildSl [_] I I E31 I (fun _ => I) I (enc := Term.enc))<|.A 2 I<|bK h fun x161 q161 h => .p I (.dyn I I I ⟨_, _, I, K113, zd4 _ _ _ _ _ _ q161⟩)<|.A 1 I<|.p I (.castD (Row.enc (⟨[(⟨add64 t1.first (add64 (mul64 x154 t1.size) x156), (-1)⟩ : Term)], sub64 x161 1⟩ : Row)) I (.build I Pl33 (.agg Zc33 (ds' := [_, _]) (.e .e1)) I I))<|.p I (.buildSl [_] I I E49 I (fun _ => I) I (enc := Row.enc))<|.nil<|bK h fun x162 q162 h => .app I I I I I I I I E49 I (fun _ => I) q162<|.A 1 I<|.nil<|.rA 2 I (ndE h I)
    ·refine .exit<|.seq<|.plain 4 I<|.A 2 I<|.jA 1 (x151) I (fun b163 => ?_) ?_
     ·refine .A 1 I<|.nil I
     refine .nil<|.nil<|.condS I h (fun h => ?_) fun h => ?_
     ·refine .freezes [2] (.cons (t := 15) I (.vec (inIds I) I (by simp)) .nil)<|.region<|.A 2 I<|.p I (.buildSl [_] I I E51 I (fun _ => I) I (enc := eH))<|bK h fun x164 q164 h => .app I I I I I I I I E51 I (fun _ => I) q164<|.A 1 I<|.nil (ndE h I)
     ·refine .skip (ndE h I)
   ·refine .rA 2 I (ndE h I)
  ·refine .exit<|.sA 2 I<|.ret ?_
   cases h
   exact zbk I (.vec I (by simp))
theorem zkj (n t0 r) (h : zbS n t0 = some r) : Pure pg 175 [eK t0] (.bool r) := by
 refine Pure.ot Tryz.func175 I Tryz.ntmps175 I fun A w => .sA 1 I<|.seq<|.S 1 I<|.p I (.len I U48 I)<|.A 1 I<|.nil<|.block<|.L [0,5,6] h (fun v => [(7, .d (.int v))]) (fun v => []) I fun _ x11 h => .sA 1 I<|.seq<|.condS I h (fun h => ?_) fun h => ?_
 ·refine .skip<|.seq<|.block<|.sr<|.X h I fun x13 h => .A 1 I<|.allocStore I I I I I I I I (by simp) I I Z87<|.nil<|.seq<|.plain 18 I<|.A 4 I<|.jO 3 (decide (1000000 < x13.lo)) I (fun b14 => ?_) ?_
  ·refine .A 3 I<|.nil I
  refine .A 1 I<|.jO 3 (decide (x13.hi < (-1000000))) I (fun b15 => ?_) ?_
  ·refine .A 3 I<|.nil I
  refine .A 1 I<|.jO 3 (decide (1000000 < x13.hi)) I (fun b16 => ?_) ?_
  ·refine .A 3 I<|.nil I
  refine .nil<|.nil<|.K [0,5,6,7,28] I<|.condS I h (fun h => ?_) fun h => ?_
  ·refine .sA 1 I<|.ret (rO h I)
  ·refine .skip<|.rA 2 I (ndE h I)
 ·refine .exit<|.S 1 I<|.p I (.len I U48 I)<|.A 2 I<|.nil<|.ret (rO h I)
theorem zjA (n t0 t1 r) (h : zbz n t0 t1 = some r) : Pure pg 178 [.int t0, Row.enc t1] (.bool r) := by
 refine Pure.ot Tryz.func178 I Tryz.ntmps178 I fun A w => .sA 2 I<|.sA 1 I<|.seq<|.S 2 I<|.p I (.len I U31 I)<|.A 1 I<|.nil<|.block<|.L [0,3,9,10] h (fun v => [(5, .d (.int v.1)), (11, .d (.int v.2))]) (fun v => []) I fun _ ⟨x15, x16⟩ h => .sA 1 I<|.seq<|.condS I h (fun h => ?_) fun h => ?_
 ·refine .skip<|.seq<|.block<|.sr<|.X h I fun x18 h => .A 1 I<|.allocStore I I I I I I I I (by simp) I I Z41<|.nil<|.seq<|.seq<|.plain 25 I<|.A 5 I<|.jO 4 (decide (t0 ≤ x18.cell)) I (fun b19 => ?_) ?_
  ·refine .A 4 I<|.nil I
  refine .A 1 I<|.jO 3 (x18.factor == 0) I (fun b20 => ?_) ?_
  ·refine .A 3 I<|.nil I
  refine .A 1 I<|.jO 3 (decide (x18.factor < (-1000))) I (fun b21 => ?_) ?_
  ·refine .A 3 I<|.nil I
  refine .A 1 I<|.jO 3 (decide (1000 < x18.factor)) I (fun b22 => ?_) ?_
  ·refine .A 3 I<|.nil I
  refine .nil<|.nil<|.K [0,3,7,9,10,11,39] I<|.condS I h (fun h => ?_) fun h => ?_
  ·refine .sA 1 I<|.ret (rO h I)
  ·refine .skip<|.rA 3 I<|.rA 2 I (ndE h I)
 ·refine .exit<|.seq<|.plain 8 I<|.A 4 I<|.jA 3 (decide (t1.bound ≤ 1000000000)) I (fun b23 => ?_) ?_
  ·refine .A 3 I<|.nil I
  refine .nil<|.A 1 I<|.nil<|.ret (rO h I)
theorem zhE (n t0 t1 r) (h : zbP n t0 t1 = some r) : Pure pg 177 [Row.enc t0, .ref (eK t1)] (.bool r) := by
 refine Pure.ot Tryz.func177 I Tryz.ntmps177 I fun A w => .sA 2 I<|.S 1 I<|.p I (.len I U48 I)<|.A 1 I<|.Z h I (zjA _ _ _) fun x1 h => .A 2 I<|.nil<|.ret (rO h I)
theorem zfj (n t0 t1 r) (h : zbD n t0 t1 = some r) : Pure pg 115 [eK t0, eH t1] (.bool r) := by
 refine Pure.ot Tryz.func115 I Tryz.ntmps115 I fun A w => .sA 2 I<|.seq<|.plain 8 I<|.A 1 I<|.Z h I (zkj _ _) fun x1 h => .A 1 I<|gK h fun c3 h => .jA 4 (!((zl n t1 (fun q0 => zbP n q0 t0)).getD default)) I (fun b2 => ?_) ?_
 ·refine .A 1 I<|.q I (.makeFunc I I)<|.q I (.call I (kC I) I (zbM _ _ _ _ (fun q0 y hq => ⟨_, _, I, K177, zhE _ q0 _ _ hq⟩) _ (someD (impT c3 b2))))<|.A 1 I<|.nil I
 refine .nil<|.A 1 I<|.nil<|.ret (rO h I)
theorem zc2 (n t0) (t1 : Range → Option Bool) (F1 : D) (hF1 : ∀ (q0 : Range) (y : Bool), t1 q0 = some y → Dyn pg F1 [Range.enc q0] (.bool y)) (r) (h : zB n t0 t1 = some r) : Pure pg 214 [eK t0, F1] (.int r) := by
 refine Pure.ot Tryz.func214 I Tryz.ntmps214 I fun A w => .sA 1 I<|.seq<|.S 1 I<|.p I (.len I U48 I)<|.A 1 I<|.nil<|.block<|.L [0,1,7] h (fun v => [(8, .d (.int v))]) (fun v => []) I fun _ x7 h => .sA 1 I<|.seq<|.condS I h (fun h => ?_) fun h => ?_
 ·refine .skip<|.seq<|.block<|.sA 2 I<|.S 3 I<|.X h I fun x9 h => .A 1 I<|bK h fun x10 q10 h => .p I (.dyn I I I (hF1 _ _ q10))<|.nil<|.condS I h (fun h => ?_) fun h => ?_
  ·refine .sA 2 I<|.ret (rO h I)
  ·refine .skip<|.rA 2 I (ndE h I)
 ·refine .exit<|.sA 1 I<|.ret (rO h I)
theorem zcK (n t0) (t1 : Range → Option Bool) (F1 : D) (hF1 : ∀ (q0 : Range) (y : Bool), t1 q0 = some y → Dyn pg F1 [Range.enc q0] (.bool y)) (r) (h : zan n t0 t1 = some r) : Pure pg 179 [eK t0, F1] (.bool r) := by
 refine Pure.ot Tryz.func179 I Tryz.ntmps179 I fun A w => .sA 1 I<|.S 2 I<|.Z h I (zc2 _ _ _ _ hF1) fun x1 h => .A 2 I<|.nil<|.ret (rO h I)
theorem ziU (n t0 r) (h : zeY n t0 = some r) : Pure pg 180 [Range.enc t0] (.bool r) := by
 refine Pure.ot Tryz.func180 I Tryz.ntmps180 I fun A w => .sA 2 I<|.sA 6 I<|.ret (rO h I)
theorem ziT (n t0 r) (h : zbZ n t0 = some r) : Pure pg 116 [eK t0] (.bool r) := by
 refine Pure.ot Tryz.func116 I Tryz.ntmps116 I fun A w => .sA 1 I<|.S 1 I<|.Z h I (zcK _ _ _ _ (fun q0 y hq => ⟨_, _, I, K180, ziU _ q0 _ hq⟩)) fun x1 h => .A 1 I<|.nil<|.ret (rO h I)
theorem zhu (n t0 t1 t2 r) (h : zdc n t0 t1 t2 = some r) : Pure pg 117 [System.enc t0, eH t1, .int t2] (.bool r) := by
 refine Pure.ot Tryz.func117 I Tryz.ntmps117 I fun A w => .sA 2 I<|.seq<|.plain 10 I<|.A 1 I<|.p I (.len I U49 I)<|.A 3 I<|gK h fun c2 h => .jA 4 (((zbD n t0.box t1).getD default)) I (fun b1 => ?_) ?_
 ·refine .A 3 I<|.q I (.call I (kC I) I (zfj _ _ _ _ (someD (impT c2 b1))))<|.nil I
 refine .nil<|.A 1 I<|.nil<|.ret (rO h I)
theorem zi7 (n t0 r) (h : ze8 n t0 = some r) : Pure pg 181 [.int t0] (.bool r) := by
 refine Pure.ot Tryz.func181 I Tryz.ntmps181 I fun A w => .sA 1 I<|.seq<|.plain 6 I<|.A 3 I<|.jO 2 (decide (4000000 < t0)) I (fun b1 => ?_) ?_
 ·refine .A 2 I<|.nil I
 refine .nil<|.A 1 I<|.nil<|.ret (rO h I)
theorem zkV (n t0 t1 r) (h : zeT n t0 t1 = some r) : Pure pg 118 [.int t0, Graph.enc t1] (.bool r) := by
 refine Pure.ot Tryz.func118 I Tryz.ntmps118 I fun A w => .sA 2 I<|.seq<|.seq<|.plain 36 I<|.A 4 I<|.jO 3 (decide (6 < t1.size)) I (fun b1 => ?_) ?_
 ·refine .A 3 I<|.nil I
 refine .A 1 I<|.jO 3 (decide (t1.first < 0)) I (fun b2 => ?_) ?_
 ·refine .A 3 I<|.nil I
 refine .A 1 I<|.jO 10 (decide (sub64 t0 (mul64 t1.size t1.size) < t1.first)) I (fun b3 => ?_) ?_
 ·refine .A 10 I<|.nil I
 refine .A 1 I<|.jO 9 ((t1.least.length : Int) != (mul64 t1.size t1.size)) I (fun b4 => ?_) ?_
 ·refine .A 2 I<|.q I (.len I U22 I)<|.A 6 I<|.nil I
 refine .nil<|.nil<|.K [3,40] I<|.condS I h (fun h => ?_) fun h => ?_
 ·refine .sA 1 I<|.ret (rO h I)
 ·refine .skip<|.S 2 I<|.Z h I (zaO _ _ _ _ (fun q0 y hq => ⟨_, _, I, K181, zi7 _ q0 _ hq⟩)) fun x5 h => .A 2 I<|.nil<|.ret (rO h I)
theorem zi6 (n t0 t1 r) (h : ze7 n t0 t1 = some r) : Pure pg 120 [eH t0, .ref (System.enc t1)] (.bool r) := by
 refine Pure.ot Tryz.func120 I Tryz.ntmps120 I fun A w => .sA 1 I<|.S 2 I<|.Z h I (zhu _ _ _ _) fun x1 h => .A 2 I<|.nil<|.ret (rO h I)
theorem zdX (n t0) (t1 : (List Row) → Option Bool) (F1 : D) (hF1 : ∀ (q0 : List Row) (y : Bool), t1 q0 = some y → Dyn pg F1 [eH q0] (.bool y)) (r) (h : zT n t0 t1 = some r) : Pure pg 182 [eR t0, F1] (.int r) := by
 refine Pure.ot Tryz.func182 I Tryz.ntmps182 I fun A w => .sA 1 I<|.seq<|.S 1 I<|.p I (.len I U51 I)<|.A 1 I<|.nil<|.block<|.L [0,1,7] h (fun v => [(8, .d (.int v))]) (fun v => []) I fun _ x7 h => .sA 1 I<|.seq<|.condS I h (fun h => ?_) fun h => ?_
 ·refine .skip<|.seq<|.block<|.sA 2 I<|.S 3 I<|.X h I fun x9 h => .A 1 I<|bK h fun x10 q10 h => .p I (.dyn I I I (hF1 _ _ q10))<|.nil<|.condS I h (fun h => ?_) fun h => ?_
  ·refine .sA 2 I<|.ret (rO h I)
  ·refine .skip<|.rA 2 I (ndE h I)
 ·refine .exit<|.sA 1 I<|.ret (rO h I)
theorem zdy (n t0) (t1 : (List Row) → Option Bool) (F1 : D) (hF1 : ∀ (q0 : List Row) (y : Bool), t1 q0 = some y → Dyn pg F1 [eH q0] (.bool y)) (r) (h : zaT n t0 t1 = some r) : Pure pg 119 [eR t0, F1] (.bool r) := by
 refine Pure.ot Tryz.func119 I Tryz.ntmps119 I fun A w => .sA 1 I<|.S 2 I<|.Z h I (zdX _ _ _ _ hF1) fun x1 h => .A 2 I<|.nil<|.ret (rO h I)
theorem zkT (n t0 r) (h : za3 n t0 = some r) : Pure pg 64 [System.enc t0] (.bool r) := by
 refine Pure.ot Tryz.func64 I Tryz.ntmps64 I fun A w => .sA 2 I<|.seq<|.seq<|.plain 28 I<|.A 2 I<|bK h fun x1 q1 h => .p I (.callLe I (kC I) I (.e .o1) (zfj _ _ _ _ q1))<|.A 2 I<|gK h fun c3 h => .jO 3 (((zbZ n t0.box).getD default)) I (fun b2 => ?_) ?_
 ·refine .A 2 I<|.q I (.call I (kC I) I (ziT _ _ _ (someD (impF c3 b2))))<|.nil I
 refine .A 1 I<|gK h fun c5 h => .jO 5 (!((zdc n t0 t0.rows 1024).getD default)) I (fun b4 => ?_) ?_
 ·refine .A 3 I<|.q I (.call I (kC I) I (zhu _ _ _ _ _ (someD (impF c5 b4))))<|.A 1 I<|.nil I
 refine .A 1 I<|.jO 4 (decide (64 < (t0.graphs.length : Int))) I (fun b6 => ?_) ?_
 ·refine .A 2 I<|.q I (.len I U50 I)<|.A 1 I<|.nil I
 refine .A 1 I<|.jO 4 (decide (1024 < (t0.cases.length : Int))) I (fun b7 => ?_) ?_
 ·refine .A 2 I<|.q I (.len I U51 I)<|.A 1 I<|.nil I
 refine .nil<|.nil<|.K [1,32] I<|.condS I h (fun h => ?_) fun h => ?_
 ·refine .sA 1 I<|.ret (rO h I)
 ·refine .skip<|.seq<|.S 2 I<|.p I (.len I U50 I)<|.A 1 I<|.nil<|.block<|.L [1,34,35] h (fun v => [(36, .d (.int v))]) (fun v => []) I fun _ x14 h => .sA 1 I<|.seq<|.condS I h (fun h => ?_) fun h => ?_
  ·refine .skip<|.seq<|.block<|.sr<|.X h I fun x16 h => .A 1 I<|.allocStore I I I I I I I I (by simp) I I Z99<|.nil<|.S 2 I<|.p I (.len I U48 I)<|.A 1 I<|.Z h I (zkV _ _ _) fun x17 h => .A 1 I<|.nil<|.condS I h (fun h => ?_) fun h => ?_
   ·refine .sA 1 I<|.ret (rO h I)
   ·refine .skip<|.rA 2 I (ndE h I)
  ·refine .exit<|.S 2 I<|.p I (.makeFunc I I)<|.Z h I (zdy _ _ _ _ (fun q0 y hq => ⟨_, _, I, K120, zi6 _ q0 _ _ hq⟩)) fun x18 h => .A 2 I<|.nil<|.ret (rO h I)
theorem zek (n t0 t1 t2 r) (h : ze n t0 t1 t2 = some r) : Pure pg 19 [Model.enc t0, Question.enc t1, eA t2] (.tup [System.enc r.1, .int r.2]) := by
 refine Pure.ot Tryz.func19 I Tryz.ntmps19 I fun A w => .S 2 I<|.allocZ I I I I (.agg Zc53 (ds' := [eK [], eH [], eO [], eR []]) (.o (.o (.o .o1)))) I<|.A 1 I<|.nil<|.seq<|.S 2 I<|.Z h I (zfz _ _ _) fun x1 h => .A 1 I<|.nil<|.condS I h (fun h => ?_) fun h => ?_
 ·refine .sr<|.p I (.castD (System.enc (⟨[], [], [], []⟩ : System)) I (.build I Pl53 (.agg Zc53 (ds' := [eK [], eH [], eO [], eR []]) (.o (.o (.o .o1)))) I I))<|.store I I I I I I (.ofD I) C53 I (yh I)<|.A 1 I<|.nil<|.ret ?_
  cases h
  exact zfv I I Y53 (.v (.v (.v .v1))) I (.d _)
 ·refine .skip<|.seq<|.S 1 I<|.p I (.len I U22 I)<|.A 1 I<|.nil<|.block<|.L [2,3,4,6,31,32] h (fun v => [(33, .d (.int v))]) (fun v => []) I fun _ x12 h => .sA 1 I<|.seq<|.condS I h (fun h => ?_) fun h => ?_
  ·refine .skip<|.seq<|.block<|.sr<|.X h I fun x14 h => .A 2 I<|.nil<|.seq<|.plain 18 I<|.A 3 I<|.jO 5 (decide ((t0.constraints.length : Int) ≤ x14)) I (fun b15 => ?_) ?_
   ·refine .A 3 I<|.q I (.len I U25 I)<|.A 1 I<|.nil I
   refine .A 1 I<|gK h fun c17 h => .jO 7 ((((idx t0.constraints x14).getD default).kind) != 0) I (fun b16 => ?_) ?_
   ·refine .A 3 I<|.q I (.ix I U25 S78 (someD (impF c17 b16)))<|.A 3 I<|.nil I
   refine .nil<|.nil<|.K [2,3,4,6,31,32,33,54] I<|.condS I h (fun h => ?_) fun h => ?_
   ·refine .sr<|.p I (.castD (System.enc (⟨[], [], [], []⟩ : System)) I (.build I Pl53 (.agg Zc53 (ds' := [eK [], eH [], eO [], eR []]) (.o (.o (.o .o1)))) I I))<|.store I I I I I I (.ofD I) C53 I (yh I)<|.A 1 I<|.nil<|.ret ?_
    cases h
    exact zfv I I Y53 (.v (.v (.v .v1))) I (.d _)
   ·refine .skip<|.rA 2 I (ndE h I)
  ·refine .exit<|.seq<|.draw 16 Hm (by kernel_rfl) (by kernel_rfl)<|.A 4 I<|.X h I fun x18 h => .A 5 I<|.X h I fun x19 h => .A 1 I<|.alloc I I I I ZZ84<|.alloc I I I I ZZ84<|.store I I I I I I Z84<|.store I I I I I I Z84<|.nil<|.freezes [1, 2] (.cons (t := 10) (d := .ref (Action.enc x18)) I (.loc (inIds I) I (.v (.v (.v (.v .v1))))) (.cons (t := 11) (d := .ref (Action.enc x19)) I (.loc (inIds I) I (.v (.v (.v (.v .v1))))) .nil))<|.nil<|.K [2,3,4,6,10,11] I<|.S 1 I<|.Z h I (zkx _ _) fun x20 h => .p I (.build I Pl53 (.agg Zc53 (ds' := [_, .val (.slice none 0 0), .val (.slice none 0 0), eR []]) (.e (.e (.e .o1)))) I I)<|.allocZ I I I I (.agg Zc53 (ds' := [eK [], .val (.slice none 0 0), .val (.slice none 0 0), eR []]) (.o (.e (.e .o1)))) I<|.nilCell 3 1 2 33 I I<|.nilCell 3 2 3 99 I I<|.store I I I I I I (.ofD I) C53 I (yh I)<|.nilCell 3 1 2 33 I I<|.nilCell 3 2 3 99 I I<|.nil<|.seq<|.S 2 I<|.p I (.len I U25 I)<|.A 1 I<|.nil<|.block<|.L [2,3,4,6,10,11,12,73,74] h (fun v => [(75, .d (.int v.2))]) (fun v => [(3, .box 53 [.d (eK x20), .vec 6 (List.length v.1), .vec 7 (List.length ([] : List Graph)), .d (eR [])]), (6, .vec 33 2 (List.map Row.enc v.1))]) I fun _ ⟨b6_49, x50⟩ h => .sA 1 I<|.K [2,3,4,6,10,11,12,73,74,75,76] I ?_
   refine .seq<|.condS I h (fun h => ?_) fun h => ?_
   ·refine .skip<|.J [2,3,4,6,10,11,12,73,74,75] h (fun v => []) (fun v => [(3, .box 53 [.d (eK x20), .vec 6 (List.length v), .vec 7 (List.length ([] : List Graph)), .d (eR [])]), (6, .vec 33 2 (List.map Row.enc v))]) I (fun k_53 h => ?_) (fun b6_52 h => ?_)
    ·refine .block<|.S 1 I<|.X h I fun x54 h => .A 1 I<|.allocZ I I I I (.agg Zc78 (ds' := [.int 0, .int 0, eL [], .int 0, .int 0, .int 0]) (.e (.e (.o (.e (.e .e1)))))) I<|.A 1 I<|.store I I I I I I (.ofD I) C78 I (yh I)<|.nil<|.seq<|.sr<|.p I (.fieldAddrLoc I I I F78_0)<|.p I (.loadLoc1 I I I Y3 I)<|.A 1 I<|.nil<|.condS I h (fun h => ?_) fun h => ?_
     ·refine .exit (ndE h I)
     ·refine .skip<|.seq<|.draw 10 Hm (by kernel_rfl) (by kernel_rfl)<|.A 1 I<|.p I (.fieldAddrLoc I I I F78_2)<|.p I (.loadLoc I I I Y33 (yh I) (v := .d (Row.enc x54.row)) I)<|.Z h I (zaq _ _ _) fun x55 h => .A 1 I<|.p I (.fieldAddrLoc I I I F78_2)<|.p I (.loadLoc I I I Y33 (yh I) (v := .d (Row.enc x54.row)) I)<|.Z h I (zaq _ _ _) fun x56 h => .A 2 I<|.nil<|.nil<|.K [2,3,4,6,10,11,12,13,14,15,16,73,74,75] I<|.S 2 I<|.p I (.max3 I I I I)<|.A 1 I<|.nil<|.J [2,3,4,6,10,11,12,14,73,74,75] h (fun v => [(17, .d (.int v))]) (fun v => []) I (fun k_58 h => ?_) (fun x57 h => ?_)
      ·refine .seq<|.plain 15 I<|.A 2 I<|.Z h I (zcM _ _ _) fun x59 h => .A 1 I<|.jA 10 (t1.target.hold || (t1.target.index != x50)) I (fun b60 => ?_) ?_
       ·refine .q I (.fa I (G37_2 _))<|.A 3 I<|.jOr 5 (b2 := t1.target.index != x50) I I I I (.inr ⟨_, _, _, I, I, I⟩) (fun _ _ _ h1 h2 => by cases h1; cases h2; decide) I I (fun b61 => ?_) ?_
        ·refine .q I (.fa I (G37_2 _))<|.A 4 I<|.nil I
        exact .nil I
       refine .nil<|.nil<|.K [2,3,4,6,10,11,12,14,15,16,17,73,74,75,108] I<|.condS I h (fun h => ?_) fun h => ?_
       ·refine .region<|.A 4 I<|.p I (.max2 I I I)<|.A 1 I<|.nil (ndE h I)
       ·refine .skip (ndE h I)
      ·refine .draw 8 Hm (by kernel_rfl) (by kernel_rfl)<|.p I (.fieldAddrLoc I I I F53_1)<|.p I (.loadLoc1 I I I Y49 I)<|.p I (.fieldAddrLoc I I I F78_2)<|.p I (.loadLoc I I I Y33 (yh I) (v := .d (Row.enc x54.row)) I)<|.A 1 I<|.p I (.call I (kC I) I (ziK n x57))<|.Z h I (zb5 _ _ _ _ _ (fun q0 y hq => ⟨_, _, I, K51, zdG _ q0 _ hq⟩) _ (fun q0 y hq => ⟨_, _, I, K112, zhC _ q0 _ _ hq⟩)) fun x62 h => .p I (.buildSl [_] I I E49 I (fun _ => I) I (enc := Row.enc))<|.nil<|bK h fun x63 q63 h => .app I I I I I I I I E49 I (fun _ => I) q63<|.p I (.fieldAddrLoc I I I F53_1)<|.store I I I I I I (.cons (.vec I (by simp)) .nil) C49 I (yh I)<|.nil (ndE h I)
    ·refine .rA 2 I (ndE h I)
   ·refine .exit<|.sr<|.p I (.fa I (G84_2 _))<|.A 2 I<|bK h fun x64 q64 h => .clone (enc := Row.enc) I I I I K53 Tryz.func53 I I I I E49 I (fun _ => I) (fun _ => I) q64 I I<|.A 1 I<|.nil<|.J [3,4,6,10,11,12] h (fun v => [(18, .vec 8 (List.length v))]) (fun v => [(8, .vec 33 2 (List.map Row.enc v))]) I (fun k_66 h => ?_) (fun b8_65 h => ?_)
    ·refine .sA 5 I<|.condS I h (fun h => ?_) fun h => ?_
     ·refine .region<|.A 1 I<|.p I (.fa I (G84_2 _))<|.A 2 I<|bK h fun x67 q67 h => .app I I I I I I I I E49 I (fun _ => I) q67<|.A 1 I<|.nil (ndE h I)
     ·refine .skip (ndE h I)
    ·refine .seq<|.S 1 I<|.p I (.lenV I U49 I I I)<|.A 1 I<|.nil<|.K [3,4,6,10,11,12,139,140,141] I<|.block<|.L [3,4,6,10,11,12,139,140] h (fun v => [(141, .d (.int v.2))]) (fun v => [(3, .box 53 [.d (eK x20), .vec 6 (List.length v.1), .vec 7 (List.length ([] : List Graph)), .d (eR [])]), (6, .vec 33 2 (List.map Row.enc v.1))]) I fun _ ⟨b6_78, x79⟩ h => .sA 1 I<|.K [3,4,6,10,11,12,139,140,141,142] I<|.seq<|.condS I h (fun h => ?_) fun h => ?_
     ·refine .skip<|.seq<|.block<|.sr<|bK h fun x81 q81 h => .p I (.idxV I I I I I U49 S33 q81)<|.p I (.loadEl I I I I q81 Y33 I)<|.allocStore I I I I I I I I (by simp) I I Z33<|.nil<|.draw 5 Hm (by kernel_rfl) (by kernel_rfl)<|.p I (.fieldAddrLoc I I I F53_1)<|.p I (.loadLoc1 I I I Y49 I)<|.A 1 I<|.Z h I (zb5 _ _ _ _ _ (fun q0 y hq => ⟨_, _, I, K51, zdG _ q0 _ hq⟩) _ (fun q0 y hq => ⟨_, _, I, K51, zdG _ q0 _ hq⟩)) fun x82 h => .p I (.buildSl [_] I I E49 I (fun _ => I) I (enc := Row.enc))<|.nil<|bK h fun x83 q83 h => .app I I I I I I I I E49 I (fun _ => I) q83<|.p I (.fieldAddrLoc I I I F53_1)<|.store I I I I I I (.cons (.vec I (by simp)) .nil) C49 I (yh I)<|.nil<|.rA 2 I (ndE h I)
     ·refine .exit<|.sr<|.p I (.makeFuncV I I)<|.A 1 I<|.nil<|.sr<|.p I (.castD (Constraint.enc (⟨0, 0, (⟨[], 0⟩ : Row), 0, 0⟩ : Constraint)) I (.build I Pl78 (.agg Zc78 (ds' := [_, _, eL [], _, _, _]) (.e (.e (.o (.e (.e .e1)))))) I I))<|.allocZ I I I I (.agg Zc78 (ds' := [.int 0, .int 0, eL [], .int 0, .int 0, .int 0]) (.e (.e (.o (.e (.e .e1)))))) I<|.store I I I I I I (.ofD I) C78 I (yh I)<|.nil<|.J [3,4,6,10,11,12,22] h (fun v => []) (fun v => [(3, .box 53 [.d (eK x20), .vec 6 (List.length v.1), .vec 7 (List.length ([] : List Graph)), .d (eR [])]), (6, .vec 33 2 (List.map Row.enc v.1)), (9, .box 78 [.d (.int v.2.1), .d (.int v.2.2.1), .d (eL v.2.2.2.1), .d (.int v.2.2.2.2.1), .d (.int v.2.2.2.2.2.1), .d (.int v.2.2.2.2.2.2)])]) I (fun k_91 h => ?_) (fun v h => ?_)
      ·refine .sr<|.p I (.fa I (G37_2 _))<|.A 2 I<|.nil<|.condS I h (fun h => ?_) fun h => ?_
       ·refine .sr<|.p I (.fa I (G84_2 _))<|.A 2 I<|.p I (.fa I (G37_2 _))<|.A 2 I<|.X h I fun x92 h => .A 1 I<|.allocStore I I I I I I I I (by simp) I I Z33<|.nil<|.K [3,4,6,10,11,12,21,22,23] I<|.draw 5 Hm (by kernel_rfl) (by kernel_rfl)<|.A 4 I<|.Z h I (zaq _ _ _) fun x93 h => .nil<|.inline (rs := []) I I (.clos I I K54 I) Tryz.func54 I Tryz.ntmps54 I I I I (fun own0 w gh => ?_)
        refine .sA 2 I<|.K [2,3,4] I<|.draw 6 Hm (by kernel_rfl) (by kernel_rfl)<|.p I (.fieldAddrLoc I I I F53_1)<|.p I (.loadLoc1 I I I Y49 I)<|.A 1 I<|.p I (.makeFunc I I)<|.Z h I (zb5 _ _ _ _ _ (fun q0 y hq => ⟨_, _, I, K55, zd5 _ q0 _ hq⟩) _ (fun q0 y hq => ⟨_, _, I, K56, zdn _ q0 _ _ hq⟩)) fun x94 h => .p I (.buildSl [_] I I E49 I (fun _ => I) I (enc := Row.enc))<|.nil<|bK h fun x95 q95 h => .app I I I I I I I I E49 I (fun _ => I) q95<|.p I (.fieldAddrLoc I I I F53_1)<|.store I I I I I I (.cons (.vec I (by simp)) .nil) C49 I (yh I)<|.nil <| ⟨.inr I, _, I, ?_⟩
        refine .nil (ndE h I)
       ·refine .S 2 I<|.p I (.fa I (G37_2 _))<|.A 2 I<|.X h I fun x96 h => .A 1 I<|.store I I I I I I (.ofD I) C78 I (yh I)<|.nil<|.K [3,4,6,10,11,12,21,22] I<|.sr<|.p I (.fieldAddrLoc I I I F78_0)<|.p I (.loadLoc1 I I I Y3 I)<|.A 1 I<|.nil<|.condS I h (fun h => ?_) fun h => ?_
        ·refine .draw 12 Hm (by kernel_rfl) (by kernel_rfl)<|.A 1 I<|.p I (.fieldAddrLoc I I I F78_2)<|.p I (.loadLoc I I I Y33 (yh I) (v := .d (Row.enc x96.row)) I)<|.A 1 I<|.p I (.fieldAddrLoc I I I F78_2)<|.p I (.loadLoc I I I Y33 (yh I) (v := .d (Row.enc x96.row)) I)<|.Z h I (zaq _ _ _) fun x97 h => .A 1 I<|.p I (.fieldAddrLoc I I I F78_2)<|.p I (.loadLoc I I I Y33 (yh I) (v := .d (Row.enc x96.row)) I)<|.Z h I (zaq _ _ _) fun x98 h => .A 1 I<|.nil<|.inline (rs := []) I I (.clos I I K54 I) Tryz.func54 I Tryz.ntmps54 I I I I (fun own0 w gh => ?_)
         refine .sA 2 I<|.K [2,3,4] I<|.draw 6 Hm (by kernel_rfl) (by kernel_rfl)<|.p I (.fieldAddrLoc I I I F53_1)<|.p I (.loadLoc1 I I I Y49 I)<|.A 1 I<|.p I (.makeFunc I I)<|.Z h I (zb5 _ _ _ _ _ (fun q0 y hq => ⟨_, _, I, K55, zd5 _ q0 _ hq⟩) _ (fun q0 y hq => ⟨_, _, I, K56, zdn _ q0 _ _ hq⟩)) fun x99 h => .p I (.buildSl [_] I I E49 I (fun _ => I) I (enc := Row.enc))<|.nil<|bK h fun x100 q100 h => .app I I I I I I I I E49 I (fun _ => I) q100<|.p I (.fieldAddrLoc I I I F53_1)<|.store I I I I I I (.cons (.vec I (by simp)) .nil) C49 I (yh I)<|.nil <| ⟨.inr I, _, I, ?_⟩
         refine .nil (ndE h I)
        ·refine .skip (ndE h I)
      ·obtain ⟨b6_84, c9_0_85, c9_1_86, c9_2_87, c9_3_88, c9_4_89, c9_5_90⟩ := v
       refine .seq<|.S 2 I<|.p I (.len I U25 I)<|.A 1 I<|.nil<|.K [4,6,10,11,12,22,196,197,198] I<|.block<|.L [4,6,10,11,12,22,196,197] h (fun v => [(198, .d (.int v.2))]) (fun v => [(3, .box 53 [.d (eK x20), .vec 6 (List.length b6_84), .vec 7 (List.length v.1), .d (eR [])]), (7, .vec 99 3 (List.map Graph.enc v.1))]) I fun _ ⟨b7_133, x134⟩ h => .sA 1 I<|.K [4,6,10,11,12,22,196,197,198,199] I<|.seq<|.condS I h (fun h => ?_) fun h => ?_
       ·refine .skip<|.J [4,6,10,11,12,22,196,197,198] h (fun v => []) (fun v => [(3, .box 53 [.d (eK x20), .vec 6 (List.length b6_84), .vec 7 (List.length v), .d (eR [])]), (7, .vec 99 3 (List.map Graph.enc v))]) I (fun k_137 h => ?_) (fun b7_136 h => ?_)
        ·refine .block<|.sr<|.X h I fun x138 h => .A 1 I<|.allocStore I I I I I I I I (by simp) I I Z78<|.nil<|.seq<|.sA 3 I<|.condS I h (fun h => ?_) fun h => ?_
         ·refine .exit (ndE h I)
         ·refine .skip<|.seq<|.draw 5 Hm (by kernel_rfl) (by kernel_rfl)<|.p I (.fieldAddrLoc I I I F53_2)<|.p I (.loadLoc1 I I I Y50 I)<|.A 1 I<|.Z h I (zdo _ _ _ _ (fun q0 y hq => ⟨_, _, I, K58, zgf _ q0 _ hq⟩)) fun x139 h => .p I (.buildSl [_] I I E50 I (fun _ => I) I (enc := Graph.enc))<|.nil<|bK h fun x140 q140 h => .app I I I I I I I I E50 I (fun _ => I) q140<|.p I (.fieldAddrLoc I I I F53_2)<|.store I I I I I I (.cons (.vec I (by simp)) .nil) C50 I (yh I)<|.nil<|.J [4,6,10,11,12,22,25,196,197,198] h (fun v => []) (fun v => [(3, .box 53 [.d (eK x20), .vec 6 (List.length b6_84), .vec 7 (List.length v), .d (eR [])]), (7, .vec 99 3 (List.map Graph.enc v))]) I (fun k_142 h => ?_) (fun b7_141 h => ?_)
          ·refine .S 2 I<|.Z h I (zcg _ _ _) fun x143 h => .p I (.len I U22 I)<|.A 1 I<|.nil<|.K [4,6,10,11,12,22,25,196,197,198,216] I<|.condS I h (fun h => ?_) fun h => ?_
           ·refine .draw 6 Hm (by kernel_rfl) (by kernel_rfl)<|.p I (.fieldAddrLoc I I I F53_2)<|.p I (.loadLoc1 I I I Y50 I)<|.A 1 I<|.p I (.makeFunc I I)<|.Z h I (zdo _ _ _ _ (fun q0 y hq => ⟨_, _, I, K60, zgg _ q0 _ _ hq⟩)) fun x144 h => .p I (.buildSl [_] I I E50 I (fun _ => I) I (enc := Graph.enc))<|.nil<|bK h fun x145 q145 h => .app I I I I I I I I E50 I (fun _ => I) q145<|.p I (.fieldAddrLoc I I I F53_2)<|.store I I I I I I (.cons (.vec I (by simp)) .nil) C50 I (yh I)<|.nil (ndE h I)
           ·refine .skip (ndE h I)
          ·refine .seq<|.plain 12 I<|.A 6 I<|gK h fun c147 h => .jA 5 (decide (0 < (((zn n x19 x138).getD default).length : Int))) I (fun b146 => ?_) ?_
           ·refine .A 2 I<|.q I (.call I (kC I) I (zcg _ _ _ _ (someD (impT c147 b146))))<|.q I (.len I U22 I)<|.A 1 I<|.nil I
           refine .nil<|.nil<|.K [4,6,10,11,12,22,25,196,197,198,236] I<|.condS I h (fun h => ?_) fun h => ?_
           ·refine .draw 6 Hm (by kernel_rfl) (by kernel_rfl)<|.p I (.fieldAddrLoc I I I F53_2)<|.p I (.loadLoc1 I I I Y50 I)<|.A 1 I<|.p I (.makeFunc I I)<|.Z h I (zdo _ _ _ _ (fun q0 y hq => ⟨_, _, I, K62, zgh _ q0 _ _ hq⟩)) fun x148 h => .p I (.buildSl [_] I I E50 I (fun _ => I) I (enc := Graph.enc))<|.nil<|bK h fun x149 q149 h => .app I I I I I I I I E50 I (fun _ => I) q149<|.p I (.fieldAddrLoc I I I F53_2)<|.store I I I I I I (.cons (.vec I (by simp)) .nil) C50 I (yh I)<|.nil (ndE h I)
           ·refine .skip (ndE h I)
        ·refine .rA 2 I (ndE h I)
       ·refine .exit<|.J [6,12] h (fun v => []) (fun v => [(3, .box 53 [.d (eK x20), .vec 6 (List.length v.1), .vec 7 (List.length b7_133), .d (eR v.2)]), (6, .vec 33 2 (List.map Row.enc v.1))]) I (fun k_152 h => ?_) (fun v h => ?_)
        ·refine .sr<|.p I (.fieldAddrLoc I I I F78_0)<|.p I (.loadLoc1 I I I Y3 I)<|.A 1 I<|.nil<|.condS I h (fun h => ?_) fun h => ?_
         ·refine .sr<|.p I (.fieldAddrLoc I I I F53_0)<|.p I (.loadLoc1 I I I Y48 I)<|.p I (.loadLoc I I I Y78 (yh I) (v := .d (Constraint.enc (⟨c9_0_85, c9_1_86, (⟨c9_2_87, c9_3_88⟩ : Row), c9_4_89, c9_5_90⟩ : Constraint))) I)<|.A 2 I<|.Z h I (zhV _ _ _ _ _) fun x153 h => .p I (.fieldAddrLoc I I I F53_3)<|.store I I I I I I (.ofD I) C51 I (yh I)<|.nil<|.sr<|.p I (.fieldAddrLoc I I I F53_3)<|.p I (.loadLoc1 I I I Y51 I)<|.p I (.len I U51 I)<|.A 1 I<|.nil<|.condS I h (fun h => ?_) fun h => ?_
          ·refine .region<|.p I (.fieldAddrLoc I I I F53_1)<|.p I (.loadLoc1 I I I Y49 I)<|.p I (.castD (Row.enc (⟨[], (-1)⟩ : Row)) I (.build I Pl33 (.agg Zc33 (ds' := [eL [], _]) (.o .e1)) I I))<|.p I (.buildSl [_] I I E49 I (fun _ => I) I (enc := Row.enc))<|bK h fun x154 q154 h => .app I I I I I I I I E49 I (fun _ => I) q154<|.p I (.fieldAddrLoc I I I F53_1)<|.store I I I I I I (.cons (.vec I (by simp)) .nil) C49 I (yh I)<|.nil (ndE h I)
          ·refine .skip (ndE h I)
         ·refine .skip (ndE h I)
        ·obtain ⟨b6_150, c3_3_151⟩ := v
         refine .seq<|.sr<|.p I (.loadLoc I I I Y53 (yh I) I)<|bK h fun x155 q155 h => .p I (.callB I (kC I) (.cons I (.agg (.v (.cons (.vec I (by simp)) (.cons (.vec I (by simp)) .v1)))) .nil) I (zkT _ _ _ q155))<|.A 1 I<|.nil<|.K [6,12,268] I<|.condS I h (fun h => ?_) fun h => ?_
         ·refine .sr<|.p I (.castD (System.enc (⟨[], [], [], []⟩ : System)) I (.build I Pl53 (.agg Zc53 (ds' := [eK [], eH [], eO [], eR []]) (.o (.o (.o .o1)))) I I))<|.store I I I I I I (.ofD I) C53 I (yh I)<|.A 1 I<|.nil<|.ret ?_
          cases h
          exact zfv I I Y53 (.v (.v (.v .v1))) I (.d _)
         ·refine .skip<|.sr<|.p I (.loadLoc I I I Y53 (yh I) I)<|.store I I I I I I (.cons (.d I) (.cons (.vec I (by simp)) (.cons (.vec I (by simp)) (.cons (.d I) .nil)))) C53 I (yh I)<|.A 1 I<|.nil<|.ret ?_
          cases h
          exact zfv I I Y53 (.v (.cons (.vec I (by simp)) (.cons (.vec I (by simp)) .v1))) I (.d _)
theorem zfd (n t0 t1 r) (h : zcZ n t0 t1 = some r) : Pure pg 44 [Model.enc t0, Question.enc t1] (.bool r) := by
 refine Pure.ot Tryz.func44 I Tryz.ntmps44 I fun A w => .sA 3 I<|.seq<|.draw 16 Hm (by kernel_rfl) (by kernel_rfl)<|.A 4 I<|.X h I fun x1 h => .A 5 I<|.X h I fun x2 h => .A 1 I<|.alloc I I I I ZZ84<|.alloc I I I I ZZ84<|.store I I I I I I Z84<|.store I I I I I I Z84<|.nil<|.freezes [0, 1] (.cons (t := 5) (d := .ref (Action.enc x1)) I (.loc (inIds I) I (.v (.v (.v (.v .v1))))) (.cons (t := 6) (d := .ref (Action.enc x2)) I (.loc (inIds I) I (.v (.v (.v (.v .v1))))) .nil))<|.nil<|.K [2,3,5,6] I<|.seq<|.sr<|.p I (.fa I (G37_2 _))<|.A 2 I<|.nil<|.condS I h (fun h => ?_) fun h => ?_
 ·refine .seq<|.draw 12 Hm (by kernel_rfl) (by kernel_rfl)<|.A 1 I<|.p I (.fa I (G84_2 _))<|.A 2 I<|.p I (.fa I (G37_2 _))<|.A 2 I<|.X h I fun x3 h => .A 1 I<|.Z h I (zaq _ _ _) fun x4 h => .A 2 I<|.nil<|.nil<|.ret (rO h I)
 ·refine .skip<|.S 2 I<|.p I (.fa I (G37_2 _))<|.A 2 I<|.X h I fun x5 h => .A 1 I<|.allocStore I I I I I I I I (by simp) I I Z78<|.nil<|.seq<|.sA 3 I<|.condS I h (fun h => ?_) fun h => ?_
  ·refine .seq<|.plain 12 I<|.A 1 I<|.p I (.fa I (G78_2 _))<|.A 1 I<|.Z h I (zaq _ _ _) fun x6 h => .A 2 I<|gK h fun c8 h => .jA 5 (decide (0 < ((zm n x2 x5.row).getD default))) I (fun b7 => ?_) ?_
   ·refine .A 1 I<|.q I (.fa I (G78_2 _))<|.A 1 I<|.q I (.call I (kC I) I (zaq _ _ _ _ (someD (impT c8 b7))))<|.A 1 I<|.nil I
   refine .nil<|.A 1 I<|.nil<|.K [4] I<|.ret (rO h I)
  ·refine .skip<|.seq<|.plain 12 I<|.A 2 I<|.Z h I (zcg _ _ _) fun x9 h => .p I (.len I U22 I)<|.A 2 I<|gK h fun c11 h => .jA 5 (decide (0 < (((zn n x2 x5).getD default).length : Int))) I (fun b10 => ?_) ?_
   ·refine .A 2 I<|.q I (.call I (kC I) I (zcg _ _ _ _ (someD (impT c11 b10))))<|.q I (.len I U22 I)<|.A 1 I<|.nil I
   refine .nil<|.A 1 I<|.nil<|.K [4] I<|.ret (rO h I)
theorem zdd (n t0 t1 r) (h : zcz n t0 t1 = some r) : Pure pg 47 [Question.enc t0, .ref (Model.enc t1)] (.bool r) := by
 refine Pure.ot Tryz.func47 I Tryz.ntmps47 I fun A w => .sA 2 I<|.S 2 I<|.Z h I (zfd _ _ _) fun x1 h => .A 2 I<|.nil<|.ret (rO h I)
theorem zcr (n t0) (t1 : Question → Option Bool) (F1 : D) (hF1 : ∀ (q0 : Question) (y : Bool), t1 q0 = some y → Dyn pg F1 [Question.enc q0] (.bool y)) (r) (h : zad n t0 t1 = some r) : Pure pg 109 [eP t0, F1] (.int r) := by
 refine Pure.ot Tryz.func109 I Tryz.ntmps109 I fun A w => .sA 1 I<|.seq<|.S 1 I<|.p I (.len I U46 I)<|.A 1 I<|.nil<|.block<|.L [0,1,7] h (fun v => [(8, .d (.int v))]) (fun v => []) I fun _ x7 h => .sA 1 I<|.seq<|.condS I h (fun h => ?_) fun h => ?_
 ·refine .skip<|.seq<|.block<|.sA 2 I<|.S 3 I<|.X h I fun x9 h => .A 1 I<|bK h fun x10 q10 h => .p I (.dyn I I I (hF1 _ _ q10))<|.nil<|.condS I h (fun h => ?_) fun h => ?_
  ·refine .sA 2 I<|.ret (rO h I)
  ·refine .skip<|.rA 2 I (ndE h I)
 ·refine .exit<|.sA 1 I<|.ret (rO h I)
theorem zf5 (n t0 r) (h : zU n t0 = some r) : Pure pg 17 [Model.enc t0] (eP r) := by
 refine Pure.ot Tryz.func17 I Tryz.ntmps17 I fun A w => .S 1 I<|.p I (.nilS 4 (α := Question) Question.enc I)<|.nil<|.seq<|.S 1 I<|.Z h I (zdP _ _) fun x1 h => .A 1 I<|.nil<|.condS I h (fun h => ?_) fun h => ?_
 ·refine .sr<|.p I (.nilS 4 (α := Question) Question.enc I)<|.nil<|.ret ?_
  cases h
  exact zbk I (.d _)
 ·refine .skip<|.S 1 I<|.nilVec 3 4 37 I<|.nil<|.seq<|.S 2 I<|.p I (.len I U27 I)<|.A 1 I<|.nil<|.block<|.L [1,14] h (fun v => [(3, .vec 0 (List.length v.1)), (15, .d (.int v.2))]) (fun v => [(0, .vec 37 4 (List.map Question.enc v.1))]) I fun _ ⟨b0_980, x981⟩ h => .sA 1 I<|.K [1,3,14,15,16] I<|.seq<|.condS I h (fun h => ?_) fun h => ?_
  ·refine .skip<|.seq<|.block<|.sA 2 I<|.S 2 I<|.p I (.len I U27 I)<|.A 1 I<|.nil<|.block<|.L [1,4,14,15,20] h (fun v => [(3, .vec 0 (List.length v.1)), (21, .d (.int v.2))]) (fun v => [(0, .vec 37 4 (List.map Question.enc v.1))]) I fun _ ⟨b0_1307, x1308⟩ h => .sA 1 I<|.K [1,3,4,14,15,20,21,22] I<|.seq<|.condS I h (fun h => ?_) fun h => ?_
   ·refine .skip<|.J [1,4,14,15,20,21] h (fun v => [(3, .vec 0 (List.length v))]) (fun v => [(0, .vec 37 4 (List.map Question.enc v))]) I (fun k_1311 h => ?_) (fun b0_1310 h => ?_)
    ·refine .block<|.sA 2 I<|.S 1 I<|.nilVec 6 4 37 I<|.nil<|.seq<|.S 2 I<|.p I (.len I U25 I)<|.A 1 I<|.nil<|.block<|.L [1,3,4,5,14,15,20,21,26] h (fun v => [(6, .vec 1 (List.length v.1)), (27, .d (.int v.2))]) (fun v => [(1, .vec 37 4 (List.map Question.enc v.1))]) I fun _ ⟨b1_1322, x1323⟩ h => .sA 1 I<|.K [1,3,4,5,6,14,15,20,21,26,27,28] I<|.seq<|.condS I h (fun h => ?_) fun h => ?_
     ·refine .skip<|.J [1,3,4,5,14,15,20,21,26,27] h (fun v => [(6, .vec 1 (List.length v))]) (fun v => [(1, .vec 37 4 (List.map Question.enc v))]) I (fun k_1326 h => ?_) (fun b1_1325 h => ?_)
      ·refine .block<|.sA 2 I<|.sA 3 I<|.condS I h (fun h => ?_) fun h => ?_
       ·refine .region<|.A 4 I<|.p I (.castD (Target.enc (⟨false, x1323⟩ : Target)) I (.build I Pl35 (.agg Zc35 (ds' := [_, _]) (.e .e1)) I I))<|.p I (.castD (Question.enc (⟨x981, x1308, (⟨false, x1323⟩ : Target)⟩ : Question)) I (.build I Pl37 (.agg Zc37 (ds' := [_, _, _, _]) (.e (.e (.e .e1)))) I I))<|.p I (.buildSl [_] I I E46 I (fun _ => I) I (enc := Question.enc))<|bK h fun x1327 q1327 h => .app I I I I I I I I E46 I (fun _ => I) q1327<|.A 1 I<|.nil (ndE h I)
       ·refine .skip (ndE h I)
      ·refine .rA 2 I (ndE h I)
     ·refine .exit<|.seq<|.S 3 I<|.X h I fun x1328 h => .p I (.fa I (G84_2 _))<|.A 2 I<|.p I (.len I U49 I)<|.A 1 I<|.nil<|.block<|.L [1,3,4,5,14,15,20,21,49] h (fun v => [(6, .vec 1 (List.length v.1)), (50, .d (.int v.2))]) (fun v => [(1, .vec 37 4 (List.map Question.enc v.1))]) I fun _ ⟨b1_1335, x1336⟩ h => .sA 1 I<|.K [1,3,4,5,6,14,15,20,21,49,50,51] I<|.seq<|.condS I h (fun h => ?_) fun h => ?_
      ·refine .skip<|.seq<|.block<|.sA 2 I<|.region<|.A 4 I<|.p I (.castD (Target.enc (⟨true, x1336⟩ : Target)) I (.build I Pl35 (.agg Zc35 (ds' := [_, _]) (.e .e1)) I I))<|.p I (.castD (Question.enc (⟨x981, x1308, (⟨true, x1336⟩ : Target)⟩ : Question)) I (.build I Pl37 (.agg Zc37 (ds' := [_, _, _, _]) (.e (.e (.e .e1)))) I I))<|.p I (.buildSl [_] I I E46 I (fun _ => I) I (enc := Question.enc))<|bK h fun x1338 q1338 h => .app I I I I I I I I E46 I (fun _ => I) q1338<|.A 1 I<|.nil<|.rA 2 I (ndE h I)
      ·refine .exit<|.region<|.A 2 I<|.p I (.makeFunc I I)<|.inline (rs := [.tmp 4]) I I (.stat I K46 I) Tryz.func46 I Tryz.ntmps46 I I I I (fun own0 w gh => ?_)
       refine .sr<|.p I (.nilS 4 (α := Question) Question.enc I)<|.nil<|.K [0,1] I<|.S 2 I<|bK h fun x1340 q1340 h => .p I (.callB I (kC I) (.cons I (.vec I (by simp)) (.cons I (.d _) .nil)) I (zcr _ _ _ _ (fun q0 y hq => ⟨_, _, I, K47, zdd _ q0 _ _ hq⟩) _ q1340))<|.A 1 I<|.nil<|.seq<|.sA 2 I<|.condS I h (fun h => ?_) fun h => ?_
       ·refine .sA 2 I<|.ret <| ⟨.inl I, _, ⟨_, _, I, I, I⟩, ?_⟩
        refine .freezes [1] (.cons (t := 65) I (.vec (inIds I) I (by simp)) .nil)<|bK h fun x1342 q1342 h => .app I I I I I I I I E46 I (fun _ => I) q1342<|.A 1 I<|.nil (ndE h I)
       ·refine .skip<|.seq<|.sA 3 I<|.block<|.L [1] h (fun v => [(0, .vec 1 (List.length v.1)), (5, .d (.int v.2.1)), (6, .d (.int v.2.2))]) (fun v => [(1, .vec 37 4 (List.map Question.enc v.1))]) I fun _ ⟨b1_1444, x1445, x1446⟩ h => .seq<|.S 2 I<|.p I (.lenV I U46 I I I)<|.A 1 I<|.nil<|.K [0,1,5,6,19] I<|.condS I h (fun h => ?_) fun h => ?_
        ·refine .skip<|.J [1,6] h (fun v => [(0, .vec 1 (List.length v.1)), (5, .d (.int v.2))]) (fun v => [(1, .vec 37 4 (List.map Question.enc v.1))]) I (fun k_1457 h => ?_) (fun v h => ?_)
         ·refine .block<|.S 2 I<|bK h fun x1459 q1459 h => .p I (.idxV I I I I I U46 S37 q1459)<|.p I (.loadEl I I I I q1459 Y37 I)<|.allocStore I I I I I I I I (by simp) I I Z37<|.nil<|.S 2 I<|bK h fun x1461 q1461 h => .p I (.dyn I I I ⟨_, _, I, K47, zdd _ _ _ _ q1461⟩)<|.A 1 I<|.nil<|.condS I h (fun h => ?_) fun h => ?_
          ·refine .S 3 I<|bK h fun x1463 q1463 h => .p I (.idxV I I I I I U46 S37 q1463)<|bK h fun b1_1464 hb1_1464 h => .storeEl (enc := Question.enc) I I I I I I I I I C37 hb1_1464<|.relen 0 I (zdb hb1_1464)<|.relen 22 I (zdb hb1_1464)<|.relen 30 I (zdb hb1_1464)<|.nil<|.rA 3 I (ndE h I)
          ·refine .skip (ndE h I)
         ·obtain ⟨b1_1455, x1456⟩ := v
          refine .rA 3 I (ndE h I)
        ·refine .exit<|.S 2 I<|bK h fun x1466 q1466 h => .p I (.subL I I I I I U46 S37 q1466)<|.clearSub (enc := Question.enc) (l := b1_1444) (⟨0, 0, ⟨false, 0⟩⟩ : Question) I I I E46 I I I (fun _ => I) (.agg Zc37 (ds' := [.int 0, .int 0, .bool false, .int 0]) (.e (.e (.e .e1))))<|.relen 0 I (zem q1466 (List.replicate (b1_1444.length - x1445.toNat) (⟨0, 0, ⟨false, 0⟩⟩ : Question))).symm<|.relen 36 I (zem q1466 (List.replicate (b1_1444.length - x1445.toNat) (⟨0, 0, ⟨false, 0⟩⟩ : Question))).symm<|.nil<|.S 2 I<|bK h fun x1468 q1468 h => .p I (.subH I I I I I U46 S37 q1468)<|.A 1 I<|.nil<|.ret <| ⟨.inl I, _, ⟨_, _, I, I, I⟩, ?_⟩
         refine .freezes [1] (.cons (t := 65) I (.subM (inIds I) I I) .nil)<|bK h fun x1469 q1469 h => .app I I I I I I I I E46 I (fun _ => I) q1469<|.A 1 I<|.nil (ndE h I)
    ·refine .rA 2 I (ndE h I)
   ·refine .exit<|.rA 2 I (ndE h I)
  ·refine .exit<|.sA 2 I<|.ret ?_
   cases h
   exact zbk I (.vec I (by simp))
theorem zfc (n t0 t1 r) (h : zaj n t0 t1 = some r) : Pure pg 14 [Model.enc t0, Question.enc t1] (.bool r) := by
 refine Pure.ot Tryz.func14 I Tryz.ntmps14 I fun A w => .sA 3 I<|.seq<|.plain 8 I<|.A 2 I<|.Z h I (zfz _ _ _) fun x1 h => .A 1 I<|gK h fun c3 h => .jA 3 (((zcZ n t0 t1).getD default)) I (fun b2 => ?_) ?_
 ·refine .A 2 I<|.q I (.call I (kC I) I (zfd _ _ _ _ (someD (impT c3 b2))))<|.nil I
 refine .nil<|.A 1 I<|.nil<|.ret (rO h I)
theorem zhB (n t0 t1 t2 r) (h : zco n t0 t1 t2 = some r) : Pure pg 12 [Model.enc t0, .int t1, Row.enc t2] (.int r) := by
 refine Pure.ot Tryz.func12 I Tryz.ntmps12 I fun A w => .sA 3 I<|.seq<|.seq<|.plain 14 I<|.A 1 I<|.Z h I (zdP _ _) fun x1 h => .A 2 I<|.jO 2 (decide (t1 < 0)) I (fun b2 => ?_) ?_
 ·refine .A 2 I<|.nil I
 refine .A 1 I<|.jO 5 (decide ((t0.actions.length : Int) ≤ t1)) I (fun b3 => ?_) ?_
 ·refine .A 3 I<|.q I (.len I U27 I)<|.A 1 I<|.nil I
 refine .nil<|.nil<|.K [1,3,5,20] I<|.condS I h (fun h => ?_) fun h => ?_
 ·refine .sA 1 I<|.ret (rO h I)
 ·refine .skip<|.seq<|.draw 8 Hm (by kernel_rfl) (by kernel_rfl)<|.A 3 I<|.X h I fun x4 h => .A 2 I<|.Z h I (zaq _ _ _) fun x5 h => .A 1 I<|.nil<|.nil<|.ret (rO h I)
theorem zcR (n t0 t1 r) (h : zP n t0 t1 = some r) : Pure pg 16 [eP t0, eP t1] (.bool r) := by
 refine Pure.ot Tryz.func16 I Tryz.ntmps16 I fun A w => .sA 1 I<|.seq<|.S 1 I<|.p I (.len I U46 I)<|.A 1 I<|.p I (.len I U46 I)<|.A 1 I<|.nil<|.condS I h (fun h => ?_) fun h => ?_
 ·refine .sA 1 I<|.ret (rO h I)
 ·refine .skip<|.seq<|.S 1 I<|.p I (.len I U46 I)<|.A 1 I<|.nil<|.block<|.L [0,1,12] h (fun v => [(13, .d (.int v))]) (fun v => []) I fun _ x7 h => .sA 1 I<|.seq<|.condS I h (fun h => ?_) fun h => ?_
  ·refine .skip<|.seq<|.block<|.sA 2 I<|.seq<|.draw 9 Hm (by kernel_rfl) (by kernel_rfl)<|.A 2 I<|.X h I fun x9 h => .A 3 I<|.X h I fun x10 h => .A 1 I<|.p I (.sneq I SE37 I I (xs := Question.vals _) (ys := Question.vals _) I I I I (SQ37 _ _))<|.nil<|.nil<|.condS I h (fun h => ?_) fun h => ?_
   ·refine .sA 1 I<|.ret (rO h I)
   ·refine .skip<|.rA 2 I (ndE h I)
  ·refine .exit<|.sA 1 I<|.ret (rO h I)
theorem law22_awake_ok (n r) (h : zhF n = some r) : Pure pg 10 [] (.bool r) := by
 refine Pure.ot Tryz.func10 I Tryz.ntmps10 I fun A w => .sA 1 I<|.sr<|.Z h I (zjB _ ) fun x1 h => .allocStore I I I I I I I I (by simp) I I Z30<|.nil<|.sr<|.p I (.castD (Target.enc (⟨false, 1⟩ : Target)) I (.build I Pl35 (.agg Zc35 (ds' := [_, _]) (.e .e1)) I I))<|.p I (.castD (Question.enc (⟨0, 0, (⟨false, 1⟩ : Target)⟩ : Question)) I (.build I Pl37 (.agg Zc37 (ds' := [_, _, _, _]) (.e (.e (.e .e1)))) I I))<|.allocStore I I I I I I I I (by simp) I I Z37<|.nil<|.S 2 I<|bK h fun x2 q2 h => .p I (.callLe I (kC I) I (.e (.e .o1)) (zek _ _ _ _ _ q2))<|.A 1 I<|.p I (.extract I I I)<|.p I (.extract I I I)<|.allocStore I I I I I I I I (by simp) I I Z53<|.A 1 I<|.nil<|.K [1,2,3,4] I<|.S 1 I<|.Z h I (zf5 _ _) fun x3 h => .A 1 I<|.nil<|.seq<|.draw 72 Hm (by kernel_rfl) (by kernel_rfl)<|.A 3 I<|.jA 4 ((x2.1.rows.length : Int) == 3) I (fun b4 => ?_) ?_
 ·refine .A 2 I<|.q I (.len I U49 I)<|.A 1 I<|.nil I
 refine .A 1 I<|gK h fun c6 h => .jA 6 ((((idx x2.1.rows 1).getD default).bound) == 1) I (fun b5 => ?_) ?_
 ·refine .A 2 I<|.q I (.ix I U49 S33 (someD (impT c6 b5)))<|.A 3 I<|.nil I
 refine .A 1 I<|gK h fun c8 h => .jA 6 ((((idx x2.1.rows 2).getD default).bound) == 0) I (fun b7 => ?_) ?_
 ·refine .A 2 I<|.q I (.ix I U49 S33 (someD (impT c8 b7)))<|.A 3 I<|.nil I
 refine .A 1 I<|gK h fun c10 h => .jA 7 (((((idx x2.1.rows 2).getD default).terms).length : Int) == 1) I (fun b9 => ?_) ?_
 ·refine .A 2 I<|.q I (.ix I U49 S33 (someD (impT c10 b9)))<|.A 2 I<|.q I (.len I U31 I)<|.A 1 I<|.nil I
 refine .A 1 I<|gK h fun c12 h => gK h fun c13 h => .jA 9 ((((idx (((idx x2.1.rows 2).getD default).terms) 0).getD default).factor) == (-1)) I (fun b11 => ?_) ?_
 ·refine .A 2 I<|.q I (.ix I U49 S33 (someD (impT c12 b11)))<|.A 2 I<|.q I (.ix I U31 S41 (someD (impT c13 b11)))<|.A 3 I<|.nil I
 refine .A 1 I<|gK h fun c15 h => .jA 3 (((zaj n x1 (⟨0, 0, (⟨false, 1⟩ : Target)⟩ : Question)).getD default)) I (fun b14 => ?_) ?_
 ·refine .A 2 I<|.q I (.call I (kC I) I (zfc _ _ _ _ (someD (impT c15 b14))))<|.nil I
 refine .A 1 I<|gK h fun c17 h => .jA 4 (!((zaj n x1 (⟨0, 0, (⟨false, 0⟩ : Target)⟩ : Question)).getD default)) I (fun b16 => ?_) ?_
 ·refine .A 1 I<|.q I (.castD (Question.enc (⟨0, 0, (⟨false, 0⟩ : Target)⟩ : Question)) I (.build I Pl37 (.agg Zc37 (ds' := [_, _, _, _]) (.e (.e (.e .e1)))) I I))<|.q I (.call I (kC I) I (zfc _ _ _ _ (someD (impT c17 b16))))<|.A 1 I<|.nil I
 refine .A 1 I<|gK h fun c19 h => gK h fun c20 h => .jA 8 (((zco n x1 0 (((idx x1.constraints 0).getD default).row)).getD default) == (-2)) I (fun b18 => ?_) ?_
 ·refine .A 3 I<|.q I (.ix I U25 S78 (someD (impT c19 b18)))<|.q I (.fa I (G78_2 _))<|.A 1 I<|.q I (.call I (kC I) I (zhB _ _ _ _ _ (someD (impT c20 b18))))<|.A 1 I<|.nil I
 refine .A 1 I<|gK h fun c22 h => .jA 4 (((zP n x3 [(⟨0, 0, (⟨false, 1⟩ : Target)⟩ : Question)]).getD default)) I (fun b21 => ?_) ?_
 ·refine .A 2 I<|.q I (.buildSl [_] I I E46 I (fun _ => I) I (enc := Question.enc))<|.q I (.call I (kC I) I (zcR _ _ _ _ (someD (impT c22 b21))))<|.nil I
 refine .A 1 I<|.nil<|.nil<|.K [0] I<|.ret (rO h I)
theorem ref09_Few_ok (n t0 t1 r) (h : zcG n t0 t1 = some r) : Pure pg 92 [eA t0, eB t1] (.bool r) := by
 refine Pure.ot Tryz.func92 I Tryz.ntmps92 I fun A w => .sA 1 I<|.seq<|.sA 1 I<|.block<|.L [0,1] h (fun v => [(5, .d (.int v))]) (fun v => []) I fun _ x9 h => .seq<|.S 2 I<|.p I (.len I U23 I)<|.A 1 I<|.nil<|.K [0,1,5,9] I<|.condS I h (fun h => ?_) fun h => ?_
 ·refine .skip<|.seq<|.block<|.seq<|.plain 16 I<|.A 2 I<|.X h I fun x11 h => .A 2 I<|.p I (.len_str I U9 I)<|.A 2 I<|gK h fun c13 h => .jO 7 (decide (12 < ((((idx t1 x9).getD default).columns).length : Int))) I (fun b12 => ?_) ?_
  ·refine .A 2 I<|.q I (.ix I U23 S127 (someD (impF c13 b12)))<|.A 2 I<|.q I (.len I U22 I)<|.A 1 I<|.nil I
  refine .nil<|.nil<|.K [0,1,5,27] I<|.condS I h (fun h => ?_) fun h => ?_
  ·refine .sA 1 I<|.ret (rO h I)
  ·refine .skip<|.rA 3 I (ndE h I)
 ·refine .exit<|.seq<|.plain 8 I<|.A 1 I<|.p I (.len I U22 I)<|.A 2 I<|.jA 3 (decide ((t1.length : Int) ≤ 20)) I (fun b14 => ?_) ?_
  ·refine .A 1 I<|.q I (.len I U23 I)<|.A 1 I<|.nil I
  refine .nil<|.A 1 I<|.nil<|.ret (rO h I)
theorem zjH (n t0 r) (h : zo n t0 = some r) : Pure pg 37 [Model.enc t0] (.bool r) := by
 refine Pure.ot Tryz.func37 I Tryz.ntmps37 I fun A w => .sA 2 I<|.seq<|.seq<|.plain 48 I<|.A 2 I<|.p I (.len I U22 I)<|.A 2 I<|.jO 4 (decide (6 < (t0.tables.length : Int))) I (fun b1 => ?_) ?_
 ·refine .A 2 I<|.q I (.len I U23 I)<|.A 1 I<|.nil I
 refine .A 1 I<|.jO 4 (decide (20 < (t0.families.length : Int))) I (fun b2 => ?_) ?_
 ·refine .A 2 I<|.q I (.len I U24 I)<|.A 1 I<|.nil I
 refine .A 1 I<|.jO 4 (decide (60 < (t0.constraints.length : Int))) I (fun b3 => ?_) ?_
 ·refine .A 2 I<|.q I (.len I U25 I)<|.A 1 I<|.nil I
 refine .A 1 I<|.jO 4 (decide (8 < (t0.operations.length : Int))) I (fun b4 => ?_) ?_
 ·refine .A 2 I<|.q I (.len I U26 I)<|.A 1 I<|.nil I
 refine .A 1 I<|.jO 4 (decide (30 < (t0.actions.length : Int))) I (fun b5 => ?_) ?_
 ·refine .A 2 I<|.q I (.len I U27 I)<|.A 1 I<|.nil I
 refine .A 1 I<|.jO 4 (decide (12 < (t0.hides.length : Int))) I (fun b6 => ?_) ?_
 ·refine .A 2 I<|.q I (.len I U28 I)<|.A 1 I<|.nil I
 refine .A 1 I<|gK h fun c8 h => .jO 6 (!((zcG n t0.sorts t0.tables).getD default)) I (fun b7 => ?_) ?_
 ·refine .A 4 I<|.q I (.call I (kC I) I (ref09_Few_ok _ _ _ _ (someD (impF c8 b7))))<|.A 1 I<|.nil I
 refine .nil<|.nil<|.K [1,56] I<|.condS I h (fun h => ?_) fun h => ?_
 ·refine .sA 1 I<|.ret (rO h I)
 ·refine .skip<|.seq<|.sA 1 I<|.block<|.L [1] h (fun v => [(3, .d (.int v))]) (fun v => []) I fun _ x13 h => .seq<|.S 3 I<|.p I (.len I U24 I)<|.A 1 I<|.nil<|.K [1,3,61] I<|.condS I h (fun h => ?_) fun h => ?_
  ·refine .skip<|.seq<|.block<|.S 3 I<|.X h I fun x15 h => .A 1 I<|.p I (.len_str I U9 I)<|.A 1 I<|.nil<|.condS I h (fun h => ?_) fun h => ?_
   ·refine .sA 1 I<|.ret (rO h I)
   ·refine .skip<|.rA 3 I (ndE h I)
  ·refine .exit<|.seq<|.sA 1 I<|.block<|.L [1] h (fun v => [(4, .d (.int v))]) (fun v => []) I fun _ x20 h => .seq<|.S 3 I<|.p I (.len I U25 I)<|.A 1 I<|.nil<|.K [1,4,75] I<|.condS I h (fun h => ?_) fun h => ?_
   ·refine .skip<|.seq<|.block<|.S 3 I<|.X h I fun x22 h => .p I (.fa I (G78_2 _))<|.A 2 I<|.p I (.len I U31 I)<|.A 1 I<|.nil<|.condS I h (fun h => ?_) fun h => ?_
    ·refine .sA 1 I<|.ret (rO h I)
    ·refine .skip<|.rA 3 I (ndE h I)
   ·refine .exit<|.seq<|.sA 1 I<|.block<|.L [1] h (fun v => [(5, .d (.int v))]) (fun v => []) I fun _ x31 h => .seq<|.S 3 I<|.p I (.len I U26 I)<|.A 1 I<|.nil<|.K [1,5,91] I<|.condS I h (fun h => ?_) fun h => ?_
    ·refine .skip<|.seq<|.block<|.seq<|.plain 18 I<|.A 3 I<|.X h I fun x33 h => .A 2 I<|.p I (.len_str I U9 I)<|.A 2 I<|gK h fun c35 h => .jO 8 (decide (6 < ((((idx t0.operations x31).getD default).sorts).length : Int))) I (fun b34 => ?_) ?_
     ·refine .A 3 I<|.q I (.ix I U26 S129 (someD (impF c35 b34)))<|.A 2 I<|.q I (.len I U22 I)<|.A 1 I<|.nil I
     refine .nil<|.nil<|.K [1,5,111] I<|.condS I h (fun h => ?_) fun h => ?_
     ·refine .sA 1 I<|.ret (rO h I)
     ·refine .skip<|.rA 3 I (ndE h I)
    ·refine .exit<|.seq<|.sA 1 I<|.block<|.L [1] h (fun v => [(6, .d (.int v))]) (fun v => []) I fun _ x62 h => .seq<|.S 3 I<|.p I (.len I U27 I)<|.A 1 I<|.nil<|.K [1,6,116] I<|.condS I h (fun h => ?_) fun h => ?_
     ·refine .skip<|.seq<|.block<|.S 3 I<|.X h I fun x64 h => .p I (.fa I (G84_2 _))<|.A 1 I<|.allocStore I I I I I I I I (by simp) I I Z82<|.nil<|.seq<|.seq<|.plain 26 I<|.A 3 I<|.X h I fun x65 h => .A 2 I<|.p I (.len I U22 I)<|.A 2 I<|.jO 4 (decide (20 < (x64.effect.delta.length : Int))) I (fun b66 => ?_) ?_
      ·refine .A 2 I<|.q I (.len I U79 I)<|.A 1 I<|.nil I
      refine .A 1 I<|.jO 4 (decide (10 < (x64.effect.hold.length : Int))) I (fun b67 => ?_) ?_
      ·refine .A 2 I<|.q I (.len I U49 I)<|.A 1 I<|.nil I
      refine .A 1 I<|.jO 4 (decide (40 < (x64.effect.updates.length : Int))) I (fun b68 => ?_) ?_
      ·refine .A 2 I<|.q I (.len I U80 I)<|.A 1 I<|.nil I
      refine .nil<|.nil<|.K [1,6,7,150] I<|.condS I h (fun h => ?_) fun h => ?_
      ·refine .sA 1 I<|.ret (rO h I)
      ·refine .skip<|.sA 1 I<|.block<|.L [1,6,7] h (fun v => [(8, .d (.int v))]) (fun v => []) I fun _ x73 h => .seq<|.S 3 I<|.p I (.len I U49 I)<|.A 1 I<|.nil<|.K [1,6,7,8,155] I<|.condS I h (fun h => ?_) fun h => ?_
       ·refine .skip<|.seq<|.block<|.S 3 I<|.X h I fun x75 h => .A 2 I<|.p I (.len I U31 I)<|.A 1 I<|.nil<|.condS I h (fun h => ?_) fun h => ?_
        ·refine .sA 1 I<|.ret (rO h I)
        ·refine .skip<|.rA 3 I (ndE h I)
       ·refine .exit<|.rA 3 I (ndE h I)
     ·refine .exit<|.sA 1 I<|.ret (rO h I)
theorem zhk (n t0 r) (h : za9 n t0 = some r) : Pure pg 161 [eA t0] (.bool r) := by
 refine Pure.ot Tryz.func161 I Tryz.ntmps161 I fun A w => .sA 1 I<|.seq<|.sA 1 I<|.block<|.L [0] h (fun v => [(3, .d (.int v))]) (fun v => []) I fun _ x9 h => .seq<|.S 2 I<|.p I (.len I U22 I)<|.A 1 I<|.nil<|.K [0,3,7] I<|.condS I h (fun h => ?_) fun h => ?_
 ·refine .skip<|.seq<|.block<|.seq<|.plain 12 I<|.A 2 I<|.X h I fun x11 h => .A 3 I<|gK h fun c13 h => .jO 5 (decide (6 < ((idx t0 x9).getD default))) I (fun b12 => ?_) ?_
  ·refine .A 2 I<|.q I (.ix I U22 S3 (someD (impF c13 b12)))<|.A 2 I<|.nil I
  refine .nil<|.nil<|.condS I h (fun h => ?_) fun h => ?_
  ·refine .sA 1 I<|.ret (rO h I)
  ·refine .skip<|.rA 3 I (ndE h I)
 ·refine .exit<|.sA 1 I<|.ret (rO h I)
theorem zey (n t0 t1 r) (h : zZ n t0 t1 = some r) : Pure pg 140 [eA t0, eA t1] (.int r) := by
 refine Pure.ot Tryz.func140 I Tryz.ntmps140 I fun A w => .sA 1 I<|.seq<|.seq<|.plain 8 I<|.A 1 I<|.p I (.len I U22 I)<|.A 2 I<|gK h fun c2 h => .jO 3 (!((za9 n t0).getD default)) I (fun b1 => ?_) ?_
 ·refine .A 1 I<|.q I (.call I (kC I) I (zhk _ _ _ (someD (impF c2 b1))))<|.A 1 I<|.nil I
 refine .nil<|.nil<|.condS I h (fun h => ?_) fun h => ?_
 ·refine .sA 1 I<|.ret (rO h I)
 ·refine .skip<|.sA 1 I<|.seq<|.sA 1 I<|.block<|.L [0,1] h (fun v => [(5, .d (.int v.1)), (6, .d (.int v.2))]) (fun v => []) I fun _ ⟨x17, x18⟩ h => .seq<|.S 2 I<|.p I (.len I U22 I)<|.A 1 I<|.nil<|.K [0,1,5,6,18] I<|.condS I h (fun h => ?_) fun h => ?_
  ·refine .skip<|.seq<|.block<|.seq<|.seq<|.plain 14 I<|.A 2 I<|.X h I fun x20 h => .A 3 I<|gK h fun c22 h => .jO 7 (decide ((t0.length : Int) ≤ ((idx t1 x18).getD default))) I (fun b21 => ?_) ?_
   ·refine .A 2 I<|.q I (.ix I U22 S3 (someD (impF c22 b21)))<|.A 2 I<|.q I (.len I U22 I)<|.A 1 I<|.nil I
   refine .nil<|.nil<|.condS I h (fun h => ?_) fun h => ?_
   ·refine .sA 1 I<|.ret (rO h I)
   ·refine .skip<|.region<|.A 4 I<|.X h I fun x23 h => .A 1 I<|.X h I fun x24 h => .A 3 I<|.nil<|.K [0,1,5,6] I<|.rA 3 I (ndE h I)
  ·refine .exit<|.sA 2 I<|.ret (rO h I)
theorem zhi (n t0 r) (h : zaQ n t0 = some r) : Pure pg 259 [.val (.int .u8 t0)] (.bool r) := by
 refine Pure.ot Tryz.func259 I Tryz.ntmps259 I fun A w => .sA 1 I<|.seq<|.plain 14 I<|.A 3 I<|.jO 2 (t0 == 10) I (fun b1 => ?_) ?_
 ·refine .A 2 I<|.nil I
 refine .A 1 I<|.jO 2 (t0 == 13) I (fun b2 => ?_) ?_
 ·refine .A 2 I<|.nil I
 refine .A 1 I<|.jO 2 (t0 == 32) I (fun b3 => ?_) ?_
 ·refine .A 2 I<|.nil I
 refine .nil<|.A 1 I<|.nil<|.K [2] I<|.ret (rO h I)
theorem zim (n t0 t1 r) (h : zbc n t0 t1 = some r) : Pure pg 248 [.str t0, .int t1] (.int r) := by
 refine Pure.ot Tryz.func248 I Tryz.ntmps248 I fun A w => .sA 1 I<|.seq<|.block<|.L [0] h (fun v => [(1, .d (.int v))]) (fun v => []) I fun _ x35 h => .seq<|.seq<|.plain 16 I<|.A 2 I<|.p I (.len_str I U9 I)<|.A 2 I<|gK h fun c38 h => gK h fun c39 h => gK h fun c41 h => .jA 10 (((zaQ n ((sidx t0 x35).getD default)).getD default) || (((sidx t0 x35).getD default) == 35)) I (fun b37 => ?_) ?_
 ·refine .A 2 I<|.q I (.sidx I I I U9 (someD (impT c38 b37)))<|.q I (.call I (kC I) I (zhi _ _ _ (someD (impT c39 b37))))<|.A 1 I<|.jOr 4 (b2 := ((sidx t0 x35).getD default) == 35) I I I I (.inr ⟨_, _, _, I, I, I⟩) (fun _ _ _ h1 h2 => by cases h1; cases h2; decide) I I (fun b40 => ?_) ?_
  ·refine .A 2 I<|.q I (.sidx I I I U9 (someD (impF (impT c41 b37) b40)))<|.A 1 I<|.nil I
  exact .nil I
 refine .nil<|.nil<|.K [0,1,20] I<|.condS I h (fun h => ?_) fun h => ?_
 ·refine .skip<|.block<|.S 2 I<|bK h fun x42 q42 h => .p I (.sidx I I I U9 q42)<|.A 1 I<|.nil<|.condS I h (fun h => ?_) fun h => ?_
  ·refine .block<|.L [0] h (fun v => [(1, .d (.int v))]) (fun v => []) I fun _ x49 h => .seq<|.seq<|.plain 10 I<|.A 2 I<|.p I (.len_str I U9 I)<|.A 2 I<|gK h fun c52 h => .jA 4 (((sidx t0 x49).getD default) != 10) I (fun b51 => ?_) ?_
   ·refine .A 2 I<|.q I (.sidx I I I U9 (someD (impT c52 b51)))<|.A 1 I<|.nil I
   refine .nil<|.nil<|.K [0,1,34] I<|.condS I h (fun h => ?_) fun h => ?_
   ·refine .skip<|.block<|.rA 3 I (ndE h I)
   ·refine .exit (ndE h I)
  ·refine .rA 3 I (ndE h I)
 ·refine .exit<|.sA 2 I<|.ret (rO h I)
theorem zev (n t0 r) (h : zaE n t0 = some r) : Pure pg 260 [.val (.int .u8 t0)] (.bool r) := by
 refine Pure.ot Tryz.func260 I Tryz.ntmps260 I fun A w => .sA 1 I<|.seq<|.plain 6 I<|.A 3 I<|.jA 2 (decide (t0 ≤ 122)) I (fun b1 => ?_) ?_
 ·refine .A 2 I<|.nil I
 refine .nil<|.A 1 I<|.nil<|.ret (rO h I)
theorem zdQ (n t0 r) (h : zaW n t0 = some r) : Pure pg 261 [.val (.int .u8 t0)] (.bool r) := by
 refine Pure.ot Tryz.func261 I Tryz.ntmps261 I fun A w => .sA 1 I<|.seq<|.plain 6 I<|.A 3 I<|.jA 2 (decide (t0 ≤ 57)) I (fun b1 => ?_) ?_
 ·refine .A 2 I<|.nil I
 refine .nil<|.A 1 I<|.nil<|.ret (rO h I)
theorem zi1 (n r) (h : ze2 n = some r) : Pure pg 262 [] (eC r) := by
 refine Pure.ot Tryz.func262 I Tryz.ntmps262 I fun A w => .sr<|.p I (.nilS 1 (α := List UInt8) D.str I)<|.nil<|.sr<|.p I (.buildSl [_, _, _, _, _, _, _, _, _, _, _, _, _, _, _, _, _, _, _, _, _, _, _, _, _, _, _, _, _, _, _, _, _, _, _] I I E24 I (fun _ => I) I (enc := D.str))<|.A 1 I<|.nil<|.ret ?_
 cases h
 exact zbk I (.d _)
theorem zjq (n t0 t1 r) (h : zcp n t0 t1 = some r) : Pure pg 163 [eC t0, .str t1] (.bool r) := by
 refine Pure.ot Tryz.func163 I Tryz.ntmps163 I fun A w => .sA 1 I<|.seq<|.sA 1 I<|.block<|.L [0,1] h (fun v => [(5, .d (.int v))]) (fun v => []) I fun _ x5 h => .seq<|.S 2 I<|.p I (.len I U24 I)<|.A 1 I<|.nil<|.K [0,1,5,9] I<|.condS I h (fun h => ?_) fun h => ?_
 ·refine .skip<|.seq<|.block<|.S 2 I<|.X h I fun x7 h => .A 2 I<|.p I (.str_eql I I I)<|.nil<|.condS I h (fun h => ?_) fun h => ?_
  ·refine .sA 1 I<|.ret (rO h I)
  ·refine .skip<|.rA 3 I (ndE h I)
 ·refine .exit<|.sA 1 I<|.ret (rO h I)
theorem zjE (n r) (h : zfS n = some r) : Pure pg 269 [] (eC r) := by
 refine Pure.ot Tryz.func269 I Tryz.ntmps269 I fun A w => .sr<|.p I (.nilS 1 (α := List UInt8) D.str I)<|.nil<|.sr<|.p I (.buildSl [_, _, _, _, _, _, _, _, _, _, _, _, _, _, _, _, _, _] I I E24 I (fun _ => I) I (enc := D.str))<|.A 1 I<|.nil<|.ret ?_
 cases h
 exact zbk I (.d _)
theorem zgF (n t0 t1 r) (h : zbe n t0 t1 = some r) : Pure pg 263 [.str t0, .int t1] (.int r) := by
 refine Pure.ot Tryz.func263 I Tryz.ntmps263 I fun A w => .sA 1 I<|.sr<|.Z h I (zjE _ ) fun x1 h => .A 1 I<|.nil<|.seq<|.sA 1 I<|.block<|.L [0,1,5] h (fun v => [(6, .d (.int v))]) (fun v => []) I fun _ x12 h => .seq<|.S 2 I<|.p I (.len I U24 I)<|.A 1 I<|.nil<|.K [0,1,5,6,12] I<|.condS I h (fun h => ?_) fun h => ?_
 ·refine .skip<|.seq<|.block<|.S 2 I<|.X h I fun x14 h => .A 1 I<|.p I (.len_str I U9 I)<|.A 1 I<|.nil<|.seq<|.draw 19 Hm (by kernel_rfl) (by kernel_rfl)<|.A 4 I<|.p I (.len_str I U9 I)<|.A 2 I<|gK h fun c16 h => gK h fun c17 h => .jA 11 (decide (((cut t0 t1 (add64 t1 (x14.length : Int))).getD default) = ((idx x1 x12).getD default))) I (fun b15 => ?_) ?_
  ·refine .A 5 I<|.q I (.cutStrLH I I I I U9 (someD (impT c16 b15)))<|.A 2 I<|.q I (.ix I U24 S9 (someD (impT c17 b15)))<|.A 1 I<|.q I (.str_eql I I I)<|.nil I
  refine .nil<|.nil<|.K [0,1,5,6,7,38] I<|.condS I h (fun h => ?_) fun h => ?_
  ·refine .sA 2 I<|.ret (rO h I)
  ·refine .skip<|.rA 3 I (ndE h I)
 ·refine .exit<|.sA 1 I<|.ret (rO h I)
theorem ref02_token_ok (n t0 t1 r) (h : zar n t0 t1 = some r) : Pure pg 249 [.str t0, .int t1] (.tup [.int r.1, .int r.2]) := by
 refine Pure.ot Tryz.func249 I Tryz.ntmps249 I fun A w => .sA 2 I<|.sA 2 I<|.seq<|.S 2 I<|bK h fun x1 q1 h => .p I (.sidx I I I U9 q1)<|.Z h I (zev _ _) fun x2 h => .nil<|.condS I h (fun h => ?_) fun h => ?_
 ·refine .seq<|.block<|.L [0,1] h (fun v => [(6, .d (.int v))]) (fun v => []) I fun _ x21 h => .seq<|.seq<|.plain 22 I<|.A 2 I<|.p I (.len_str I U9 I)<|.A 2 I<|gK h fun c24 h => gK h fun c25 h => gK h fun c27 h => gK h fun c28 h => gK h fun c30 h => .jA 16 ((((zaE n ((sidx t0 x21).getD default)).getD default) || ((zaW n ((sidx t0 x21).getD default)).getD default)) || (((sidx t0 x21).getD default) == 95)) I (fun b23 => ?_) ?_
  ·refine .A 2 I<|.q I (.sidx I I I U9 (someD (impT c24 b23)))<|.q I (.call I (kC I) I (zev _ _ _ (someD (impT c25 b23))))<|.A 1 I<|.jOr 4 (b2 := ((zaW n ((sidx t0 x21).getD default)).getD default)) I I I I (.inr ⟨_, _, _, I, I, I⟩) (fun _ _ _ h1 h2 => by cases h1; cases h2; decide) I I (fun b26 => ?_) ?_
   ·refine .A 2 I<|.q I (.sidx I I I U9 (someD (impF (impT c27 b23) b26)))<|.q I (.call I (kC I) I (zdQ _ _ _ (someD (impF (impT c28 b23) b26))))<|.nil I
   refine .A 1 I<|.jOr 4 (b2 := ((sidx t0 x21).getD default) == 95) I I I I (.inr ⟨_, _, _, I, I, I⟩) (fun _ _ _ h1 h2 => by cases h1; cases h2; decide) I I (fun b29 => ?_) ?_
   ·refine .A 2 I<|.q I (.sidx I I I U9 (someD (impF (impT c30 b23) b29)))<|.A 1 I<|.nil I
   exact .nil I
  refine .nil<|.nil<|.K [0,1,6,34] I<|.condS I h (fun h => ?_) fun h => ?_
  ·refine .skip<|.block<|.rA 3 I (ndE h I)
  ·refine .exit<|.seq<|.seq<|.draw 6 Hm (by kernel_rfl) (by kernel_rfl)<|.Z h I (zi1 _ ) fun x31 h => .A 3 I<|bK h fun x32 q32 h => .p I (.cutStrLH I I I I U9 q32)<|.Z h I (zjq _ _ _) fun x33 h => .nil<|.nil<|.condS I h (fun h => ?_) fun h => ?_
   ·refine .sA 3 I<|.ret ?_
    cases h
    exact zdx I I (.d _) (.d _)
   ·refine .skip<|.sA 3 I<|.ret ?_
    cases h
    exact zdx I I (.d _) (.d _)
 ·refine .skip<|.seq<|.S 2 I<|bK h fun x34 q34 h => .p I (.sidx I I I U9 q34)<|.Z h I (zdQ _ _) fun x35 h => .nil<|.condS I h (fun h => ?_) fun h => ?_
  ·refine .seq<|.block<|.L [0] h (fun v => [(6, .d (.int v))]) (fun v => []) I fun _ x44 h => .seq<|.seq<|.plain 10 I<|.A 2 I<|.p I (.len_str I U9 I)<|.A 2 I<|gK h fun c47 h => gK h fun c48 h => .jA 4 (((zaW n ((sidx t0 x44).getD default)).getD default)) I (fun b46 => ?_) ?_
   ·refine .A 2 I<|.q I (.sidx I I I U9 (someD (impT c47 b46)))<|.q I (.call I (kC I) I (zdQ _ _ _ (someD (impT c48 b46))))<|.nil I
   refine .nil<|.nil<|.K [0,6,58] I<|.condS I h (fun h => ?_) fun h => ?_
   ·refine .skip<|.block<|.rA 3 I (ndE h I)
   ·refine .exit<|.sA 3 I<|.ret ?_
    cases h
    exact zdx I I (.d _) (.d _)
  ·refine .skip<|.seq<|.S 2 I<|.Z h I (zgF _ _ _) fun x49 h => .A 1 I<|.nil<|.K [0,1,6,7] I<|.sA 2 I<|.condS I h (fun h => ?_) fun h => ?_
   ·refine .sA 5 I<|.ret ?_
    cases h
    exact zdx I I (.d _) (.d _)
   ·refine .skip<|.seq<|.block<|.L [0] h (fun v => [(6, .d (.int v))]) (fun v => []) I fun _ x78 h => .seq<|.seq<|.plain 37 I<|.A 2 I<|.p I (.len_str I U9 I)<|.A 2 I<|gK h fun c81 h => gK h fun c82 h => .jA 5 (!((zaQ n ((sidx t0 x78).getD default)).getD default)) I (fun b80 => ?_) ?_
    ·refine .A 2 I<|.q I (.sidx I I I U9 (someD (impT c81 b80)))<|.q I (.call I (kC I) I (zhi _ _ _ (someD (impT c82 b80))))<|.A 1 I<|.nil I
    refine .A 1 I<|gK h fun c84 h => .jA 4 (((sidx t0 x78).getD default) != 35) I (fun b83 => ?_) ?_
    ·refine .A 2 I<|.q I (.sidx I I I U9 (someD (impT c84 b83)))<|.A 1 I<|.nil I
    refine .A 1 I<|gK h fun c86 h => gK h fun c87 h => .jA 5 (!((zaE n ((sidx t0 x78).getD default)).getD default)) I (fun b85 => ?_) ?_
    ·refine .A 2 I<|.q I (.sidx I I I U9 (someD (impT c86 b85)))<|.q I (.call I (kC I) I (zev _ _ _ (someD (impT c87 b85))))<|.A 1 I<|.nil I
    refine .A 1 I<|gK h fun c89 h => gK h fun c90 h => .jA 5 (!((zaW n ((sidx t0 x78).getD default)).getD default)) I (fun b88 => ?_) ?_
    ·refine .A 2 I<|.q I (.sidx I I I U9 (someD (impT c89 b88)))<|.q I (.call I (kC I) I (zdQ _ _ _ (someD (impT c90 b88))))<|.A 1 I<|.nil I
    refine .A 1 I<|gK h fun c92 h => .jA 4 (((zbe n t0 x78).getD default) == 0) I (fun b91 => ?_) ?_
    ·refine .A 2 I<|.q I (.call I (kC I) I (zgF _ _ _ _ (someD (impT c92 b91))))<|.A 1 I<|.nil I
    refine .nil<|.nil<|.K [0,6,106] I<|.condS I h (fun h => ?_) fun h => ?_
    ·refine .skip<|.block<|.rA 3 I (ndE h I)
    ·refine .exit<|.sA 3 I<|.ret ?_
     cases h
     exact zdx I I (.d _) (.d _)
theorem ref02_Scan_ok (n t0 r) (h : zcQ n t0 = some r) : Pure pg 224 [.str t0] (.tup [eQ r.1, .int r.2]) := by
 refine Pure.ot Tryz.func224 I Tryz.ntmps224 I fun A w => .sr<|.p I (.nilS 4 (α := Token) Token.enc I)<|.A 1 I<|.nil<|.seq<|.S 1 I<|.p I (.len_str I U9 I)<|.A 1 I<|.nil<|.condS I h (fun h => ?_) fun h => ?_
 ·refine .sr<|.p I (.nilS 4 (α := Token) Token.enc I)<|.A 1 I<|.nil<|.ret ?_
  cases h
  exact zdx I I (.d _) (.d _)
 ·refine .skip<|.sr<|.buildVec [] I I I I I E242 I (fun _ => I) I (enc := Token.enc)<|.A 1 I<|.nil<|.sA 1 I<|.seq<|.block<|.L [0] h (fun v => [(4, .vec 0 (List.length v.1)), (5, .d (.int v.2))]) (fun v => [(0, .vec 234 4 (List.map Token.enc v.1))]) I fun _ ⟨b0_13, x14⟩ h => .seq<|.S 2 I<|.Z h I (zim _ _ _) fun x16 h => .A 1 I<|.p I (.len_str I U9 I)<|.A 1 I<|.nil<|.K [0,4,5,18] I<|.condS I h (fun h => ?_) fun h => ?_
  ·refine .skip<|.block<|.S 2 I<|.Z h I (zim _ _ _) fun x17 h => .A 1 I<|.nil<|.S 2 I<|.Z h I (ref02_token_ok _ _ _) fun x18 h => .A 1 I<|.p I (.extract I I I)<|.p I (.extract I I I)<|.A 2 I<|.nil<|.S 5 I<|.p I (.castD (Token.enc (⟨x18.1, x14, x17, x18.2⟩ : Token)) I (.build I Pl234 (.agg Zc234 (ds' := [_, _, _, _]) (.e (.e (.e .e1)))) I I))<|.p I (.buildSl [_] I I E242 I (fun _ => I) I (enc := Token.enc))<|bK h fun x19 q19 h => .app I I I I I I I I E242 I (fun _ => I) q19<|.A 1 I<|.nil<|.K [0,4,8] I<|.rA 2 I (ndE h I)
  ·refine .exit<|.S 3 I<|.p I (.len_str I U9 I)<|.A 1 I<|.p I (.len_str I U9 I)<|.p I (.castD (Token.enc (⟨0, x14, (t0.length : Int), (t0.length : Int)⟩ : Token)) I (.build I Pl234 (.agg Zc234 (ds' := [_, _, _, _]) (.e (.e (.e .e1)))) I I))<|.p I (.buildSl [_] I I E242 I (fun _ => I) I (enc := Token.enc))<|bK h fun x20 q20 h => .app I I I I I I I I E242 I (fun _ => I) q20<|.A 2 I<|.nil<|.ret ?_
   cases h
   exact zdx I I (.vec I (by simp)) (.d _)
theorem ref02_Kind_ok (n t0 r) (h : zgV n t0 = some r) : Pure pg 204 [.str t0] (.int r) := by
 refine Pure.ot Tryz.func204 I Tryz.ntmps204 I fun A w => .sA 1 I<|.S 1 I<|.Z h I (ref02_Scan_ok _ _) fun x1 h => .A 1 I<|.p I (.extract I I I)<|.p I (.extract I I I)<|.A 2 I<|.nil<|.seq<|.seq<|.plain 23 I<|.A 3 I<|.jO 3 ((x1.1.length : Int) != 2) I (fun b2 => ?_) ?_
 ·refine .A 1 I<|.q I (.len I U242 I)<|.A 1 I<|.nil I
 refine .A 1 I<|gK h fun c4 h => .jO 5 ((((idx x1.1 0).getD default).at_) != 0) I (fun b3 => ?_) ?_
 ·refine .A 1 I<|.q I (.ix I U242 S234 (someD (impF c4 b3)))<|.A 3 I<|.nil I
 refine .A 1 I<|gK h fun c6 h => .jO 7 ((((idx x1.1 0).getD default).end_) != (t0.length : Int)) I (fun b5 => ?_) ?_
 ·refine .A 1 I<|.q I (.ix I U242 S234 (someD (impF c6 b5)))<|.A 3 I<|.q I (.len_str I U9 I)<|.A 1 I<|.nil I
 refine .nil<|.nil<|.K [3,32] I<|.condS I h (fun h => ?_) fun h => ?_
 ·refine .sA 1 I<|.ret (rO h I)
 ·refine .skip<|.S 1 I<|.X h I fun x7 h => .A 3 I<|.nil<|.ret (rO h I)
theorem zil (n t0 r) (h : zfp n t0 = some r) : Pure pg 162 [.str t0] (.bool r) := by
 refine Pure.ot Tryz.func162 I Tryz.ntmps162 I fun A w => .sA 1 I<|.seq<|.plain 8 I<|.A 1 I<|.Z h I (ref02_Kind_ok _ _) fun x1 h => .A 2 I<|.jA 3 (decide ((t0.length : Int) ≤ 16)) I (fun b2 => ?_) ?_
 ·refine .A 1 I<|.q I (.len_str I U9 I)<|.A 1 I<|.nil I
 refine .nil<|.A 1 I<|.nil<|.ret (rO h I)
theorem zez (n t0 r) (h : zbU n t0 = some r) : Pure pg 139 [.int t0] (.bool r) := by
 refine Pure.ot Tryz.func139 I Tryz.ntmps139 I fun A w => .sA 1 I<|.seq<|.plain 6 I<|.A 3 I<|.jO 2 (t0 == 1) I (fun b1 => ?_) ?_
 ·refine .A 2 I<|.nil I
 refine .nil<|.A 1 I<|.nil<|.ret (rO h I)
theorem ze4 (n t0 t1 r) (h : zaA n t0 t1 = some r) : Pure pg 101 [eA t0, eB t1] (.bool r) := by
 refine Pure.ot Tryz.func101 I Tryz.ntmps101 I fun A w => .sA 1 I<|.seq<|.seq<|.plain 13 I<|.A 1 I<|.p I (.len I U22 I)<|.A 2 I<|gK h fun c2 h => .jO 3 (!((za9 n t0).getD default)) I (fun b1 => ?_) ?_
 ·refine .A 1 I<|.q I (.call I (kC I) I (zhk _ _ _ (someD (impF c2 b1))))<|.A 1 I<|.nil I
 refine .A 1 I<|.jO 3 (decide (12 < (t1.length : Int))) I (fun b3 => ?_) ?_
 ·refine .A 1 I<|.q I (.len I U23 I)<|.A 1 I<|.nil I
 refine .nil<|.nil<|.condS I h (fun h => ?_) fun h => ?_
 ·refine .sA 1 I<|.ret (rO h I)
 ·refine .skip<|.sA 2 I<|.K [0,1,5,6] I<|.seq<|.sA 1 I<|.block<|.L [0,1] h (fun v => [(5, .d (.int v.1)), (6, .d (.int v.2.1)), (7, .d (.int v.2.2))]) (fun v => []) I fun _ ⟨x56, x57, x58⟩ h => .seq<|.S 2 I<|.p I (.len I U23 I)<|.A 1 I<|.nil<|.K [0,1,5,6,7,27] I<|.condS I h (fun h => ?_) fun h => ?_
  ·refine .skip<|.J [0,1,7] h (fun v => [(5, .d (.int v.1)), (6, .d (.int v.2))]) (fun v => []) I (fun k_62 h => ?_) (fun v h => ?_)
   ·refine .block<|.S 2 I<|.X h I fun x63 h => .A 1 I<|.allocStore I I I I I I I I (by simp) I I Z127<|.nil<|.seq<|.sA 1 I<|.block<|.L [0,1,5,6,7,8] h (fun v => [(9, .d (.int v))]) (fun v => []) I fun _ x68 h => .seq<|.sA 3 I<|.condS I h (fun h => ?_) fun h => ?_
    ·refine .skip<|.seq<|.block<|.seq<|.draw 8 Hm (by kernel_rfl) (by kernel_rfl)<|.A 2 I<|.X h I fun x70 h => .A 4 I<|.p I (.str_eql I I I)<|.nil<|.nil<|.condS I h (fun h => ?_) fun h => ?_
     ·refine .sA 1 I<|.ret (rO h I)
     ·refine .skip<|.rA 3 I (ndE h I)
    ·refine .exit<|.S 3 I<|.Z h I (zey _ _ _) fun x71 h => .A 1 I<|.nil<|.seq<|.seq<|.plain 18 I<|.A 2 I<|.Z h I (zil _ _) fun x72 h => .A 2 I<|.jO 3 (decide (x63.kind < 0)) I (fun b73 => ?_) ?_
     ·refine .A 3 I<|.nil I
     refine .A 1 I<|.jO 3 (decide (5 < x63.kind)) I (fun b74 => ?_) ?_
     ·refine .A 3 I<|.nil I
     refine .A 1 I<|.jO 2 (x71 == 0) I (fun b75 => ?_) ?_
     ·refine .A 2 I<|.nil I
     refine .nil<|.nil<|.K [0,1,5,6,7,8,10,68] I<|.condS I h (fun h => ?_) fun h => ?_
     ·refine .sA 1 I<|.ret (rO h I)
     ·refine .skip<|.seq<|.seq<|.plain 19 I<|.p I (.fa I (zdD _))<|.A 2 I<|.p I (.fa I (zdD _))<|.A 4 I<|.jO 4 (decide (x63.range.lo < (-9999))) I (fun b76 => ?_) ?_
      ·refine .q I (.fa I (zdD _))<|.A 3 I<|.nil I
      refine .A 1 I<|.jO 4 (decide (9999 < x63.range.hi)) I (fun b77 => ?_) ?_
      ·refine .q I (.fa I (zdD _))<|.A 3 I<|.nil I
      refine .nil<|.nil<|.K [0,1,5,6,7,8,10,87] I<|.condS I h (fun h => ?_) fun h => ?_
      ·refine .sA 1 I<|.ret (rO h I)
      ·refine .skip<|.seq<|.seq<|.plain 25 I<|.A 4 I<|.jO 3 (x63.kind == 2) I (fun b78 => ?_) ?_
       ·refine .A 3 I<|.nil I
       refine .A 1 I<|.jO 3 (x63.kind == 3) I (fun b79 => ?_) ?_
       ·refine .A 3 I<|.nil I
       refine .A 1 I<|.jA 10 ((x63.range.lo != 0) || (x63.range.hi != 1)) I (fun b80 => ?_) ?_
       ·refine .q I (.fa I (zdD _))<|.A 4 I<|.jOr 4 (b2 := x63.range.hi != 1) I I I I (.inr ⟨_, _, _, I, I, I⟩) (fun _ _ _ h1 h2 => by cases h1; cases h2; decide) I I (fun b81 => ?_) ?_
        ·refine .q I (.fa I (zdD _))<|.A 3 I<|.nil I
        exact .nil I
       refine .nil<|.nil<|.K [0,1,5,6,7,8,10,112] I<|.condS I h (fun h => ?_) fun h => ?_
       ·refine .sA 1 I<|.ret (rO h I)
       ·refine .skip<|.S 2 I<|.Z h I (zez _ _) fun x82 h => .nil<|.condS I h (fun h => ?_) fun h => ?_
        ·refine .seq<|.sA 4 I<|.condS I h (fun h => ?_) fun h => ?_
         ·refine .sA 1 I<|.ret (rO h I)
         ·refine .skip<|.rA 4 I (ndE h I)
        ·refine .seq<|.sA 4 I<|.condS I h (fun h => ?_) fun h => ?_
         ·refine .sA 1 I<|.ret (rO h I)
         ·refine .skip<|.rA 4 I (ndE h I)
   ·obtain ⟨x60, x61⟩ := v
    refine .rA 3 I (ndE h I)
  ·refine .exit<|.seq<|.plain 6 I<|.A 3 I<|.jA 2 (decide (x57 ≤ 64)) I (fun b83 => ?_) ?_
   ·refine .A 2 I<|.nil I
   refine .nil<|.A 1 I<|.nil<|.ret (rO h I)
theorem zkG (n t0 t1 t2 r) (h : zaF n t0 t1 t2 = some r) : Pure pg 93 [eA t0, eB t1, .bool t2] (eK r) := by
 refine Pure.ot Tryz.func93 I Tryz.ntmps93 I fun A w => .sr<|.p I (.nilS 2 (α := Range) Range.enc I)<|.nil<|.sr<|.buildVec [] I I I I I E48 I (fun _ => I) I (enc := Range.enc)<|.A 1 I<|.nil<|.seq<|.S 2 I<|.Z h I (ze4 _ _ _) fun x1 h => .A 1 I<|.nil<|.condS I h (fun h => ?_) fun h => ?_
 ·refine .sA 2 I<|.ret ?_
  cases h
  exact zbk I (.vec I (by simp))
 ·refine .skip<|.seq<|.sA 1 I<|.block<|.L [0,1,2] h (fun v => [(7, .vec 0 (List.length v.1)), (8, .d (.int v.2))]) (fun v => [(0, .vec 87 2 (List.map Range.enc v.1))]) I fun _ ⟨b0_62, x63⟩ h => .seq<|.S 2 I<|.p I (.len I U23 I)<|.A 1 I<|.nil<|.K [0,1,2,7,8,19] I<|.condS I h (fun h => ?_) fun h => ?_
  ·refine .skip<|.seq<|.block<|.sA 1 I<|.block<|.L [0,1,2,8] h (fun v => [(7, .vec 0 (List.length v.1)), (9, .d (.int v.2))]) (fun v => [(0, .vec 87 2 (List.map Range.enc v.1))]) I fun _ ⟨b0_83, x84⟩ h => .seq<|.seq<|.plain 19 I<|.A 2 I<|.X h I fun x86 h => .A 2 I<|.Z h I (zez _ _) fun x87 h => .A 1 I<|.p I (.beq I U4 I I)<|.A 1 I<|gK h fun c89 h => gK h fun c90 h => .jA 9 (decide (x84 < ((zZ n t0 (((idx t1 x63).getD default).columns)).getD default))) I (fun b88 => ?_) ?_
   ·refine .A 4 I<|.q I (.ix I U23 S127 (someD (impT c89 b88)))<|.A 2 I<|.q I (.call I (kC I) I (zey _ _ _ _ (someD (impT c90 b88))))<|.A 1 I<|.nil I
   refine .nil<|.nil<|.K [0,1,2,7,8,9,40] I<|.condS I h (fun h => ?_) fun h => ?_
   ·refine .skip<|.seq<|.block<|.region<|.A 3 I<|.X h I fun x91 h => .p I (.fa I (zdD _))<|.A 1 I<|.p I (.buildSl [_] I I E48 I (fun _ => I) I (enc := Range.enc))<|bK h fun x92 q92 h => .app I I I I I I I I E48 I (fun _ => I) q92<|.A 1 I<|.nil<|.rA 3 I (ndE h I)
   ·refine .exit<|.rA 3 I (ndE h I)
  ·refine .exit<|.sA 2 I<|.ret ?_
   cases h
   exact zbk I (.vec I (by simp))
theorem zeA (n t0 r) (h : zce n t0 = some r) : Pure pg 38 [Model.enc t0] (eK r) := by
 refine Pure.ot Tryz.func38 I Tryz.ntmps38 I fun A w => .S 1 I<|.p I (.nilS 2 (α := Range) Range.enc I)<|.nil<|.S 4 I<|.Z h I (zkG _ _ _ _) fun x1 h => .A 1 I<|.nil<|.ret ?_
 cases h
 exact zbk I (.d _)
theorem ref13_Few_ok (n t0 r) (h : zbJ n t0 = some r) : Pure pg 11 [Model.enc t0] (.bool r) := by
 refine Pure.ot Tryz.func11 I Tryz.ntmps11 I fun A w => .sA 2 I<|.seq<|.seq<|.plain 15 I<|.A 1 I<|.Z h I (zjH _ _) fun x1 h => .A 2 I<|.jO 4 (decide (12 < (t0.actions.length : Int))) I (fun b2 => ?_) ?_
 ·refine .A 2 I<|.q I (.len I U27 I)<|.A 1 I<|.nil I
 refine .A 1 I<|.jO 4 (decide (40 < (t0.constraints.length : Int))) I (fun b3 => ?_) ?_
 ·refine .A 2 I<|.q I (.len I U25 I)<|.A 1 I<|.nil I
 refine .nil<|.nil<|.K [1,21] I<|.condS I h (fun h => ?_) fun h => ?_
 ·refine .sA 1 I<|.ret (rO h I)
 ·refine .skip<|.seq<|.sA 1 I<|.block<|.L [1] h (fun v => [(3, .d (.int v))]) (fun v => []) I fun _ x8 h => .seq<|.S 3 I<|.p I (.len I U27 I)<|.A 1 I<|.nil<|.K [1,3,26] I<|.condS I h (fun h => ?_) fun h => ?_
  ·refine .skip<|.seq<|.block<|.S 3 I<|.X h I fun x10 h => .p I (.fa I (G84_2 _))<|.A 2 I<|.p I (.len I U49 I)<|.A 1 I<|.nil<|.condS I h (fun h => ?_) fun h => ?_
   ·refine .sA 1 I<|.ret (rO h I)
   ·refine .skip<|.rA 3 I (ndE h I)
  ·refine .exit<|.S 1 I<|.Z h I (zeA _ _) fun x11 h => .A 1 I<|.nil<|.seq<|.S 1 I<|.p I (.len I U48 I)<|.A 1 I<|.nil<|.condS I h (fun h => ?_) fun h => ?_
   ·refine .sA 1 I<|.ret (rO h I)
   ·refine .skip<|.sA 1 I<|.seq<|.sA 1 I<|.block<|.L [4] h (fun v => [(5, .d (.int v.1)), (6, .d (.int v.2))]) (fun v => []) I fun _ ⟨x20, x21⟩ h => .seq<|.S 2 I<|.p I (.len I U48 I)<|.A 1 I<|.nil<|.K [4,5,6,46] I<|.condS I h (fun h => ?_) fun h => ?_
    ·refine .skip<|.seq<|.block<|.seq<|.draw 15 Hm (by kernel_rfl) (by kernel_rfl)<|.A 3 I<|.X h I fun x23 h => .A 4 I<|.X h I fun x24 h => .A 6 I<|.nil<|.nil<|.sA 2 I<|.K [4,5,6,64] I<|.condS I h (fun h => ?_) fun h => ?_
     ·refine .sA 1 I<|.ret (rO h I)
     ·refine .skip<|.rA 3 I (ndE h I)
    ·refine .exit<|.sA 1 I<|.ret (rO h I)
theorem zfr (n t0 r) (h : zal n t0 = some r) : Pure pg 102 [eC t0] (.bool r) := by
 refine Pure.ot Tryz.func102 I Tryz.ntmps102 I fun A w => .sA 1 I<|.seq<|.sA 1 I<|.block<|.L [0] h (fun v => [(3, .d (.int v))]) (fun v => []) I fun _ x15 h => .seq<|.S 2 I<|.p I (.len I U24 I)<|.A 1 I<|.nil<|.K [0,3,7] I<|.condS I h (fun h => ?_) fun h => ?_
 ·refine .skip<|.seq<|.block<|.seq<|.draw 16 Hm (by kernel_rfl) (by kernel_rfl)<|.A 2 I<|.X h I fun x17 h => .A 1 I<|.Z h I (zil _ _) fun x18 h => .A 2 I<|gK h fun c20 h => gK h fun c21 h => gK h fun c22 h => .jO 8 (((zcp n ((cut t0 0 x15).getD default) ((idx t0 x15).getD default)).getD default)) I (fun b19 => ?_) ?_
  ·refine .A 2 I<|.q I (.cutSlH I I I U24 S9 (someD (impF c20 b19)))<|.A 2 I<|.q I (.ix I U24 S9 (someD (impF c21 b19)))<|.A 1 I<|.q I (.call I (kC I) I (zjq _ _ _ _ (someD (impF c22 b19))))<|.nil I
  refine .nil<|.nil<|.K [0,3,25] I<|.condS I h (fun h => ?_) fun h => ?_
  ·refine .sA 1 I<|.ret (rO h I)
  ·refine .skip<|.rA 3 I (ndE h I)
 ·refine .exit<|.sA 1 I<|.ret (rO h I)
theorem zin (n t0 t1 r) (h : zaG n t0 t1 = some r) : Pure pg 205 [eL t0, eL t1] (.bool r) := by
 refine Pure.ot Tryz.func205 I Tryz.ntmps205 I fun A w => .sA 1 I<|.seq<|.S 1 I<|.p I (.len I U31 I)<|.A 1 I<|.p I (.len I U31 I)<|.A 1 I<|.nil<|.condS I h (fun h => ?_) fun h => ?_
 ·refine .sA 1 I<|.ret (rO h I)
 ·refine .skip<|.seq<|.sA 1 I<|.block<|.L [0,1] h (fun v => [(5, .d (.int v))]) (fun v => []) I fun _ x7 h => .seq<|.S 2 I<|.p I (.len I U31 I)<|.A 1 I<|.nil<|.K [0,1,5,14] I<|.condS I h (fun h => ?_) fun h => ?_
  ·refine .skip<|.seq<|.block<|.seq<|.draw 9 Hm (by kernel_rfl) (by kernel_rfl)<|.A 2 I<|.X h I fun x9 h => .A 3 I<|.X h I fun x10 h => .A 1 I<|.p I (.sneq I SE41 I I (xs := Term.vals _) (ys := Term.vals _) I I I I (SQ41 _ _))<|.nil<|.nil<|.condS I h (fun h => ?_) fun h => ?_
   ·refine .sA 1 I<|.ret (rO h I)
   ·refine .skip<|.rA 3 I (ndE h I)
  ·refine .exit<|.sA 1 I<|.ret (rO h I)
theorem zf3 (n t0 t1 r) (h : zcj n t0 t1 = some r) : Pure pg 164 [Row.enc t0, Row.enc t1] (.bool r) := by
 refine Pure.ot Tryz.func164 I Tryz.ntmps164 I fun A w => .sA 3 I<|.seq<|.plain 12 I<|.A 6 I<|gK h fun c2 h => .jA 5 (((zaG n t0.terms t1.terms).getD default)) I (fun b1 => ?_) ?_
 ·refine .A 4 I<|.q I (.call I (kC I) I (zin _ _ _ _ (someD (impT c2 b1))))<|.nil I
 refine .nil<|.A 1 I<|.nil<|.K [4] I<|.ret (rO h I)
theorem zc6 (n t0 t1 r) (h : zac n t0 t1 = some r) : Pure pg 167 [.int t0, .int t1] (.bool r) := by
 refine Pure.ot Tryz.func167 I Tryz.ntmps167 I fun A w => .sA 1 I<|.seq<|.plain 9 I<|.A 2 I<|.p I (.neg6 I I)<|.A 2 I<|.jA 3 (decide (t0 ≤ t1)) I (fun b1 => ?_) ?_
 ·refine .A 3 I<|.nil I
 refine .nil<|.A 1 I<|.nil<|.ret (rO h I)
theorem zjr (n t0 t1 r) (h : zcb n t0 t1 = some r) : Pure pg 165 [Row.enc t0, .int t1] (.bool r) := by
 refine Pure.ot Tryz.func165 I Tryz.ntmps165 I fun A w => .sA 2 I<|.seq<|.sA 1 I<|.block<|.L [1,2] h (fun v => [(5, .d (.int v))]) (fun v => []) I fun _ x19 h => .seq<|.S 3 I<|.p I (.len I U31 I)<|.A 1 I<|.nil<|.K [1,2,5,11] I<|.condS I h (fun h => ?_) fun h => ?_
 ·refine .skip<|.seq<|.block<|.S 3 I<|.X h I fun x21 h => .A 1 I<|.allocStore I I I I I I I I (by simp) I I Z41<|.nil<|.seq<|.draw 36 Hm (by kernel_rfl) (by kernel_rfl)<|.A 4 I<|.jO 4 (decide (t1 ≤ x21.cell)) I (fun b22 => ?_) ?_
  ·refine .A 4 I<|.nil I
  refine .A 1 I<|gK h fun c25 h => .jO 14 ((decide (0 < x19)) && (decide (x21.cell ≤ ((idx t0.terms (sub64 x19 1)).getD default).cell))) I (fun b23 => ?_) ?_
  ·refine .A 3 I<|.jAnd 10 (b2 := decide (x21.cell ≤ ((idx t0.terms (sub64 x19 1)).getD default).cell)) I I I I (.inr ⟨_, _, _, I, I, I⟩) (fun _ _ _ h1 h2 => by cases h1; cases h2; decide) I I (fun b24 => ?_) ?_
   ·refine .A 4 I<|.q I (.ix I U31 S41 (someD (impT (impF c25 b23) b24)))<|.A 5 I<|.nil I
   exact .nil I
  refine .A 1 I<|.jO 3 (x21.factor == 0) I (fun b26 => ?_) ?_
  ·refine .A 3 I<|.nil I
  refine .A 1 I<|gK h fun c28 h => .jO 4 (!((zac n x21.factor 1000).getD default)) I (fun b27 => ?_) ?_
  ·refine .A 2 I<|.q I (.call I (kC I) I (zc6 _ _ _ _ (someD (impF c28 b27))))<|.A 1 I<|.nil I
  refine .nil<|.nil<|.K [1,2,5,54] I<|.condS I h (fun h => ?_) fun h => ?_
  ·refine .sA 1 I<|.ret (rO h I)
  ·refine .skip<|.rA 3 I (ndE h I)
 ·refine .exit<|.S 2 I<|.Z h I (zc6 _ _ _) fun x29 h => .A 1 I<|.nil<|.ret (rO h I)
theorem ref13_graph_ok (n t0 t1 r) (h : zbw n t0 t1 = some r) : Pure pg 166 [Model.enc t0, Constraint.enc t1] (.bool r) := by
 refine Pure.ot Tryz.func166 I Tryz.ntmps166 I fun A w => .sA 3 I<|.seq<|.seq<|.plain 11 I<|.p I (.fa I (G78_2 _))<|.A 2 I<|.p I (.len I U31 I)<|.A 2 I<|.jO 4 (t1.row.bound != 0) I (fun b1 => ?_) ?_
 ·refine .q I (.fa I (G78_2 _))<|.A 3 I<|.nil I
 refine .nil<|.nil<|.condS I h (fun h => ?_) fun h => ?_
 ·refine .sA 1 I<|.ret (rO h I)
 ·refine .skip<|.seq<|.sA 1 I<|.block<|.L [2,3] h (fun v => [(5, .d (.int v))]) (fun v => []) I fun _ x22 h => .seq<|.S 3 I<|.p I (.len I U23 I)<|.A 1 I<|.nil<|.K [2,3,5,22] I<|.condS I h (fun h => ?_) fun h => ?_
  ·refine .skip<|.seq<|.block<|.S 3 I<|.X h I fun x24 h => .A 1 I<|.allocStore I I I I I I I I (by simp) I I Z127<|.nil<|.seq<|.draw 40 Hm (by kernel_rfl) (by kernel_rfl)<|.A 4 I<|.jA 4 ((x24.columns.length : Int) == 2) I (fun b25 => ?_) ?_
   ·refine .A 2 I<|.q I (.len I U22 I)<|.A 1 I<|.nil I
   refine .A 1 I<|gK h fun c27 h => gK h fun c28 h => .jA 9 (((idx x24.columns 0).getD default) == ((idx x24.columns 1).getD default)) I (fun b26 => ?_) ?_
   ·refine .A 2 I<|.q I (.ix I U22 S3 (someD (impT c27 b26)))<|.A 3 I<|.q I (.ix I U22 S3 (someD (impT c28 b26)))<|.A 2 I<|.nil I
   refine .A 1 I<|.jA 5 (x24.first == t1.first) I (fun b29 => ?_) ?_
   ·refine .A 5 I<|.nil I
   refine .A 1 I<|gK h fun c31 h => gK h fun c32 h => .jA 11 (((idx t0.sorts ((idx x24.columns 0).getD default)).getD default) == t1.size) I (fun b30 => ?_) ?_
   ·refine .A 4 I<|.q I (.ix I U22 S3 (someD (impT c31 b30)))<|.A 1 I<|.q I (.ix I U22 S3 (someD (impT c32 b30)))<|.A 4 I<|.nil I
   refine .nil<|.nil<|.K [2,3,5,69] I<|.condS I h (fun h => ?_) fun h => ?_
   ·refine .sA 1 I<|.ret (rO h I)
   ·refine .skip<|.rA 3 I (ndE h I)
  ·refine .exit<|.sA 1 I<|.ret (rO h I)
theorem zg5 (n t0 r) (h : zN n t0 = some r) : Pure pg 103 [Model.enc t0] (.bool r) := by
 refine Pure.ot Tryz.func103 I Tryz.ntmps103 I fun A w => .sA 2 I<|.S 1 I<|.Z h I (zeA _ _) fun x1 h => .A 1 I<|.nil<|.seq<|.seq<|.plain 13 I<|.A 2 I<|.p I (.len I U25 I)<|.A 1 I<|.p I (.len I U48 I)<|.A 3 I<|.jO 4 (decide (512 < (t0.constraints.length : Int))) I (fun b2 => ?_) ?_
 ·refine .A 2 I<|.q I (.len I U25 I)<|.A 1 I<|.nil I
 refine .nil<|.nil<|.K [1,3,24] I<|.condS I h (fun h => ?_) fun h => ?_
 ·refine .sA 1 I<|.ret (rO h I)
 ·refine .skip<|.seq<|.sA 1 I<|.block<|.L [1,3] h (fun v => [(4, .d (.int v))]) (fun v => []) I fun _ x19 h => .seq<|.S 2 I<|.p I (.len I U48 I)<|.A 1 I<|.nil<|.K [1,3,4,28] I<|.condS I h (fun h => ?_) fun h => ?_
  ·refine .skip<|.seq<|.block<|.S 1 I<|.p I (.castD (Term.enc (⟨x19, (-1)⟩ : Term)) I (.build I Pl41 (.agg Zc41 (ds' := [_, _]) (.e .e1)) I I))<|.p I (.buildSl [_] I I E31 I (fun _ => I) I (enc := Term.enc))<|.A 2 I<|.X h I fun x21 h => .A 2 I<|.p I (.neg6 I I)<|.p I (.castD (Row.enc (⟨[(⟨x19, (-1)⟩ : Term)], neg64 x21.lo⟩ : Row)) I (.build I Pl33 (.agg Zc33 (ds' := [_, _]) (.e .e1)) I I))<|.allocStore I I I I I I I I (by simp) I I Z33<|.nil<|.S 1 I<|.p I (.castD (Term.enc (⟨x19, 1⟩ : Term)) I (.build I Pl41 (.agg Zc41 (ds' := [_, _]) (.e .e1)) I I))<|.p I (.buildSl [_] I I E31 I (fun _ => I) I (enc := Term.enc))<|.A 2 I<|.X h I fun x22 h => .A 2 I<|.p I (.castD (Row.enc (⟨[(⟨x19, 1⟩ : Term)], x22.hi⟩ : Row)) I (.build I Pl33 (.agg Zc33 (ds' := [_, _]) (.e .e1)) I I))<|.allocStore I I I I I I I I (by simp) I I Z33<|.nil<|.K [1,3,4,5,6] I<|.seq<|.draw 23 Hm (by kernel_rfl) (by kernel_rfl)<|.A 4 I<|.X h I fun x23 h => .p I (.fa I (G78_2 _))<|.A 2 I<|.Z h I (zf3 _ _ _) fun x24 h => .A 2 I<|gK h fun c26 h => gK h fun c27 h => .jO 11 (!((zcj n (((idx t0.constraints (add64 (mul64 2 x19) 1)).getD default).row) (⟨[(⟨x19, 1⟩ : Term)], x22.hi⟩ : Row)).getD default)) I (fun b25 => ?_) ?_
   ·refine .A 5 I<|.q I (.ix I U25 S78 (someD (impF c26 b25)))<|.q I (.fa I (G78_2 _))<|.A 2 I<|.q I (.call I (kC I) I (zf3 _ _ _ _ (someD (impF c27 b25))))<|.A 1 I<|.nil I
   refine .nil<|.nil<|.K [1,3,4,72] I<|.condS I h (fun h => ?_) fun h => ?_
   ·refine .sA 1 I<|.ret (rO h I)
   ·refine .skip<|.rA 3 I (ndE h I)
  ·refine .exit<|.seq<|.sA 1 I<|.block<|.L [1,3] h (fun v => [(7, .d (.int v))]) (fun v => []) I fun _ x50 h => .seq<|.S 3 I<|.p I (.len I U25 I)<|.A 1 I<|.nil<|.K [1,3,7,77] I<|.condS I h (fun h => ?_) fun h => ?_
   ·refine .skip<|.seq<|.block<|.S 3 I<|.X h I fun x52 h => .A 1 I<|.allocStore I I I I I I I I (by simp) I I Z78<|.nil<|.seq<|.seq<|.plain 11 I<|.A 4 I<|.jO 6 (decide ((t0.families.length : Int) ≤ x52.family)) I (fun b53 => ?_) ?_
    ·refine .A 4 I<|.q I (.len I U24 I)<|.A 1 I<|.nil I
    refine .nil<|.nil<|.K [1,3,7,8,95] I<|.condS I h (fun h => ?_) fun h => ?_
    ·refine .sA 1 I<|.ret (rO h I)
    ·refine .skip<|.seq<|.plain 20 I<|.A 4 I<|.jA 3 (x52.first == 0) I (fun b54 => ?_) ?_
     ·refine .A 3 I<|.nil I
     refine .A 1 I<|.jA 3 (x52.size == 0) I (fun b55 => ?_) ?_
     ·refine .A 3 I<|.nil I
     refine .A 1 I<|gK h fun c57 h => .jA 5 (((zcb n x52.row (x1.length : Int)).getD default)) I (fun b56 => ?_) ?_
     ·refine .q I (.fa I (G78_2 _))<|.A 2 I<|.q I (.len I U48 I)<|.q I (.call I (kC I) I (zjr _ _ _ _ (someD (impT c57 b56))))<|.nil I
     refine .nil<|.A 1 I<|.nil<|.K [1,3,7,8,9] I<|.seq<|.plain 20 I<|.A 3 I<|gK h fun c61 h => .jA 16 (!(((decide (mul64 2 (x1.length : Int) ≤ x50)) && (x52.kind == 1)) && ((zbw n t0 x52).getD default))) I (fun b58 => ?_) ?_
     ·refine .A 2 I<|.q I (.len I U48 I)<|.A 3 I<|.jAnd 3 (b2 := x52.kind == 1) I I I I (.inr ⟨_, _, _, I, I, I⟩) (fun _ _ _ h1 h2 => by cases h1; cases h2; decide) I I (fun b59 => ?_) ?_
      ·refine .A 3 I<|.nil I
      refine .A 1 I<|.jAnd 3 (b2 := ((zbw n t0 x52).getD default)) I I I I (.inr ⟨_, _, _, I, I, I⟩) (fun _ _ _ h1 h2 => by cases h1; cases h2; decide) I I (fun b60 => ?_) ?_
      ·refine .A 2 I<|.q I (.call I (kC I) I (ref13_graph_ok _ _ _ _ (someD (impT (impT c61 b58) b60))))<|.nil I
      refine .A 1 I<|.nil I
     refine .nil<|.nil<|.K [1,3,7,135] I<|.condS I h (fun h => ?_) fun h => ?_
     ·refine .sA 1 I<|.ret (rO h I)
     ·refine .skip<|.rA 3 I (ndE h I)
   ·refine .exit<|.sA 1 I<|.ret (rO h I)
theorem ref13_less_ok (n t0 t1 r) (h : zbQ n t0 t1 = some r) : Pure pg 168 [eA t0, eA t1] (.bool r) := by
 refine Pure.ot Tryz.func168 I Tryz.ntmps168 I fun A w => .sA 1 I<|.seq<|.sA 1 I<|.block<|.L [0,1] h (fun v => [(5, .d (.int v))]) (fun v => []) I fun _ x13 h => .seq<|.seq<|.plain 10 I<|.A 2 I<|.p I (.len I U22 I)<|.A 2 I<|.jA 4 (decide (x13 < (t1.length : Int))) I (fun b15 => ?_) ?_
 ·refine .A 2 I<|.q I (.len I U22 I)<|.A 1 I<|.nil I
 refine .nil<|.nil<|.K [0,1,5,15] I<|.condS I h (fun h => ?_) fun h => ?_
 ·refine .skip<|.seq<|.block<|.seq<|.draw 9 Hm (by kernel_rfl) (by kernel_rfl)<|.A 2 I<|.X h I fun x16 h => .A 3 I<|.X h I fun x17 h => .A 2 I<|.nil<|.nil<|.condS I h (fun h => ?_) fun h => ?_
  ·refine .seq<|.draw 10 Hm (by kernel_rfl) (by kernel_rfl)<|.A 2 I<|.X h I fun x18 h => .A 3 I<|.X h I fun x19 h => .A 3 I<|.nil<|.nil<|.K [4] I<|.ret (rO h I)
  ·refine .skip<|.rA 3 I (ndE h I)
 ·refine .exit<|.S 1 I<|.p I (.len I U22 I)<|.A 1 I<|.p I (.len I U22 I)<|.A 2 I<|.nil<|.ret (rO h I)
theorem ref09_nth_ok (n t0 t1 t2 r) (h : zdu n t0 t1 t2 = some r) : Pure pg 225 [eA t0, eA t1, .int t2] (eA r) := by
 refine Pure.ot Tryz.func225 I Tryz.ntmps225 I fun A w => .sr<|.p I (.nilS 1 (α := Int) D.int I)<|.nil<|.S 1 I<|.p I (.len I U22 I)<|bK h fun x1 q1 h => .makeVec (enc := D.int) (z := (0 : Int)) I I I I E22 I I I (.val Zv3) q1<|.A 1 I<|.nil<|.seq<|.S 1 I<|.p I (.len I U22 I)<|.A 2 I<|.nil<|.block<|.L [0,1] h (fun v => [(2, .d (.int v.2.1)), (7, .vec 0 (List.length v.1)), (8, .d (.int v.2.2))]) (fun v => [(0, .vec 3 1 (List.map D.int v.1))]) I fun _ ⟨b0_24, x25, x26⟩ h => .seq<|.sA 2 I<|.K [0,1,2,7,8,16] I<|.condS I h (fun h => ?_) fun h => ?_
 ·refine .skip<|.seq<|.block<|.S 6 I<|.X h I fun x28 h => .A 1 I<|.X h I fun x29 h => .A 1 I<|bK h fun x30 q30 h => .p I (.rem6 I I I q30)<|bK h fun x31 q31 h => .p I (.idxV I I I I I U22 S3 q31)<|bK h fun b0_32 hb0_32 h => .storeEl (enc := D.int) I I I I I I I I I C3 hb0_32<|.relen 7 I (zdb hb0_32)<|.relen 19 I (zdb hb0_32)<|.nil<|.region<|.A 4 I<|.X h I fun x33 h => .A 1 I<|.X h I fun x34 h => .A 1 I<|bK h fun x35 q35 h => .p I (.quo6 I I I q35)<|.A 1 I<|.nil<|.K [0,1,2,7,8] I<|.rA 3 I (ndE h I)
 ·refine .exit<|.sA 2 I<|.ret ?_
  cases h
  exact zbk I (.vec I (by simp))
theorem ref09_Tuple_ok (n t0 t1 t2 t3 r) (h : zci n t0 t1 t2 t3 = some r) : Pure pg 206 [eA t0, eB t1, .bool t2, .int t3] (.tup [.int r.1, eA r.2.1, .bool r.2.2]) := by
 refine Pure.ot Tryz.func206 I Tryz.ntmps206 I fun A w => .S 1 I<|.p I (.nilS 1 (α := Int) D.int I)<|.A 1 I<|.nil<|.seq<|.S 2 I<|.Z h I (ze4 _ _ _) fun x1 h => .A 1 I<|.nil<|.condS I h (fun h => ?_) fun h => ?_
 ·refine .S 1 I<|.p I (.nilS 1 (α := Int) D.int I)<|.A 1 I<|.nil<|.ret ?_
  cases h
  exact zgX I I I (.d _) (.d _) (.d _)
 ·refine .skip<|.seq<|.sA 1 I<|.block<|.L [0,1,2,3] h (fun v => [(11, .d (.int v))]) (fun v => []) I fun _ x24 h => .seq<|.S 2 I<|.p I (.len I U23 I)<|.A 1 I<|.nil<|.K [0,1,2,3,11,20] I<|.condS I h (fun h => ?_) fun h => ?_
  ·refine .skip<|.seq<|.block<|.S 3 I<|.X h I fun x26 h => .A 4 I<|.nil<|.seq<|.plain 27 I<|.A 2 I<|.X h I fun x27 h => .A 2 I<|.Z h I (zez _ _) fun x28 h => .A 1 I<|.p I (.beq I U4 I I)<|.A 1 I<|.jA 2 (decide (0 ≤ t3)) I (fun b29 => ?_) ?_
   ·refine .A 2 I<|.nil I
   refine .A 1 I<|.jA 2 (decide (0 ≤ sub64 t3 x26.first)) I (fun b30 => ?_) ?_
   ·refine .A 2 I<|.nil I
   refine .A 1 I<|gK h fun c32 h => gK h fun c33 h => .jA 9 (decide (sub64 t3 x26.first < ((zZ n t0 (((idx t1 x24).getD default).columns)).getD default))) I (fun b31 => ?_) ?_
   ·refine .A 4 I<|.q I (.ix I U23 S127 (someD (impT c32 b31)))<|.A 2 I<|.q I (.call I (kC I) I (zey _ _ _ _ (someD (impT c33 b31))))<|.A 1 I<|.nil I
   refine .nil<|.nil<|.K [0,1,2,3,11,12,56] I<|.condS I h (fun h => ?_) fun h => ?_
   ·refine .S 4 I<|.X h I fun x34 h => .A 3 I<|.Z h I (ref09_nth_ok _ _ _ _) fun x35 h => .A 3 I<|.nil<|.ret ?_
    cases h
    exact zgX I I I (.d _) (.d _) (.d _)
   ·refine .skip<|.rA 3 I (ndE h I)
  ·refine .exit<|.S 1 I<|.p I (.nilS 1 (α := Int) D.int I)<|.A 1 I<|.nil<|.ret ?_
   cases h
   exact zgX I I I (.d _) (.d _) (.d _)
theorem zjs (n t0 r) (h : zip n t0 = some r) : Pure pg 207 [.int t0] (.bool r) := by
 refine Pure.ot Tryz.func207 I Tryz.ntmps207 I fun A w => .sA 1 I<|.seq<|.plain 6 I<|.A 3 I<|.jO 2 (t0 == 3) I (fun b1 => ?_) ?_
 ·refine .A 2 I<|.nil I
 refine .nil<|.A 1 I<|.nil<|.ret (rO h I)
theorem zkH (n t0 t1 r) (h : zV n t0 t1 = some r) : Pure pg 169 [Model.enc t0, Effect.enc t1] (.bool r) := by
 refine Pure.ot Tryz.func169 I Tryz.ntmps169 I fun A w => .sA 3 I<|.S 1 I<|.Z h I (zeA _ _) fun x1 h => .p I (.len I U48 I)<|.A 1 I<|.nil<|.seq<|.sA 1 I<|.block<|.L [2,3,5] h (fun v => [(6, .d (.int v))]) (fun v => []) I fun _ x20 h => .seq<|.S 3 I<|.p I (.len I U79 I)<|.A 1 I<|.nil<|.K [2,3,5,6,22] I<|.condS I h (fun h => ?_) fun h => ?_
 ·refine .skip<|.seq<|.block<|.S 3 I<|.X h I fun x22 h => .A 1 I<|.allocStore I I I I I I I I (by simp) I I Z131<|.nil<|.seq<|.draw 36 Hm (by kernel_rfl) (by kernel_rfl)<|.A 4 I<|.jO 4 (decide ((x1.length : Int) ≤ x22.cell)) I (fun b23 => ?_) ?_
  ·refine .A 4 I<|.nil I
  refine .A 1 I<|gK h fun c26 h => .jO 14 ((decide (0 < x20)) && (decide (x22.cell ≤ ((idx t1.delta (sub64 x20 1)).getD default).cell))) I (fun b24 => ?_) ?_
  ·refine .A 3 I<|.jAnd 10 (b2 := decide (x22.cell ≤ ((idx t1.delta (sub64 x20 1)).getD default).cell)) I I I I (.inr ⟨_, _, _, I, I, I⟩) (fun _ _ _ h1 h2 => by cases h1; cases h2; decide) I I (fun b25 => ?_) ?_
   ·refine .A 4 I<|.q I (.ix I U79 S131 (someD (impT (impF c26 b24) b25)))<|.A 5 I<|.nil I
   exact .nil I
  refine .A 1 I<|.jO 3 (x22.add == 0) I (fun b27 => ?_) ?_
  ·refine .A 3 I<|.nil I
  refine .A 1 I<|gK h fun c29 h => .jO 4 (!((zac n x22.add 1000000000).getD default)) I (fun b28 => ?_) ?_
  ·refine .A 2 I<|.q I (.call I (kC I) I (zc6 _ _ _ _ (someD (impF c29 b28))))<|.A 1 I<|.nil I
  refine .nil<|.nil<|.K [2,3,5,6,65] I<|.condS I h (fun h => ?_) fun h => ?_
  ·refine .sA 1 I<|.ret (rO h I)
  ·refine .skip<|.rA 3 I (ndE h I)
 ·refine .exit<|.seq<|.sA 1 I<|.block<|.L [2,3,5] h (fun v => [(8, .d (.int v))]) (fun v => []) I fun _ x36 h => .seq<|.S 3 I<|.p I (.len I U49 I)<|.A 1 I<|.nil<|.K [2,3,5,8,70] I<|.condS I h (fun h => ?_) fun h => ?_
  ·refine .skip<|.seq<|.block<|.S 3 I<|.X h I fun x38 h => .A 2 I<|.Z h I (zjr _ _ _) fun x39 h => .A 1 I<|.nil<|.condS I h (fun h => ?_) fun h => ?_
   ·refine .sA 1 I<|.ret (rO h I)
   ·refine .skip<|.rA 3 I (ndE h I)
  ·refine .exit<|.seq<|.sA 1 I<|.block<|.L [2,3] h (fun v => [(9, .d (.int v))]) (fun v => []) I fun _ x70 h => .seq<|.S 3 I<|.p I (.len I U80 I)<|.A 1 I<|.nil<|.K [2,3,9,85] I<|.condS I h (fun h => ?_) fun h => ?_
   ·refine .skip<|.seq<|.block<|.S 3 I<|.X h I fun x72 h => .A 1 I<|.allocStore I I I I I I I I (by simp) I I Z218<|.nil<|.S 6 I<|.Z h I (ref09_Tuple_ok _ _ _ _ _) fun x73 h => .A 1 I<|.p I (.extract I I I)<|.p I (.extract I I I)<|.p I (.extract I I I)<|.A 3 I<|.nil<|.K [2,3,9,10,11,13] I<|.seq<|.seq<|.draw 18 Hm (by kernel_rfl) (by kernel_rfl)<|.A 3 I<|gK h fun c76 h => .jO 14 ((decide (0 < x70)) && (decide (x72.cell ≤ ((idx t1.updates (sub64 x70 1)).getD default).cell))) I (fun b74 => ?_) ?_
    ·refine .A 3 I<|.jAnd 10 (b2 := decide (x72.cell ≤ ((idx t1.updates (sub64 x70 1)).getD default).cell)) I I I I (.inr ⟨_, _, _, I, I, I⟩) (fun _ _ _ h1 h2 => by cases h1; cases h2; decide) I I (fun b75 => ?_) ?_
     ·refine .A 4 I<|.q I (.ix I U80 S218 (someD (impT (impF c76 b74) b75)))<|.A 5 I<|.nil I
     exact .nil I
    refine .nil<|.nil<|.K [2,3,9,10,11,121] I<|.condS I h (fun h => ?_) fun h => ?_
    ·refine .sA 1 I<|.ret (rO h I)
    ·refine .skip<|.S 3 I<|.X h I fun x77 h => .A 1 I<|.allocStore I I I I I I I I (by simp) I I Z127<|.nil<|.seq<|.seq<|.plain 18 I<|.A 2 I<|.Z h I (zjs _ _) fun x78 h => .A 1 I<|.jA 13 (((x72.kind != 0) && (x72.kind != 1)) || (x72.value != 0)) I (fun b79 => ?_) ?_
     ·refine .A 4 I<|.jAnd 3 (b2 := x72.kind != 1) I I I I (.inr ⟨_, _, _, I, I, I⟩) (fun _ _ _ h1 h2 => by cases h1; cases h2; decide) I I (fun b80 => ?_) ?_
      ·refine .A 3 I<|.nil I
      refine .A 1 I<|.jOr 3 (b2 := x72.value != 0) I I I I (.inr ⟨_, _, _, I, I, I⟩) (fun _ _ _ h1 h2 => by cases h1; cases h2; decide) I I (fun b81 => ?_) ?_
      ·refine .A 3 I<|.nil I
      exact .nil I
     refine .nil<|.nil<|.K [2,3,9,10,14,144] I<|.condS I h (fun h => ?_) fun h => ?_
     ·refine .sA 1 I<|.ret (rO h I)
     ·refine .skip<|.seq<|.plain 25 I<|.A 2 I<|.Z h I (zjs _ _) fun x82 h => .A 2 I<|.jA 19 (((x72.kind != 2) || (decide (x72.value < x77.range.lo))) || (decide (x77.range.hi < x72.value))) I (fun b83 => ?_) ?_
      ·refine .A 4 I<|.jOr 6 (b2 := decide (x72.value < x77.range.lo)) I I I I (.inr ⟨_, _, _, I, I, I⟩) (fun _ _ _ h1 h2 => by cases h1; cases h2; decide) I I (fun b84 => ?_) ?_
       ·refine .A 2 I<|.q I (.fa I (zdD _))<|.A 3 I<|.nil I
       refine .A 1 I<|.jOr 6 (b2 := decide (x77.range.hi < x72.value)) I I I I (.inr ⟨_, _, _, I, I, I⟩) (fun _ _ _ h1 h2 => by cases h1; cases h2; decide) I I (fun b85 => ?_) ?_
       ·refine .A 2 I<|.q I (.fa I (zdD _))<|.A 3 I<|.nil I
       exact .nil I
      refine .nil<|.nil<|.K [2,3,9,169] I<|.condS I h (fun h => ?_) fun h => ?_
      ·refine .sA 1 I<|.ret (rO h I)
      ·refine .skip<|.rA 3 I (ndE h I)
   ·refine .exit<|.seq<|.plain 10 I<|.A 2 I<|.p I (.len I U49 I)<|.A 2 I<|.jA 4 (decide ((t1.updates.length : Int) ≤ 32)) I (fun b86 => ?_) ?_
    ·refine .A 2 I<|.q I (.len I U80 I)<|.A 1 I<|.nil I
    refine .nil<|.A 1 I<|.nil<|.ret (rO h I)
theorem zjJ (n t0 r) (h : zt n t0 = some r) : Pure pg 104 [Model.enc t0] (.bool r) := by
 refine Pure.ot Tryz.func104 I Tryz.ntmps104 I fun A w => .sA 2 I<|.sr<|.buildVec [] I I I I I E24 I (fun _ => I) I (enc := D.str)<|.A 1 I<|.nil<|.seq<|.sA 1 I<|.block<|.L [1] h (fun v => [(3, .vec 0 (List.length v.1)), (4, .d (.int v.2))]) (fun v => [(0, .vec 9 1 (List.map D.str v.1))]) I fun _ ⟨b0_35, x36⟩ h => .seq<|.S 3 I<|.p I (.len I U26 I)<|.A 1 I<|.nil<|.K [1,3,4,17] I<|.condS I h (fun h => ?_) fun h => ?_
 ·refine .skip<|.seq<|.block<|.S 3 I<|.X h I fun x38 h => .A 1 I<|.allocStore I I I I I I I I (by simp) I I Z129<|.nil<|.S 3 I<|.p I (.buildSl [_] I I E24 I (fun _ => I) I (enc := D.str))<|bK h fun x39 q39 h => .app I I I I I I I I E24 I (fun _ => I) q39<|.A 1 I<|.nil<|.seq<|.sA 1 I<|.block<|.L [1,3,4,5] h (fun v => [(6, .d (.int v))]) (fun v => []) I fun _ x48 h => .seq<|.S 3 I<|.p I (.len I U22 I)<|.A 1 I<|.nil<|.K [1,3,4,5,6,34] I<|.condS I h (fun h => ?_) fun h => ?_
  ·refine .skip<|.seq<|.block<|.seq<|.draw 17 Hm (by kernel_rfl) (by kernel_rfl)<|.A 3 I<|.X h I fun x50 h => .A 3 I<|gK h fun c52 h => .jO 9 (decide ((t0.sorts.length : Int) ≤ ((idx x38.sorts x48).getD default))) I (fun b51 => ?_) ?_
   ·refine .A 3 I<|.q I (.ix I U22 S3 (someD (impF c52 b51)))<|.A 3 I<|.q I (.len I U22 I)<|.A 1 I<|.nil I
   refine .nil<|.nil<|.K [1,3,4,5,6,53] I<|.condS I h (fun h => ?_) fun h => ?_
   ·refine .sA 1 I<|.ret (rO h I)
   ·refine .skip<|.rA 3 I (ndE h I)
  ·refine .exit<|.S 2 I<|.p I (.len I U22 I)<|.A 1 I<|.nil<|.condS I h (fun h => ?_) fun h => ?_
   ·refine .sA 1 I<|.ret (rO h I)
   ·refine .skip<|.rA 3 I (ndE h I)
 ·refine .exit<|.seq<|.seq<|.plain 15 I<|.A 2 I<|.p I (.len I U26 I)<|.A 2 I<|gK h fun c54 h => .jO 3 (!((zal n b0_35).getD default)) I (fun b53 => ?_) ?_
  ·refine .A 1 I<|.q I (.callB I (kC I) (.cons I (.vec I (by simp)) .nil) I (zfr _ _ _ (someD (impF c54 b53))))<|.A 1 I<|.nil I
  refine .A 1 I<|.jO 4 (decide (256 < (t0.actions.length : Int))) I (fun b55 => ?_) ?_
  ·refine .A 2 I<|.q I (.len I U27 I)<|.A 1 I<|.nil I
  refine .nil<|.nil<|.condS I h (fun h => ?_) fun h => ?_
  ·refine .sA 1 I<|.K [2] I<|.ret (rO h I)
  ·refine .skip<|.seq<|.sA 1 I<|.K [1,7] I<|.block<|.L [1] h (fun v => [(7, .d (.int v))]) (fun v => []) I fun _ x152 h => .seq<|.S 3 I<|.p I (.len I U27 I)<|.A 1 I<|.nil<|.K [1,7,77] I<|.condS I h (fun h => ?_) fun h => ?_
   ·refine .skip<|.seq<|.block<|.S 3 I<|.X h I fun x154 h => .A 1 I<|.allocStore I I I I I I I I (by simp) I I Z84<|.nil<|.seq<|.seq<|.draw 25 Hm (by kernel_rfl) (by kernel_rfl)<|.A 4 I<|.jO 6 (decide ((t0.operations.length : Int) ≤ x154.operation)) I (fun b155 => ?_) ?_
    ·refine .A 4 I<|.q I (.len I U26 I)<|.A 1 I<|.nil I
    refine .A 1 I<|gK h fun c157 h => .jO 12 ((x154.arguments.length : Int) != ((((idx t0.operations x154.operation).getD default).sorts).length : Int)) I (fun b156 => ?_) ?_
    ·refine .A 2 I<|.q I (.len I U22 I)<|.A 4 I<|.q I (.ix I U26 S129 (someD (impF c157 b156)))<|.A 2 I<|.q I (.len I U22 I)<|.A 1 I<|.nil I
    refine .nil<|.nil<|.K [1,7,8,109] I<|.condS I h (fun h => ?_) fun h => ?_
    ·refine .sA 1 I<|.ret (rO h I)
    ·refine .skip<|.seq<|.sA 1 I<|.block<|.L [1,7,8] h (fun v => [(9, .d (.int v))]) (fun v => []) I fun _ x182 h => .seq<|.S 3 I<|.p I (.len I U22 I)<|.A 1 I<|.nil<|.K [1,7,8,9,114] I<|.condS I h (fun h => ?_) fun h => ?_
     ·refine .skip<|.seq<|.block<|.S 4 I<|.X h I fun x184 h => .A 3 I<|.X h I fun x185 h => .A 2 I<|.nil<|.seq<|.draw 36 Hm (by kernel_rfl) (by kernel_rfl)<|.A 3 I<|gK h fun c187 h => gK h fun c188 h => .jA 7 (!((zac n ((idx x154.arguments x182).getD default) 9999).getD default)) I (fun b186 => ?_) ?_
      ·refine .A 3 I<|.q I (.ix I U22 S3 (someD (impT c187 b186)))<|.A 1 I<|.q I (.call I (kC I) I (zc6 _ _ _ _ (someD (impT c188 b186))))<|.A 1 I<|.nil I
      refine .A 1 I<|gK h fun c191 h => gK h fun c193 h => gK h fun c194 h => .jO 23 ((decide (0 ≤ x185)) && ((decide (((idx x154.arguments x182).getD default) < 0)) || (decide (((idx t0.sorts x185).getD default) ≤ ((idx x154.arguments x182).getD default))))) I (fun b189 => ?_) ?_
      ·refine .A 3 I<|.jAnd 19 (b2 := (decide (((idx x154.arguments x182).getD default) < 0)) || (decide (((idx t0.sorts x185).getD default) ≤ ((idx x154.arguments x182).getD default)))) I I I I (.inr ⟨_, _, _, I, I, I⟩) (fun _ _ _ h1 h2 => by cases h1; cases h2; decide) I I (fun b190 => ?_) ?_
       ·refine .A 3 I<|.q I (.ix I U22 S3 (someD (impT (impF c191 b189) b190)))<|.A 3 I<|.jOr 11 (b2 := decide (((idx t0.sorts x185).getD default) ≤ ((idx x154.arguments x182).getD default))) I I I I (.inr ⟨_, _, _, I, I, I⟩) (fun _ _ _ h1 h2 => by cases h1; cases h2; decide) I I (fun b192 => ?_) ?_
        ·refine .A 3 I<|.q I (.ix I U22 S3 (someD (impF (impT (impF c193 b189) b190) b192)))<|.A 4 I<|.q I (.ix I U22 S3 (someD (impF (impT (impF c194 b189) b190) b192)))<|.A 2 I<|.nil I
        exact .nil I
       exact .nil I
      refine .nil<|.nil<|.K [1,7,8,9,162] I<|.condS I h (fun h => ?_) fun h => ?_
      ·refine .sA 1 I<|.ret (rO h I)
      ·refine .skip<|.rA 3 I (ndE h I)
     ·refine .exit<|.J [1,7,8] h (fun v => []) (fun v => []) I (fun k_195 h => ?_) (fun v h => ?_)
      ·refine .sA 2 I<|.condS I h (fun h => ?_) fun h => ?_
       ·refine .S 4 I<|.X h I fun x196 h => .A 1 I<|.allocStore I I I I I I I I (by simp) I I Z84<|.nil<|.seq<|.plain 20 I<|.A 6 I<|gK h fun c199 h => .jO 13 ((x196.operation == x154.operation) && (!((zbQ n x196.arguments x154.arguments).getD default))) I (fun b197 => ?_) ?_
        ·refine .A 6 I<|.jAnd 6 (b2 := !((zbQ n x196.arguments x154.arguments).getD default)) I I I I (.inr ⟨_, _, _, I, I, I⟩) (fun _ _ _ h1 h2 => by cases h1; cases h2; decide) I I (fun b198 => ?_) ?_
         ·refine .A 4 I<|.q I (.call I (kC I) I (ref13_less_ok _ _ _ _ (someD (impT (impF c199 b197) b198))))<|.A 1 I<|.nil I
         exact .nil I
        refine .nil<|.nil<|.K [1,7,8,190] I<|.condS I h (fun h => ?_) fun h => ?_
        ·refine .sA 1 I<|.ret (rO h I)
        ·refine .skip (ndE h I)
       ·refine .skip (ndE h I)
      ·refine .S 1 I<|.p I (.fa I (G84_2 _))<|.A 1 I<|.Z h I (zkH _ _ _) fun x200 h => .A 1 I<|.nil<|.K [1,7,195] I<|.condS I h (fun h => ?_) fun h => ?_
       ·refine .sA 1 I<|.ret (rO h I)
       ·refine .skip<|.rA 3 I (ndE h I)
   ·refine .exit<|.sA 1 I<|.ret (rO h I)
theorem zjK (n : Nat) (self : Model → Int → Int → Int → Option Bool) (hself : ∀ (t0 : Model) (t1 : Int) (t2 : Int) (t3 : Int) (r : Bool), self t0 t1 t2 t3 = some r → Pure pg 170 [Model.enc t0, .int t1, .int t2, .int t3] (.bool r)) (t0 : Model) (t1 : Int) (t2 : Int) (t3 : Int) (r : Bool) (h : zas.body n self t0 t1 t2 t3 = some r) : Pure pg 170 [Model.enc t0, .int t1, .int t2, .int t3] (.bool r) := by
 refine Pure.ot Tryz.func170 I Tryz.ntmps170 I fun A w => .sA 2 I<|.seq<|.sA 3 I<|.condS I h (fun h => ?_) fun h => ?_
 ·refine .sA 1 I<|.ret (rO h I)
 ·refine .skip<|.seq<|.sA 1 I<|.block<|.L [1,2,3,4] h (fun v => [(9, .d (.int v))]) (fun v => []) I fun _ x13 h => .seq<|.seq<|.plain 9 I<|.A 3 I<|.p I (.len I U28 I)<|.A 2 I<|.jA 2 (decide (0 < t3)) I (fun b15 => ?_) ?_
  ·refine .A 2 I<|.nil I
  refine .nil<|.nil<|.K [1,2,3,4,9,21] I<|.condS I h (fun h => ?_) fun h => ?_
  ·refine .skip<|.seq<|.block<|.seq<|.draw 21 Hm (by kernel_rfl) (by kernel_rfl)<|.A 3 I<|.X h I fun x16 h => .A 5 I<|gK h fun c18 h => gK h fun c19 h => .jA 11 (((self t0 (((idx t0.hides x13).getD default).to) t2 (sub64 t3 1)).getD default)) I (fun b17 => ?_) ?_
   ·refine .A 4 I<|.q I (.ix I U28 S179 (someD (impT c18 b17)))<|.A 5 I<|.q I (.call I (kC I) I (hself _ _ _ _ _ (someD (impT c19 b17))))<|.nil I
   refine .nil<|.nil<|.K [1,2,3,4,9,44] I<|.condS I h (fun h => ?_) fun h => ?_
   ·refine .sA 1 I<|.ret (rO h I)
   ·refine .skip<|.rA 3 I (ndE h I)
  ·refine .exit<|.sA 1 I<|.ret (rO h I)
theorem zhm  : ∀ (n : Nat) (t0 : Model) (t1 : Int) (t2 : Int) (t3 : Int) (r : Bool) (h : zas n t0 t1 t2 t3 = some r), Pure pg 170 [Model.enc t0, .int t1, .int t2, .int t3] (.bool r)
 | 0, t0, t1, t2, t3, r, h => by cases h
 | n + 1, t0, t1, t2, t3, r, h => zjK n (zas n) (zhm n) t0 t1 t2 t3 r h
theorem zkJ (n t0 r) (h : zap n t0 = some r) : Pure pg 105 [Model.enc t0] (.bool r) := by
 refine Pure.ot Tryz.func105 I Tryz.ntmps105 I fun A w => .sA 2 I<|.seq<|.S 2 I<|.p I (.len I U28 I)<|.A 1 I<|.nil<|.condS I h (fun h => ?_) fun h => ?_
 ·refine .sA 1 I<|.ret (rO h I)
 ·refine .skip<|.seq<|.sA 1 I<|.block<|.L [1] h (fun v => [(3, .d (.int v))]) (fun v => []) I fun _ x31 h => .seq<|.S 3 I<|.p I (.len I U28 I)<|.A 1 I<|.nil<|.K [1,3,16] I<|.condS I h (fun h => ?_) fun h => ?_
  ·refine .skip<|.seq<|.block<|.S 3 I<|.X h I fun x33 h => .A 1 I<|.allocStore I I I I I I I I (by simp) I I Z179<|.nil<|.seq<|.seq<|.plain 31 I<|.A 4 I<|.jO 6 (decide ((t0.tables.length : Int) ≤ x33.table)) I (fun b34 => ?_) ?_
   ·refine .A 4 I<|.q I (.len I U23 I)<|.A 1 I<|.nil I
   refine .A 1 I<|.jO 3 (decide (x33.to < 0)) I (fun b35 => ?_) ?_
   ·refine .A 3 I<|.nil I
   refine .A 1 I<|.jO 6 (decide ((t0.tables.length : Int) ≤ x33.to)) I (fun b36 => ?_) ?_
   ·refine .A 4 I<|.q I (.len I U23 I)<|.A 1 I<|.nil I
   refine .A 1 I<|.jO 5 (x33.table == x33.to) I (fun b37 => ?_) ?_
   ·refine .A 5 I<|.nil I
   refine .nil<|.nil<|.K [1,3,4,54] I<|.condS I h (fun h => ?_) fun h => ?_
   ·refine .sA 1 I<|.ret (rO h I)
   ·refine .skip<|.seq<|.draw 16 Hm (by kernel_rfl) (by kernel_rfl)<|.A 4 I<|.X h I fun x38 h => .A 5 I<|.X h I fun x39 h => .A 1 I<|.alloc I I I I ZZ127<|.alloc I I I I ZZ127<|.store I I I I I I Z127<|.store I I I I I I Z127<|.nil<|.freezes [0, 1] (.cons (t := 5) (d := .ref (Table.enc x38)) I (.loc (inIds I) I (.v (.v (.v (.v (.v .v1)))))) (.cons (t := 6) (d := .ref (Table.enc x39)) I (.loc (inIds I) I (.v (.v (.v (.v (.v .v1)))))) .nil))<|.nil<|.K [1,3,4,5,6] I<|.seq<|.draw 40 Hm (by kernel_rfl) (by kernel_rfl)<|.A 4 I<|.jO 3 (x39.kind != 0) I (fun b40 => ?_) ?_
    ·refine .A 3 I<|.nil I
    refine .A 1 I<|.jO 3 (decide (x33.column < 0)) I (fun b41 => ?_) ?_
    ·refine .A 3 I<|.nil I
    refine .A 1 I<|.jO 6 (decide ((x38.columns.length : Int) ≤ x33.column)) I (fun b42 => ?_) ?_
    ·refine .A 4 I<|.q I (.len I U22 I)<|.A 1 I<|.nil I
    refine .A 1 I<|.jO 4 ((x39.columns.length : Int) != 1) I (fun b43 => ?_) ?_
    ·refine .A 2 I<|.q I (.len I U22 I)<|.A 1 I<|.nil I
    refine .A 1 I<|gK h fun c45 h => gK h fun c46 h => .jO 11 (((idx x39.columns 0).getD default) != ((idx x38.columns x33.column).getD default)) I (fun b44 => ?_) ?_
    ·refine .A 2 I<|.q I (.ix I U22 S3 (someD (impF c45 b44)))<|.A 5 I<|.q I (.ix I U22 S3 (someD (impF c46 b44)))<|.A 2 I<|.nil I
    refine .nil<|.nil<|.K [1,3,106] I<|.condS I h (fun h => ?_) fun h => ?_
    ·refine .sA 1 I<|.ret (rO h I)
    ·refine .skip<|.rA 3 I (ndE h I)
  ·refine .exit<|.seq<|.sA 1 I<|.block<|.L [1] h (fun v => [(7, .d (.int v))]) (fun v => []) I fun _ x55 h => .seq<|.S 3 I<|.p I (.len I U28 I)<|.A 1 I<|.nil<|.K [1,7,111] I<|.condS I h (fun h => ?_) fun h => ?_
   ·refine .skip<|.seq<|.block<|.seq<|.draw 17 Hm (by kernel_rfl) (by kernel_rfl)<|.A 4 I<|.X h I fun x57 h => .A 5 I<|.X h I fun x58 h => .A 4 I<|.p I (.len I U23 I)<|.Z h I (zhm _ _ _ _ _) fun x59 h => .nil<|.nil<|.K [1,7,130] I<|.condS I h (fun h => ?_) fun h => ?_
    ·refine .sA 1 I<|.ret (rO h I)
    ·refine .skip<|.rA 3 I (ndE h I)
   ·refine .exit<|.sA 1 I<|.ret (rO h I)
theorem ref13_Valid_ok (n t0 r) (h : zfT n t0 = some r) : Pure pg 41 [Model.enc t0] (.bool r) := by
 refine Pure.ot Tryz.func41 I Tryz.ntmps41 I fun A w => .sA 2 I<|.seq<|.seq<|.plain 18 I<|.A 4 I<|.Z h I (ze4 _ _ _) fun x1 h => .A 2 I<|.jO 4 (decide (24 < (t0.families.length : Int))) I (fun b2 => ?_) ?_
 ·refine .A 2 I<|.q I (.len I U24 I)<|.A 1 I<|.nil I
 refine .A 1 I<|gK h fun c4 h => .jO 4 (!((zal n t0.families).getD default)) I (fun b3 => ?_) ?_
 ·refine .A 2 I<|.q I (.call I (kC I) I (zfr _ _ _ (someD (impF c4 b3))))<|.A 1 I<|.nil I
 refine .nil<|.nil<|.K [1,20] I<|.condS I h (fun h => ?_) fun h => ?_
 ·refine .sA 1 I<|.ret (rO h I)
 ·refine .skip<|.seq<|.plain 10 I<|.A 1 I<|.Z h I (zg5 _ _) fun x5 h => .A 1 I<|gK h fun c7 h => .jA 2 (((zt n t0).getD default)) I (fun b6 => ?_) ?_
  ·refine .A 1 I<|.q I (.call I (kC I) I (zjJ _ _ _ (someD (impT c7 b6))))<|.nil I
  refine .A 1 I<|gK h fun c9 h => .jA 2 (((zap n t0).getD default)) I (fun b8 => ?_) ?_
  ·refine .A 1 I<|.q I (.call I (kC I) I (zkJ _ _ _ (someD (impT c9 b8))))<|.nil I
  refine .nil<|.A 1 I<|.nil<|.ret (rO h I)
theorem ref22_Add_ok (n t0 t1 r) (h : zbf n t0 t1 = some r) : Pure pg 106 [Effect.enc t0, .int t1] (.int r) := by
 refine Pure.ot Tryz.func106 I Tryz.ntmps106 I fun A w => .sA 2 I<|.sA 1 I<|.seq<|.sA 1 I<|.block<|.L [1,2] h (fun v => [(5, .d (.int v.1)), (6, .d (.int v.2))]) (fun v => []) I fun _ ⟨x13, x14⟩ h => .seq<|.S 3 I<|.p I (.len I U79 I)<|.A 1 I<|.nil<|.K [1,2,5,6,11] I<|.condS I h (fun h => ?_) fun h => ?_
 ·refine .skip<|.J [1,2,6] h (fun v => [(5, .d (.int v))]) (fun v => []) I (fun k_17 h => ?_) (fun x16 h => ?_)
  ·refine .block<|.S 3 I<|.X h I fun x18 h => .A 4 I<|.nil<|.condS I h (fun h => ?_) fun h => ?_
   ·refine .region<|.A 4 I<|.X h I fun x19 h => .A 4 I<|.nil (ndE h I)
   ·refine .skip (ndE h I)
  ·refine .rA 3 I (ndE h I)
 ·refine .exit<|.sA 2 I<|.ret (rO h I)
theorem ref16_Valid_ok (n t0 t1 r) (h : zfU n t0 t1 = some r) : Pure pg 22 [Model.enc t0, Question.enc t1] (.bool r) := by
 refine Pure.ot Tryz.func22 I Tryz.ntmps22 I fun A w => .sA 3 I<|.seq<|.seq<|.plain 35 I<|.A 1 I<|.Z h I (ref13_Valid_ok _ _) fun x1 h => .A 2 I<|.jO 3 (decide (t1.e < 0)) I (fun b2 => ?_) ?_
 ·refine .A 3 I<|.nil I
 refine .A 1 I<|.jO 3 (decide (t1.f < 0)) I (fun b3 => ?_) ?_
 ·refine .A 3 I<|.nil I
 refine .A 1 I<|.jO 6 (decide ((t0.actions.length : Int) ≤ t1.e)) I (fun b4 => ?_) ?_
 ·refine .A 4 I<|.q I (.len I U27 I)<|.A 1 I<|.nil I
 refine .A 1 I<|.jO 6 (decide ((t0.actions.length : Int) ≤ t1.f)) I (fun b5 => ?_) ?_
 ·refine .A 4 I<|.q I (.len I U27 I)<|.A 1 I<|.nil I
 refine .A 1 I<|.jO 4 (decide (t1.target.index < 0)) I (fun b6 => ?_) ?_
 ·refine .q I (.fa I (G37_2 _))<|.A 3 I<|.nil I
 refine .nil<|.nil<|.K [2,3,39] I<|.condS I h (fun h => ?_) fun h => ?_
 ·refine .sA 1 I<|.ret (rO h I)
 ·refine .skip<|.seq<|.sr<|.p I (.fa I (G37_2 _))<|.A 2 I<|.nil<|.condS I h (fun h => ?_) fun h => ?_
  ·refine .seq<|.draw 14 Hm (by kernel_rfl) (by kernel_rfl)<|.p I (.fa I (G37_2 _))<|.A 6 I<|.X h I fun x7 h => .p I (.fa I (G84_2 _))<|.A 2 I<|.p I (.len I U49 I)<|.A 2 I<|.nil<|.nil<|.K [4] I<|.ret (rO h I)
  ·refine .skip<|.seq<|.plain 14 I<|.A 6 I<|.jA 7 (decide (t1.target.index < (t0.constraints.length : Int))) I (fun b8 => ?_) ?_
   ·refine .q I (.fa I (G37_2 _))<|.A 4 I<|.q I (.len I U25 I)<|.A 1 I<|.nil I
   refine .nil<|.A 1 I<|.nil<|.K [4] I<|.ret (rO h I)
theorem zgH (n t0 r) (h : zdV n t0 = some r) : Pure pg 121 [.int t0] (.bool r) := by
 refine Pure.ot Tryz.func121 I Tryz.ntmps121 I fun A w => .sA 1 I<|.seq<|.plain 6 I<|.A 3 I<|.jO 2 (t0 == 1) I (fun b1 => ?_) ?_
 ·refine .A 2 I<|.nil I
 refine .nil<|.A 1 I<|.nil<|.ret (rO h I)
theorem zho (n t0 t1 r) (h : zb1 n t0 t1 = some r) : Pure pg 122 [Model.enc t0, Table.enc t1] (.int r) := by
 refine Pure.ot Tryz.func122 I Tryz.ntmps122 I fun A w => .sA 3 I<|.sA 1 I<|.seq<|.sA 1 I<|.block<|.L [2,3] h (fun v => [(5, .d (.int v.1)), (6, .d (.int v.2))]) (fun v => []) I fun _ ⟨x9, x10⟩ h => .seq<|.S 3 I<|.p I (.len I U22 I)<|.A 1 I<|.nil<|.K [2,3,5,6,11] I<|.condS I h (fun h => ?_) fun h => ?_
 ·refine .skip<|.seq<|.block<|.draw 12 Hm (by kernel_rfl) (by kernel_rfl)<|.A 6 I<|.X h I fun x12 h => .A 1 I<|.X h I fun x13 h => .A 3 I<|.nil<|.nil<|.rA 3 I (ndE h I)
 ·refine .exit<|.sA 2 I<|.ret (rO h I)
theorem ref22_Box_ok (n t0 r) (h : zbV n t0 = some r) : Pure pg 65 [Model.enc t0] (eK r) := by
 refine Pure.ot Tryz.func65 I Tryz.ntmps65 I fun A w => .S 1 I<|.p I (.nilS 2 (α := Range) Range.enc I)<|.nil<|.sr<|.buildVec [] I I I I I E48 I (fun _ => I) I (enc := Range.enc)<|.A 1 I<|.nil<|.seq<|.sA 1 I<|.block<|.L [1] h (fun v => [(3, .vec 0 (List.length v.1)), (4, .d (.int v.2))]) (fun v => [(0, .vec 87 2 (List.map Range.enc v.1))]) I fun _ ⟨b0_51, x52⟩ h => .seq<|.S 3 I<|.p I (.len I U23 I)<|.A 1 I<|.nil<|.K [1,3,4,11] I<|.condS I h (fun h => ?_) fun h => ?_
 ·refine .skip<|.J [1,4] h (fun v => [(3, .vec 0 (List.length v))]) (fun v => [(0, .vec 87 2 (List.map Range.enc v))]) I (fun k_55 h => ?_) (fun b0_54 h => ?_)
  ·refine .block<|.S 3 I<|.X h I fun x56 h => .A 2 I<|.Z h I (zgH _ _) fun x57 h => .nil<|.condS I h (fun h => ?_) fun h => ?_
   ·refine .sA 1 I<|.block<|.L [1,4] h (fun v => [(3, .vec 0 (List.length v.1)), (5, .d (.int v.2))]) (fun v => [(0, .vec 87 2 (List.map Range.enc v.1))]) I fun _ ⟨b0_70, x71⟩ h => .seq<|.seq<|.draw 9 Hm (by kernel_rfl) (by kernel_rfl)<|.A 5 I<|.X h I fun x73 h => .A 1 I<|.Z h I (zho _ _ _) fun x74 h => .A 1 I<|.nil<|.nil<|.K [1,3,4,5,29] I<|.condS I h (fun h => ?_) fun h => ?_
    ·refine .skip<|.seq<|.block<|.region<|.A 4 I<|.X h I fun x75 h => .p I (.fa I (zdD _))<|.A 1 I<|.p I (.buildSl [_] I I E48 I (fun _ => I) I (enc := Range.enc))<|bK h fun x76 q76 h => .app I I I I I I I I E48 I (fun _ => I) q76<|.A 1 I<|.nil<|.rA 3 I (ndE h I)
    ·refine .exit (ndE h I)
   ·refine .skip (ndE h I)
  ·refine .rA 3 I (ndE h I)
 ·refine .exit<|.sA 2 I<|.ret ?_
  cases h
  exact zbk I (.vec I (by simp))
theorem zcH (n t0 t1 t2 r) (h : zaJ n t0 t1 t2 = some r) : Pure pg 127 [.int t0, .int t1, .int t2] (.bool r) := by
 refine Pure.ot Tryz.func127 I Tryz.ntmps127 I fun A w => .sA 1 I<|.seq<|.plain 8 I<|.A 4 I<|.jA 3 (decide (t0 ≤ t2)) I (fun b1 => ?_) ?_
 ·refine .A 3 I<|.nil I
 refine .nil<|.A 1 I<|.nil<|.ret (rO h I)
theorem ref17_Row_ok (n t0 t1 r) (h : zdw n t0 t1 = some r) : Pure pg 186 [Row.enc t0, .int t1] (.bool r) := by
 refine Pure.ot Tryz.func186 I Tryz.ntmps186 I fun A w => .sA 2 I<|.sA 1 I<|.seq<|.sA 1 I<|.block<|.L [1,2] h (fun v => [(5, .d (.int v.1)), (6, .d (.int v.2))]) (fun v => []) I fun _ ⟨x15, x16⟩ h => .seq<|.S 3 I<|.p I (.len I U31 I)<|.A 1 I<|.nil<|.K [1,2,5,6,12] I<|.condS I h (fun h => ?_) fun h => ?_
 ·refine .skip<|.seq<|.block<|.S 3 I<|.X h I fun x18 h => .A 1 I<|.allocStore I I I I I I I I (by simp) I I Z41<|.nil<|.seq<|.seq<|.plain 21 I<|.A 5 I<|.jO 4 (decide (t1 ≤ x18.cell)) I (fun b19 => ?_) ?_
  ·refine .A 4 I<|.nil I
  refine .A 1 I<|.jO 3 (x18.factor == 0) I (fun b20 => ?_) ?_
  ·refine .A 3 I<|.nil I
  refine .A 1 I<|gK h fun c22 h => .jO 4 (!((zaJ n x18.factor (-1000) 1000).getD default)) I (fun b21 => ?_) ?_
  ·refine .A 2 I<|.q I (.call I (kC I) I (zcH _ _ _ _ _ (someD (impF c22 b21))))<|.A 1 I<|.nil I
  refine .nil<|.nil<|.K [1,2,6,7,40] I<|.condS I h (fun h => ?_) fun h => ?_
  ·refine .sA 1 I<|.ret (rO h I)
  ·refine .skip<|.rA 3 I<|.rA 3 I (ndE h I)
 ·refine .exit<|.S 2 I<|.Z h I (zcH _ _ _ _) fun x23 h => .A 1 I<|.nil<|.ret (rO h I)
theorem ze5 (n t0 t1 r) (h : zO n t0 t1 = some r) : Pure pg 124 [eK t0, eH t1] (.bool r) := by
 refine Pure.ot Tryz.func124 I Tryz.ntmps124 I fun A w => .sA 1 I<|.seq<|.S 1 I<|.p I (.len I U48 I)<|.A 1 I<|.nil<|.condS I h (fun h => ?_) fun h => ?_
 ·refine .sA 1 I<|.ret (rO h I)
 ·refine .skip<|.seq<|.sA 1 I<|.block<|.L [0,1] h (fun v => [(5, .d (.int v))]) (fun v => []) I fun _ x13 h => .seq<|.S 2 I<|.p I (.len I U48 I)<|.A 1 I<|.nil<|.K [0,1,5,13] I<|.condS I h (fun h => ?_) fun h => ?_
  ·refine .skip<|.seq<|.block<|.seq<|.plain 16 I<|.A 2 I<|.X h I fun x15 h => .A 2 I<|.Z h I (zcH _ _ _ _) fun x16 h => .A 2 I<|gK h fun c18 h => gK h fun c19 h => .jO 7 (!((zaJ n (((idx t0 x13).getD default).hi) (-1000000) 1000000).getD default)) I (fun b17 => ?_) ?_
   ·refine .A 2 I<|.q I (.ix I U48 S87 (someD (impF c18 b17)))<|.A 2 I<|.q I (.call I (kC I) I (zcH _ _ _ _ _ (someD (impF c19 b17))))<|.A 1 I<|.nil I
   refine .nil<|.nil<|.K [0,1,5,31] I<|.condS I h (fun h => ?_) fun h => ?_
   ·refine .sA 1 I<|.ret (rO h I)
   ·refine .skip<|.rA 3 I (ndE h I)
  ·refine .exit<|.seq<|.sA 1 I<|.block<|.L [0,1] h (fun v => [(6, .d (.int v))]) (fun v => []) I fun _ x26 h => .seq<|.S 2 I<|.p I (.len I U49 I)<|.A 1 I<|.nil<|.K [0,1,6,35] I<|.condS I h (fun h => ?_) fun h => ?_
   ·refine .skip<|.seq<|.block<|.S 2 I<|.X h I fun x28 h => .A 2 I<|.p I (.len I U48 I)<|.Z h I (ref17_Row_ok _ _ _) fun x29 h => .A 1 I<|.nil<|.condS I h (fun h => ?_) fun h => ?_
    ·refine .sA 1 I<|.ret (rO h I)
    ·refine .skip<|.rA 3 I (ndE h I)
   ·refine .exit<|.sA 1 I<|.ret (rO h I)
theorem ref17_Empty_ok (n t0 r) (h : zbK n t0 = some r) : Pure pg 125 [eK t0] (.bool r) := by
 refine Pure.ot Tryz.func125 I Tryz.ntmps125 I fun A w => .sA 1 I<|.seq<|.sA 1 I<|.block<|.L [0] h (fun v => [(3, .d (.int v))]) (fun v => []) I fun _ x7 h => .seq<|.S 2 I<|.p I (.len I U48 I)<|.A 1 I<|.nil<|.K [0,3,7] I<|.condS I h (fun h => ?_) fun h => ?_
 ·refine .skip<|.seq<|.block<|.seq<|.draw 11 Hm (by kernel_rfl) (by kernel_rfl)<|.A 2 I<|.X h I fun x9 h => .A 4 I<|.X h I fun x10 h => .A 3 I<|.nil<|.nil<|.condS I h (fun h => ?_) fun h => ?_
  ·refine .sA 1 I<|.ret (rO h I)
  ·refine .skip<|.rA 3 I (ndE h I)
 ·refine .exit<|.sA 1 I<|.ret (rO h I)
theorem zhr (n t0 r) (h : zY n t0 = some r) : Pure pg 72 [System.enc t0] (.bool r) := by
 refine Pure.ot Tryz.func72 I Tryz.ntmps72 I fun A w => .sA 2 I<|.seq<|.seq<|.plain 29 I<|.A 2 I<|.p I (.len I U49 I)<|.A 2 I<|.jO 4 (decide (64 < (t0.graphs.length : Int))) I (fun b1 => ?_) ?_
 ·refine .A 2 I<|.q I (.len I U50 I)<|.A 1 I<|.nil I
 refine .A 1 I<|.jO 4 (decide (1024 < (t0.cases.length : Int))) I (fun b2 => ?_) ?_
 ·refine .A 2 I<|.q I (.len I U51 I)<|.A 1 I<|.nil I
 refine .A 1 I<|gK h fun c4 h => .jO 6 (!((zO n t0.box t0.rows).getD default)) I (fun b3 => ?_) ?_
 ·refine .A 4 I<|.q I (.call I (kC I) I (ze5 _ _ _ _ (someD (impF c4 b3))))<|.A 1 I<|.nil I
 refine .A 1 I<|gK h fun c6 h => .jO 3 (((zbK n t0.box).getD default)) I (fun b5 => ?_) ?_
 ·refine .A 2 I<|.q I (.call I (kC I) I (ref17_Empty_ok _ _ _ (someD (impF c6 b5))))<|.nil I
 refine .nil<|.nil<|.K [1,35] I<|.condS I h (fun h => ?_) fun h => ?_
 ·refine .sA 1 I<|.ret (rO h I)
 ·refine .skip<|.seq<|.sA 1 I<|.block<|.L [1] h (fun v => [(3, .d (.int v))]) (fun v => []) I fun _ x17 h => .seq<|.S 3 I<|.p I (.len I U51 I)<|.A 1 I<|.nil<|.K [1,3,40] I<|.condS I h (fun h => ?_) fun h => ?_
  ·refine .skip<|.seq<|.block<|.seq<|.draw 18 Hm (by kernel_rfl) (by kernel_rfl)<|.A 3 I<|.X h I fun x19 h => .A 1 I<|.p I (.len I U49 I)<|.A 2 I<|gK h fun c21 h => gK h fun c22 h => .jO 9 (!((zO n t0.box ((idx t0.cases x17).getD default)).getD default)) I (fun b20 => ?_) ?_
   ·refine .A 5 I<|.q I (.ix I U51 S49 (someD (impF c21 b20)))<|.A 1 I<|.q I (.call I (kC I) I (ze5 _ _ _ _ (someD (impF c22 b20))))<|.A 1 I<|.nil I
   refine .nil<|.nil<|.K [1,3,60] I<|.condS I h (fun h => ?_) fun h => ?_
   ·refine .sA 1 I<|.ret (rO h I)
   ·refine .skip<|.rA 3 I (ndE h I)
  ·refine .exit<|.seq<|.sA 1 I<|.block<|.L [1] h (fun v => [(4, .d (.int v))]) (fun v => []) I fun _ x61 h => .seq<|.S 3 I<|.p I (.len I U50 I)<|.A 1 I<|.nil<|.K [1,4,65] I<|.condS I h (fun h => ?_) fun h => ?_
   ·refine .skip<|.seq<|.block<|.S 3 I<|.X h I fun x63 h => .A 1 I<|.allocStore I I I I I I I I (by simp) I I Z99<|.nil<|.seq<|.seq<|.plain 38 I<|.A 4 I<|.jO 3 (decide (6 < x63.size)) I (fun b64 => ?_) ?_
    ·refine .A 3 I<|.nil I
    refine .A 1 I<|.jO 3 (decide (x63.first < 0)) I (fun b65 => ?_) ?_
    ·refine .A 3 I<|.nil I
    refine .A 1 I<|.jO 12 (decide (sub64 (t0.box.length : Int) (mul64 x63.size x63.size) < x63.first)) I (fun b66 => ?_) ?_
    ·refine .A 4 I<|.q I (.len I U48 I)<|.A 7 I<|.nil I
    refine .A 1 I<|.jO 9 ((x63.least.length : Int) != (mul64 x63.size x63.size)) I (fun b67 => ?_) ?_
    ·refine .A 2 I<|.q I (.len I U22 I)<|.A 6 I<|.nil I
    refine .nil<|.nil<|.K [1,4,5,110] I<|.condS I h (fun h => ?_) fun h => ?_
    ·refine .sA 1 I<|.ret (rO h I)
    ·refine .skip<|.sA 1 I<|.block<|.L [1,4,5] h (fun v => [(6, .d (.int v))]) (fun v => []) I fun _ x76 h => .seq<|.S 3 I<|.p I (.len I U22 I)<|.A 1 I<|.nil<|.K [1,4,5,6,115] I<|.condS I h (fun h => ?_) fun h => ?_
     ·refine .skip<|.seq<|.block<|.seq<|.plain 14 I<|.A 3 I<|.X h I fun x78 h => .A 3 I<|gK h fun c80 h => .jO 6 (decide (4000000 < ((idx x63.least x76).getD default))) I (fun b79 => ?_) ?_
      ·refine .A 3 I<|.q I (.ix I U22 S3 (someD (impF c80 b79)))<|.A 2 I<|.nil I
      refine .nil<|.nil<|.condS I h (fun h => ?_) fun h => ?_
      ·refine .sA 1 I<|.ret (rO h I)
      ·refine .skip<|.rA 3 I (ndE h I)
     ·refine .exit<|.rA 3 I (ndE h I)
   ·refine .exit<|.sA 1 I<|.ret (rO h I)
theorem zft (n t0 t1 r) (h : zam n t0 t1 = some r) : Pure pg 78 [eK t0, eA t1] (.bool r) := by
 refine Pure.ot Tryz.func78 I Tryz.ntmps78 I fun A w => .sA 1 I<|.seq<|.S 1 I<|.p I (.len I U48 I)<|.A 1 I<|.p I (.len I U22 I)<|.A 1 I<|.nil<|.condS I h (fun h => ?_) fun h => ?_
 ·refine .sA 1 I<|.ret (rO h I)
 ·refine .skip<|.seq<|.sA 1 I<|.block<|.L [0,1] h (fun v => [(5, .d (.int v))]) (fun v => []) I fun _ x11 h => .seq<|.S 2 I<|.p I (.len I U48 I)<|.A 1 I<|.nil<|.K [0,1,5,14] I<|.condS I h (fun h => ?_) fun h => ?_
  ·refine .skip<|.seq<|.block<|.seq<|.draw 16 Hm (by kernel_rfl) (by kernel_rfl)<|.A 2 I<|.X h I fun x13 h => .A 3 I<|.X h I fun x14 h => .A 4 I<|.X h I fun x15 h => .A 2 I<|.Z h I (zcH _ _ _ _) fun x16 h => .A 1 I<|.nil<|.nil<|.K [0,1,5,32] I<|.condS I h (fun h => ?_) fun h => ?_
   ·refine .sA 1 I<|.ret (rO h I)
   ·refine .skip<|.rA 3 I (ndE h I)
  ·refine .exit<|.sA 1 I<|.ret (rO h I)
theorem zhs (n t0 t1 r) (h : zbL n t0 t1 = some r) : Pure pg 128 [System.enc t0, eA t1] (.bool r) := by
 refine Pure.ot Tryz.func128 I Tryz.ntmps128 I fun A w => .sA 2 I<|.seq<|.seq<|.plain 11 I<|.A 1 I<|.Z h I (zhr _ _) fun x1 h => .A 2 I<|.jO 6 ((t1.length : Int) != (t0.box.length : Int)) I (fun b2 => ?_) ?_
 ·refine .A 1 I<|.q I (.len I U22 I)<|.A 2 I<|.q I (.len I U48 I)<|.A 1 I<|.nil I
 refine .nil<|.nil<|.condS I h (fun h => ?_) fun h => ?_
 ·refine .sA 1 I<|.ret (rO h I)
 ·refine .skip<|.seq<|.sA 1 I<|.block<|.L [1] h (fun v => [(5, .d (.int v))]) (fun v => []) I fun _ x11 h => .seq<|.S 2 I<|.p I (.len I U22 I)<|.A 1 I<|.nil<|.K [1,5,20] I<|.condS I h (fun h => ?_) fun h => ?_
  ·refine .skip<|.seq<|.block<|.seq<|.plain 12 I<|.A 2 I<|.X h I fun x13 h => .A 3 I<|gK h fun c15 h => .jO 5 (decide (4000000 < ((idx t1 x11).getD default))) I (fun b14 => ?_) ?_
   ·refine .A 2 I<|.q I (.ix I U22 S3 (someD (impF c15 b14)))<|.A 2 I<|.nil I
   refine .nil<|.nil<|.condS I h (fun h => ?_) fun h => ?_
   ·refine .sA 1 I<|.ret (rO h I)
   ·refine .skip<|.rA 3 I (ndE h I)
  ·refine .exit<|.sA 1 I<|.ret (rO h I)
theorem zhq (n t0 t1 r) (h : zaI n t0 t1 = some r) : Pure pg 129 [Row.enc t0, eA t1] (.int r) := by
 refine Pure.ot Tryz.func129 I Tryz.ntmps129 I fun A w => .sA 2 I<|.sA 1 I<|.seq<|.sA 1 I<|.block<|.L [1,2] h (fun v => [(5, .d (.int v.1)), (6, .d (.int v.2))]) (fun v => []) I fun _ ⟨x11, x12⟩ h => .seq<|.S 3 I<|.p I (.len I U31 I)<|.A 1 I<|.nil<|.K [1,2,5,6,11] I<|.condS I h (fun h => ?_) fun h => ?_
 ·refine .skip<|.seq<|.block<|.draw 19 Hm (by kernel_rfl) (by kernel_rfl)<|.A 4 I<|.X h I fun x14 h => .A 6 I<|.X h I fun x15 h => .A 2 I<|.X h I fun x16 h => .A 4 I<|.nil<|.nil<|.K [1,2,5,6] I<|.rA 3 I (ndE h I)
 ·refine .exit<|.sA 2 I<|.ret (rO h I)
theorem ref18_Edges_ok (n t0 t1 r) (h : zaY n t0 t1 = some r) : Pure pg 131 [Graph.enc t0, eA t1] (eJ r) := by
 refine Pure.ot Tryz.func131 I Tryz.ntmps131 I fun A w => .S 1 I<|.p I (.nilS 1 (α := Bool) D.bool I)<|.nil<|.sr<|.buildVec [] I I I I I E144 I (fun _ => I) I (enc := D.bool)<|.A 1 I<|.nil<|.seq<|.sA 1 I<|.block<|.L [1,2] h (fun v => [(5, .vec 0 (List.length v.1)), (6, .d (.int v.2))]) (fun v => [(0, .vec 4 1 (List.map D.bool v.1))]) I fun _ ⟨b0_11, x12⟩ h => .seq<|.sA 7 I<|.K [1,2,5,6,14] I<|.condS I h (fun h => ?_) fun h => ?_
 ·refine .skip<|.seq<|.block<|.draw 15 Hm (by kernel_rfl) (by kernel_rfl)<|.A 6 I<|.X h I fun x14 h => .A 4 I<|.X h I fun x15 h => .A 2 I<|.p I (.buildSl [_] I I E144 I (fun _ => I) I (enc := D.bool))<|.nil<|bK h fun x16 q16 h => .app I I I I I I I I E144 I (fun _ => I) q16<|.A 1 I<|.nil<|.K [1,2,5,6] I<|.rA 3 I (ndE h I)
 ·refine .exit<|.sA 2 I<|.ret ?_
  cases h
  exact zbk I (.vec I (by simp))
theorem zjM (n t0 t1 r) (h : zc n t0 t1 = some r) : Pure pg 130 [.int t0, eJ t1] (.bool r) := by
 refine Pure.ot Tryz.func130 I Tryz.ntmps130 I fun A w => .sA 1 I<|.sr<|.buildVec [] I I I I I E144 I (fun _ => I) I (enc := D.bool)<|.A 1 I<|.nil<|.seq<|.sA 1 I<|.block<|.L [0,1] h (fun v => [(5, .vec 0 (List.length v.1)), (6, .d (.int v.2))]) (fun v => [(0, .vec 4 1 (List.map D.bool v.1))]) I fun _ ⟨b0_7, x8⟩ h => .seq<|.sA 3 I<|.K [0,1,5,6,15] I<|.condS I h (fun h => ?_) fun h => ?_
 ·refine .skip<|.seq<|.block<|.region<|.A 1 I<|.p I (.buildSl [_] I I E144 I (fun _ => I) I (enc := D.bool))<|bK h fun x10 q10 h => .app I I I I I I I I E144 I (fun _ => I) q10<|.A 1 I<|.nil<|.rA 3 I (ndE h I)
 ·refine .exit<|.seq<|.sA 1 I<|.block<|.L [0,1] h (fun v => [(5, .vec 0 (List.length v.1)), (7, .d (.int v.2))]) (fun v => [(0, .vec 4 1 (List.map D.bool v.1))]) I fun _ ⟨b0_185, x186⟩ h => .seq<|.sA 3 I<|.K [0,1,5,7,23] I<|.condS I h (fun h => ?_) fun h => ?_
  ·refine .skip<|.seq<|.block<|.sA 1 I<|.block<|.L [0,1,7] h (fun v => [(5, .vec 0 (List.length v.1)), (8, .d (.int v.2))]) (fun v => [(0, .vec 4 1 (List.map D.bool v.1))]) I fun _ ⟨b0_244, x245⟩ h => .seq<|.sA 3 I<|.K [0,1,5,7,8,28] I<|.condS I h (fun h => ?_) fun h => ?_
   ·refine .skip<|.J [0,1,7,8] h (fun v => [(5, .vec 0 (List.length v))]) (fun v => [(0, .vec 4 1 (List.map D.bool v))]) I (fun k_248 h => ?_) (fun b0_247 h => ?_)
    ·refine .block<|.sA 1 I<|.seq<|.sA 1 I<|.block<|.L [0,1,5,7,8] h (fun v => [(9, .d (.bool v.1)), (10, .d (.int v.2))]) (fun v => []) I fun _ ⟨x263, x264⟩ h => .seq<|.sA 3 I<|.condS I h (fun h => ?_) fun h => ?_
     ·refine .skip<|.J [0,1,5,7,8,10] h (fun v => [(9, .d (.bool v))]) (fun v => []) I (fun k_267 h => ?_) (fun x266 h => ?_)
      ·refine .block<|.seq<|.plain 14 I<|.A 2 I<|bK h fun x268 q268 h => .p I (.idxV I I I I I U144 S4 q268)<|.p I (.loadEl I I I I q268 Y4 I)<|.A 1 I<|gK h fun c270 h => .jA 8 (((idx t1 (add64 (mul64 x264 t0) x245)).getD default)) I (fun b269 => ?_) ?_
       ·refine .A 6 I<|.q I (.ix I U144 S4 (someD (impT c270 b269)))<|.A 1 I<|.nil I
       refine .nil<|.nil<|.condS I h (fun h => ?_) fun h => ?_
       ·refine .rA 1 I (ndE h I)
       ·refine .skip (ndE h I)
      ·refine .rA 3 I (ndE h I)
     ·refine .exit<|.sA 1 I<|.condS I h (fun h => ?_) fun h => ?_
      ·refine .region<|.A 2 I<|bK h fun x271 q271 h => .p I (.idxV I I I I I U144 S4 q271)<|bK h fun b0_272 hb0_272 h => .storeEl (enc := D.bool) I I I I I I I I I C4 hb0_272<|.relen 5 I (zdb hb0_272)<|.relen 51 I (zdb hb0_272)<|.nil (ndE h I)
      ·refine .skip (ndE h I)
    ·refine .rA 3 I (ndE h I)
   ·refine .exit<|.rA 3 I (ndE h I)
  ·refine .exit<|.seq<|.sA 1 I<|.block<|.L [0,5] h (fun v => [(11, .d (.int v))]) (fun v => []) I fun _ x277 h => .seq<|.sA 3 I<|.condS I h (fun h => ?_) fun h => ?_
   ·refine .skip<|.seq<|.block<|.S 2 I<|bK h fun x279 q279 h => .p I (.idxV I I I I I U144 S4 q279)<|.p I (.loadEl I I I I q279 Y4 I)<|.nil<|.condS I h (fun h => ?_) fun h => ?_
    ·refine .sA 1 I<|.ret (rO h I)
    ·refine .skip<|.rA 3 I (ndE h I)
   ·refine .exit<|.sA 1 I<|.ret (rO h I)
theorem ref18_Fails_ok (n t0 t1 r) (h : zaZ n t0 t1 = some r) : Pure pg 79 [System.enc t0, eA t1] (.tup [eA r.1, eA r.2]) := by
 refine Pure.ot Tryz.func79 I Tryz.ntmps79 I fun A w => .S 1 I<|.p I (.nilS 1 (α := Int) D.int I)<|.p I (.nilS 1 (α := Int) D.int I)<|.nil<|.seq<|.S 2 I<|.Z h I (zhs _ _ _) fun x1 h => .A 1 I<|.nil<|.condS I h (fun h => ?_) fun h => ?_
 ·refine .sr<|.p I (.nilS 1 (α := Int) D.int I)<|.p I (.nilS 1 (α := Int) D.int I)<|.nil<|.ret ?_
  cases h
  exact zdx I I (.d _) (.d _)
 ·refine .skip<|.sr<|.buildVec [] I I I I I E22 I (fun _ => I) I (enc := D.int)<|.buildVec [] I I I I I E22 I (fun _ => I) I (enc := D.int)<|.A 2 I<|.nil<|.seq<|.sA 1 I<|.block<|.L [1,2,7] h (fun v => [(6, .vec 0 (List.length v.1)), (8, .d (.int v.2))]) (fun v => [(0, .vec 3 1 (List.map D.int v.1))]) I fun _ ⟨b0_18, x19⟩ h => .seq<|.S 3 I<|.p I (.len I U49 I)<|.A 1 I<|.nil<|.K [1,2,6,7,8,20] I<|.condS I h (fun h => ?_) fun h => ?_
  ·refine .skip<|.J [1,2,7,8] h (fun v => [(6, .vec 0 (List.length v))]) (fun v => [(0, .vec 3 1 (List.map D.int v))]) I (fun k_22 h => ?_) (fun b0_21 h => ?_)
   ·refine .block<|.seq<|.draw 14 Hm (by kernel_rfl) (by kernel_rfl)<|.A 3 I<|.X h I fun x23 h => .A 2 I<|.Z h I (zhq _ _ _) fun x24 h => .A 3 I<|.X h I fun x25 h => .A 3 I<|.nil<|.nil<|.condS I h (fun h => ?_) fun h => ?_
    ·refine .region<|.A 2 I<|.p I (.buildSl [_] I I E22 I (fun _ => I) I (enc := D.int))<|bK h fun x26 q26 h => .app I I I I I I I I E22 I (fun _ => I) q26<|.A 1 I<|.nil (ndE h I)
    ·refine .skip (ndE h I)
   ·refine .rA 3 I (ndE h I)
  ·refine .exit<|.seq<|.sA 1 I<|.block<|.L [1,2,6] h (fun v => [(7, .vec 1 (List.length v.1)), (9, .d (.int v.2))]) (fun v => [(1, .vec 3 1 (List.map D.int v.1))]) I fun _ ⟨b1_45, x46⟩ h => .seq<|.S 3 I<|.p I (.len I U50 I)<|.A 1 I<|.nil<|.K [1,2,6,7,9,45] I<|.condS I h (fun h => ?_) fun h => ?_
   ·refine .skip<|.J [1,2,6,9] h (fun v => [(7, .vec 1 (List.length v))]) (fun v => [(1, .vec 3 1 (List.map D.int v))]) I (fun k_49 h => ?_) (fun b1_48 h => ?_)
    ·refine .block<|.seq<|.draw 15 Hm (by kernel_rfl) (by kernel_rfl)<|.A 3 I<|.X h I fun x50 h => .A 5 I<|.X h I fun x51 h => .A 2 I<|.Z h I (ref18_Edges_ok _ _ _) fun x52 h => .Z h I (zjM _ _ _) fun x53 h => .A 1 I<|.nil<|.nil<|.condS I h (fun h => ?_) fun h => ?_
     ·refine .region<|.A 2 I<|.p I (.buildSl [_] I I E22 I (fun _ => I) I (enc := D.int))<|bK h fun x54 q54 h => .app I I I I I I I I E22 I (fun _ => I) q54<|.A 1 I<|.nil (ndE h I)
     ·refine .skip (ndE h I)
    ·refine .rA 3 I (ndE h I)
   ·refine .exit<|.sA 4 I<|.ret ?_
    cases h
    exact zdx I I (.vec I (by simp)) (.vec I (by simp))
theorem ref18_Case_ok (n t0 t1 r) (h : zbu n t0 t1 = some r) : Pure pg 80 [System.enc t0, eA t1] (.tup [.int r.1, .bool r.2]) := by
 refine Pure.ot Tryz.func80 I Tryz.ntmps80 I fun A w => .sA 3 I<|.seq<|.S 2 I<|.Z h I (zhs _ _ _) fun x1 h => .A 1 I<|.nil<|.condS I h (fun h => ?_) fun h => ?_
 ·refine .sA 2 I<|.ret ?_
  cases h
  exact zdx I I (.d _) (.d _)
 ·refine .skip<|.seq<|.sA 1 I<|.block<|.L [1,2] h (fun v => [(6, .d (.int v))]) (fun v => []) I fun _ x66 h => .seq<|.S 3 I<|.p I (.len I U51 I)<|.A 1 I<|.nil<|.K [1,2,6,17] I<|.condS I h (fun h => ?_) fun h => ?_
  ·refine .skip<|.seq<|.block<|.sA 1 I<|.seq<|.sA 1 I<|.block<|.L [1,2,6] h (fun v => [(7, .d (.bool v.1)), (8, .d (.int v.2))]) (fun v => []) I fun _ ⟨x88, x89⟩ h => .seq<|.S 4 I<|.X h I fun x91 h => .A 1 I<|.p I (.len I U49 I)<|.A 1 I<|.nil<|.K [1,2,6,7,8,27] I<|.condS I h (fun h => ?_) fun h => ?_
   ·refine .skip<|.J [1,2,6,8] h (fun v => [(7, .d (.bool v))]) (fun v => []) I (fun k_93 h => ?_) (fun x92 h => ?_)
    ·refine .block<|.seq<|.draw 20 Hm (by kernel_rfl) (by kernel_rfl)<|.A 3 I<|.X h I fun x94 h => .A 2 I<|.X h I fun x95 h => .A 2 I<|.Z h I (zhq _ _ _) fun x96 h => .A 3 I<|.X h I fun x97 h => .A 2 I<|.X h I fun x98 h => .A 3 I<|.nil<|.nil<|.K [1,2,6,7,8,49] I<|.condS I h (fun h => ?_) fun h => ?_
     ·refine .rA 1 I (ndE h I)
     ·refine .skip (ndE h I)
    ·refine .rA 3 I (ndE h I)
   ·refine .exit<|.sA 1 I<|.condS I h (fun h => ?_) fun h => ?_
    ·refine .sA 3 I<|.ret ?_
     cases h
     exact zdx I I (.d _) (.d _)
    ·refine .skip<|.rA 3 I (ndE h I)
  ·refine .exit<|.sA 2 I<|.ret ?_
   cases h
   exact zdx I I (.d _) (.d _)
theorem ref18_Holds_ok (n t0 t1 r) (h : zfV n t0 t1 = some r) : Pure pg 25 [System.enc t0, eA t1] (.bool r) := by
 refine Pure.ot Tryz.func25 I Tryz.ntmps25 I fun A w => .sA 2 I<|.seq<|.seq<|.plain 10 I<|.A 1 I<|.Z h I (zhr _ _) fun x1 h => .A 2 I<|gK h fun c3 h => .jO 5 (!((zam n t0.box t1).getD default)) I (fun b2 => ?_) ?_
 ·refine .A 3 I<|.q I (.call I (kC I) I (zft _ _ _ _ (someD (impF c3 b2))))<|.A 1 I<|.nil I
 refine .nil<|.nil<|.condS I h (fun h => ?_) fun h => ?_
 ·refine .sA 1 I<|.ret (rO h I)
 ·refine .skip<|.S 2 I<|.Z h I (ref18_Fails_ok _ _ _) fun x4 h => .A 1 I<|.p I (.extract I I I)<|.p I (.extract I I I)<|.A 2 I<|.nil<|.K [1,2,5,6] I<|.S 2 I<|.Z h I (ref18_Case_ok _ _ _) fun x5 h => .A 1 I<|.p I (.extract I I I)<|.p I (.extract I I I)<|.A 2 I<|.nil<|.seq<|.plain 17 I<|.A 1 I<|.p I (.len I U22 I)<|.A 2 I<|.jA 3 ((x4.2.length : Int) == 0) I (fun b6 => ?_) ?_
  ·refine .A 1 I<|.q I (.len I U22 I)<|.A 1 I<|.nil I
  refine .A 1 I<|.jA 7 (((t0.cases.length : Int) == 0) || x5.2) I (fun b7 => ?_) ?_
  ·refine .A 2 I<|.q I (.len I U51 I)<|.A 2 I<|.jOr 1 (b2 := x5.2) I I I I (.inr ⟨_, _, _, I, I, I⟩) (fun _ _ _ h1 h2 => by cases h1; cases h2; decide) I I (fun b8 => ?_) ?_
   ·refine .A 1 I<|.nil I
   exact .nil I
  refine .nil<|.A 1 I<|.nil<|.K [4] I<|.ret (rO h I)
theorem ref16_Total_ok (n t0 r) (h : zcl n t0 = some r) : Pure pg 81 [Model.enc t0] (.int r) := by
 refine Pure.ot Tryz.func81 I Tryz.ntmps81 I fun A w => .sA 2 I<|.sA 1 I<|.seq<|.sA 1 I<|.block<|.L [1] h (fun v => [(3, .d (.int v.1)), (4, .d (.int v.2))]) (fun v => []) I fun _ ⟨x17, x18⟩ h => .seq<|.S 3 I<|.p I (.len I U23 I)<|.A 1 I<|.nil<|.K [1,3,4,9] I<|.condS I h (fun h => ?_) fun h => ?_
 ·refine .skip<|.J [1,4] h (fun v => [(3, .d (.int v))]) (fun v => []) I (fun k_21 h => ?_) (fun x20 h => ?_)
  ·refine .block<|.S 3 I<|.X h I fun x22 h => .A 2 I<|.Z h I (zgH _ _) fun x23 h => .nil<|.condS I h (fun h => ?_) fun h => ?_
   ·refine .draw 10 Hm (by kernel_rfl) (by kernel_rfl)<|.A 5 I<|.X h I fun x24 h => .A 1 I<|.Z h I (zho _ _ _) fun x25 h => .A 2 I<|.nil<|.nil (ndE h I)
   ·refine .skip (ndE h I)
  ·refine .rA 3 I (ndE h I)
 ·refine .exit<|.sA 2 I<|.ret (rO h I)
theorem zed (n t0 t1 r) (h : zbR n t0 t1 = some r) : Pure pg 83 [eA t0, Effect.enc t1] (eA r) := by
 refine Pure.ot Tryz.func83 I Tryz.ntmps83 I fun A w => .S 1 I<|.p I (.nilS 1 (α := Int) D.int I)<|.nil<|.sr<|.buildVec [] I I I I I E22 I (fun _ => I) I (enc := D.int)<|.A 1 I<|.nil<|.seq<|.sA 1 I<|.block<|.L [0,3] h (fun v => [(5, .vec 0 (List.length v.1)), (6, .d (.int v.2))]) (fun v => [(0, .vec 3 1 (List.map D.int v.1))]) I fun _ ⟨b0_11, x12⟩ h => .seq<|.S 2 I<|.p I (.len I U22 I)<|.A 1 I<|.nil<|.K [0,3,5,6,11] I<|.condS I h (fun h => ?_) fun h => ?_
 ·refine .skip<|.seq<|.block<|.draw 10 Hm (by kernel_rfl) (by kernel_rfl)<|.A 3 I<|.X h I fun x14 h => .A 3 I<|.Z h I (ref22_Add_ok _ _ _) fun x15 h => .A 1 I<|.p I (.buildSl [_] I I E22 I (fun _ => I) I (enc := D.int))<|.nil<|bK h fun x16 q16 h => .app I I I I I I I I E22 I (fun _ => I) q16<|.A 1 I<|.nil<|.rA 3 I (ndE h I)
 ·refine .exit<|.sA 2 I<|.ret ?_
  cases h
  exact zbk I (.vec I (by simp))
theorem zgG (n t0 t1 r) (h : zaz n t0 t1 = some r) : Pure pg 187 [Constraint.enc t0, .int t1] (.bool r) := by
 refine Pure.ot Tryz.func187 I Tryz.ntmps187 I fun A w => .sA 2 I<|.seq<|.sA 3 I<|.condS I h (fun h => ?_) fun h => ?_
 ·refine .seq<|.plain 25 I<|.A 4 I<|.jA 3 (decide (t0.size ≤ 6)) I (fun b1 => ?_) ?_
  ·refine .A 3 I<|.nil I
  refine .A 1 I<|.jA 3 (decide (0 ≤ t0.first)) I (fun b2 => ?_) ?_
  ·refine .A 3 I<|.nil I
  refine .A 1 I<|.jA 10 (decide (t0.first ≤ sub64 t1 (mul64 t0.size t0.size))) I (fun b3 => ?_) ?_
  ·refine .A 10 I<|.nil I
  refine .nil<|.A 1 I<|.nil<|.K [4] I<|.ret (rO h I)
 ·refine .skip<|.seq<|.sA 1 I<|.block<|.L [1,2] h (fun v => [(5, .d (.int v))]) (fun v => []) I fun _ x12 h => .seq<|.S 1 I<|.p I (.fa I (G78_2 _))<|.A 2 I<|.p I (.len I U31 I)<|.A 1 I<|.nil<|.K [1,2,5,39] I<|.condS I h (fun h => ?_) fun h => ?_
  ·refine .skip<|.seq<|.block<|.seq<|.plain 19 I<|.p I (.fa I (G78_2 _))<|.A 3 I<|.X h I fun x14 h => .A 4 I<|gK h fun c16 h => .jO 9 (decide (t1 ≤ ((idx t0.row.terms x12).getD default).cell)) I (fun b15 => ?_) ?_
   ·refine .q I (.fa I (G78_2 _))<|.A 3 I<|.q I (.ix I U31 S41 (someD (impF c16 b15)))<|.A 4 I<|.nil I
   refine .nil<|.nil<|.K [1,2,5,60] I<|.condS I h (fun h => ?_) fun h => ?_
   ·refine .sA 1 I<|.ret (rO h I)
   ·refine .skip<|.rA 3 I (ndE h I)
  ·refine .exit<|.sA 4 I<|.ret (rO h I)
theorem zio (n t0 t1 t2 t3 r) (h : zdK n t0 t1 t2 t3 = some r) : Pure pg 236 [Constraint.enc t0, eA t1, .int t2, .int t3] (.bool r) := by
 refine Pure.ot Tryz.func236 I Tryz.ntmps236 I fun A w => .sA 2 I<|.S 10 I<|.X h I fun x1 h => .A 3 I<|.nil<|.K [8] I<|.ret (rO h I)
theorem ref12_has_ok (n t0 t1 r) (h : zdv n t0 t1 = some r) : Pure pg 237 [eA t0, .int t1] (.bool r) := by
 refine Pure.ot Tryz.func237 I Tryz.ntmps237 I fun A w => .sA 1 I<|.seq<|.sA 1 I<|.block<|.L [0,1] h (fun v => [(5, .d (.int v))]) (fun v => []) I fun _ x5 h => .seq<|.S 2 I<|.p I (.len I U22 I)<|.A 1 I<|.nil<|.K [0,1,5,9] I<|.condS I h (fun h => ?_) fun h => ?_
 ·refine .skip<|.seq<|.block<|.S 2 I<|.X h I fun x7 h => .A 3 I<|.nil<|.condS I h (fun h => ?_) fun h => ?_
  ·refine .sA 1 I<|.ret (rO h I)
  ·refine .skip<|.rA 3 I (ndE h I)
 ·refine .exit<|.sA 1 I<|.ret (rO h I)
theorem zjF (n : Nat) (self : Constraint → (List Int) → (List Int) → Int → Option (List (List Int))) (hself : ∀ (t0 : Constraint) (t1 : List Int) (t2 : List Int) (t3 : Int) (r : List (List Int)), self t0 t1 t2 t3 = some r → Pure pg 215 [Constraint.enc t0, eA t1, eA t2, .int t3] (eN r)) (t0 : Constraint) (t1 : List Int) (t2 : List Int) (t3 : Int) (r : List (List Int)) (h : zaH.body n self t0 t1 t2 t3 = some r) : Pure pg 215 [Constraint.enc t0, eA t1, eA t2, .int t3] (eN r) := by
 refine Pure.ot Tryz.func215 I Tryz.ntmps215 I fun A w => .S 1 I<|.p I (.nilS 1 (α := List Int) eA I)<|.nil<|.S 2 I<|.p I (.len I U22 I)<|.A 1 I<|.X h I fun x1 h => .A 2 I<|.nil<|.seq<|.S 1 I<|.p I (.len I U22 I)<|.A 2 I<|.nil<|.condS I h (fun h => ?_) fun h => ?_
 ·refine .seq<|.seq<|.draw 7 Hm (by kernel_rfl) (by kernel_rfl)<|.A 4 I<|.X h I fun x2 h => .A 1 I<|.Z h I (zio _ _ _ _ _) fun x3 h => .nil<|.nil<|.K [2,28] I<|.condS I h (fun h => ?_) fun h => ?_
  ·refine .S 1 I<|.p I (.buildSl [_] I I E145 I (fun _ => I) I (enc := eA))<|.A 1 I<|.nil<|.ret ?_
   cases h
   exact zbk I (.d _)
  ·refine .skip<|.sr<|.p I (.nilS 1 (α := List Int) eA I)<|.nil<|.ret ?_
   cases h
   exact zbk I (.d _)
 ·refine .skip<|.sr<|.buildVec [] I I I I I E145 I (fun _ => I) I (enc := eA)<|.A 1 I<|.nil<|.seq<|.S 1 I<|.X h I fun x4 h => .A 3 I<|.nil<|.K [1,2,3,4,9,10,11] I<|.block<|.L [1,2,3,4,9] h (fun v => [(10, .vec 0 (List.length v.1)), (11, .d (.int v.2))]) (fun v => [(0, .vec 22 1 (List.map eA v.1))]) I fun _ ⟨b0_27, x28⟩ h => .seq<|.sA 4 I<|.K [1,2,3,4,9,10,11,39] I<|.condS I h (fun h => ?_) fun h => ?_
  ·refine .skip<|.J [1,2,3,4,9,11] h (fun v => [(10, .vec 0 (List.length v))]) (fun v => [(0, .vec 22 1 (List.map eA v))]) I (fun k_31 h => ?_) (fun b0_30 h => ?_)
   ·refine .block<|.seq<|.seq<|.plain 11 I<|.A 2 I<|.Z h I (ref12_has_ok _ _ _) fun x32 h => .A 1 I<|gK h fun c34 h => .jO 6 (!((zdK n t0 t1 x1 x28).getD default)) I (fun b33 => ?_) ?_
    ·refine .A 4 I<|.q I (.call I (kC I) I (zio _ _ _ _ _ _ (someD (impF c34 b33))))<|.A 1 I<|.nil I
    refine .nil<|.nil<|.condS I h (fun h => ?_) fun h => ?_
    ·refine .exit (ndE h I)
    ·refine .skip<|.drawA 13 Hm I<|.first 0 I (by kernel_rfl) (by kernel_rfl) (by kernel_rfl) I (.m I (.nil ⟨I, I⟩))<|.first 2 I (by kernel_rfl) (by kernel_rfl) (by kernel_rfl) I (.m I (.nil ⟨I, I⟩))<|.first 4 I (by kernel_rfl) (by kernel_rfl) (by kernel_rfl) I (.m I (.nil ⟨I, I⟩))<|.first 6 I (by kernel_rfl) (by kernel_rfl) (by kernel_rfl) I (.m I (.nil ⟨I, I⟩))<|.first 9 I (by kernel_rfl) (by kernel_rfl) (by kernel_rfl) I (.m I (.nil ⟨I, I⟩))<|bK h fun x35 q35 h => bK h fun x36 q36 h => bK h fun x37 q37 h => bK h fun x38 q38 h =>  ?_
     repeat' (first
      | exact Nexts.nil
      | refine Nexts.cons (i := 1) I (TriL.p I (.ld Y78 I) (.nil ⟨I, I⟩)) ?_ ?_
      | refine Nexts.cons (i := 3) I (TriL.buildVec [] I I I I I E22 I (fun _ => I) I (enc := D.int) (.nil ⟨I, I⟩)) ?_ ?_
      | refine Nexts.cons (i := 7) I (TriL.p I (.buildSl [_] I I E22 I (fun _ => I) I (enc := D.int)) (.nil ⟨I, I⟩)) ?_ ?_
      | refine Nexts.cons (i := 5) I (TriL.app I I I I I I I I E22 I (fun _ => I) q35 (.nil ⟨I, I⟩)) ?_ ?_
      | refine Nexts.cons (i := 8) I (TriL.app I I I I I I I I E22 I (fun _ => I) q36 (.nil ⟨I, I⟩)) ?_ ?_
      | refine Nexts.cons (i := 10) I (TriL.freezes [1] (.cons (t := 61) I (.vec (inIds I) I (by simp)) .nil) (.p I (.call I (kC I) I (hself _ _ _ _ _ q37)) (.nil ⟨I, I⟩))) ?_ ?_
      | refine Nexts.cons (i := 11) I (TriL.app I I I I I I I I E145 I (fun _ => I) q38 (.nil ⟨I, I⟩)) ?_ ?_
      | refine Nexts.cons (i := 12) I (TriL.z I (.nil ⟨I, I⟩)) ?_ ?_
      | refine TriA.step 1 [3,7] (by decide +kernel) ?_
      | refine TriA.step 1 [5,7] (by decide +kernel) ?_
      | refine TriA.step 1 [7] (by decide +kernel) ?_
      | refine TriA.step 3 [7] (by decide +kernel) ?_
      | refine TriA.step 5 [7] (by decide +kernel) ?_
      | refine TriA.step 7 [] (by decide +kernel) ?_
      | refine TriA.step 1 [3] (by decide +kernel) ?_
      | refine TriA.step 1 [5] (by decide +kernel) ?_
      | refine TriA.step 3 [] (by decide +kernel) ?_
      | refine TriA.step 5 [] (by decide +kernel) ?_
      | refine TriA.step 1 [8] (by decide +kernel) ?_
      | refine TriA.step 8 [] (by decide +kernel) ?_
      | refine TriA.step 1 [] (by decide +kernel) ?_
      | refine TriA.step 10 [] (by decide +kernel) ?_
      | refine TriA.step 11 [] (by decide +kernel) ?_
      | refine TriA.step 12 [] (by decide +kernel) ?_
      | exact TriA.done (by decide +kernel) ⟨_, h, _, Fz8 I<|Fz2 I trivial⟩)
   ·refine .rA 3 I (ndE h I)
  ·refine .exit<|.sA 2 I<|.ret ?_
   cases h
   exact zbk I (.vec I (by simp))
theorem zhl  : ∀ (n : Nat) (t0 : Constraint) (t1 : List Int) (t2 : List Int) (t3 : Int) (r : List (List Int)) (h : zaH n t0 t1 t2 t3 = some r), Pure pg 215 [Constraint.enc t0, eA t1, eA t2, .int t3] (eN r)
 | 0, t0, t1, t2, t3, r, h => by cases h
 | n + 1, t0, t1, t2, t3, r, h => zjF n (zaH n) (zhl n) t0 t1 t2 t3 r h
theorem ref12_Cycle_ok (n t0 t1 r) (h : zba n t0 t1 = some r) : Pure pg 188 [Constraint.enc t0, eA t1] (eA r) := by
 refine Pure.ot Tryz.func188 I Tryz.ntmps188 I fun A w => .S 1 I<|.p I (.nilS 1 (α := Int) D.int I)<|.nil<|.seq<|.seq<|.plain 10 I<|.A 4 I<|gK h fun c2 h => .jO 5 (!((zaz n t0 (t1.length : Int)).getD default)) I (fun b1 => ?_) ?_
 ·refine .A 2 I<|.q I (.len I U22 I)<|.q I (.call I (kC I) I (zgG _ _ _ _ (someD (impF c2 b1))))<|.A 1 I<|.nil I
 refine .nil<|.nil<|.condS I h (fun h => ?_) fun h => ?_
 ·refine .sr<|.p I (.nilS 1 (α := Int) D.int I)<|.nil<|.ret ?_
  cases h
  exact zbk I (.d _)
 ·refine .skip<|.seq<|.sA 1 I<|.block<|.L [1,2] h (fun v => [(5, .d (.int v))]) (fun v => []) I fun _ x25 h => .seq<|.sA 4 I<|.condS I h (fun h => ?_) fun h => ?_
  ·refine .skip<|.seq<|.block<|.sA 1 I<|.block<|.L [1,2,5] h (fun v => [(6, .d (.int v))]) (fun v => []) I fun _ x33 h => .seq<|.sA 4 I<|.condS I h (fun h => ?_) fun h => ?_
   ·refine .skip<|.seq<|.block<|.S 3 I<|.p I (.buildSl [_] I I E22 I (fun _ => I) I (enc := D.int))<|.A 1 I<|.Z h I (zhl _ _ _ _ _) fun x35 h => .A 1 I<|.nil<|.S 1 I<|.p I (.len I U145 I)<|.A 1 I<|.nil<|.condS I h (fun h => ?_) fun h => ?_
    ·refine .S 1 I<|.X h I fun x36 h => .A 2 I<|.nil<|.ret ?_
     cases h
     exact zbk I (.d _)
    ·refine .skip<|.rA 3 I (ndE h I)
   ·refine .exit<|.rA 3 I (ndE h I)
  ·refine .exit<|.sr<|.p I (.nilS 1 (α := Int) D.int I)<|.nil<|.ret ?_
   cases h
   exact zbk I (.d _)
theorem ref12_small_ok (n t0 t1 r) (h : zck n t0 t1 = some r) : Pure pg 189 [Row.enc t0, eA t1] (.bool r) := by
 refine Pure.ot Tryz.func189 I Tryz.ntmps189 I fun A w => .sA 2 I<|.sA 2 I<|.seq<|.sA 1 I<|.block<|.L [1,2] h (fun v => [(5, .d (.int v.1)), (6, .d (.int v.2.1)), (7, .d (.int v.2.2))]) (fun v => []) I fun _ ⟨x17, x18, x19⟩ h => .seq<|.S 3 I<|.p I (.len I U31 I)<|.A 1 I<|.nil<|.K [1,2,5,6,7,15] I<|.condS I h (fun h => ?_) fun h => ?_
 ·refine .skip<|.seq<|.block<|.S 3 I<|.X h I fun x21 h => .A 1 I<|.allocStore I I I I I I I I (by simp) I I Z41<|.nil<|.seq<|.draw 12 Hm (by kernel_rfl) (by kernel_rfl)<|.A 6 I<|.X h I fun x22 h => .A 1 I<|bK h fun x23 q23 h => .p I (.quo6 I I I q23)<|.A 3 I<|.nil<|.nil<|.K [1,2,5,6,7,8] I<|.draw 12 Hm (by kernel_rfl) (by kernel_rfl)<|.A 6 I<|.X h I fun x24 h => .A 1 I<|bK h fun x25 q25 h => .p I (.rem6 I I I q25)<|.A 3 I<|.nil<|.nil<|.rA 3 I (ndE h I)
 ·refine .exit<|.S 2 I<|bK h fun x26 q26 h => .p I (.shr I I I q26)<|.A 2 I<|.p I (.band I I I)<|.A 2 I<|.nil<|.seq<|.draw 8 Hm (by kernel_rfl) (by kernel_rfl)<|.A 2 I<|bK h fun x27 q27 h => .p I (.shr I I I q27)<|.A 2 I<|.p I (.band I I I)<|.A 2 I<|.nil<|.nil<|.K [5,6,9,10] I<|.seq<|.plain 13 I<|.A 4 I<|.jO 8 (((add64 x17 x26) == x27) && (decide (band .i64 x18 4294967295 ≤ band .i64 t0.bound 4294967295))) I (fun b28 => ?_) ?_
  ·refine .A 4 I<|.jAnd 3 (b2 := decide (band .i64 x18 4294967295 ≤ band .i64 t0.bound 4294967295)) I I I I (.inr ⟨_, _, _, I, I, I⟩) (fun _ _ _ h1 h2 => by cases h1; cases h2; decide) I I (fun b29 => ?_) ?_
   ·refine .A 3 I<|.nil I
   exact .nil I
  refine .nil<|.A 1 I<|.nil<|.ret (rO h I)
theorem ref12_Holds_ok (n t0 t1 r) (h : zhN n t0 t1 = some r) : Pure pg 132 [Constraint.enc t0, eA t1] (.bool r) := by
 refine Pure.ot Tryz.func132 I Tryz.ntmps132 I fun A w => .sA 2 I<|.seq<|.S 2 I<|.p I (.len I U22 I)<|.Z h I (zgG _ _ _) fun x1 h => .A 1 I<|.nil<|.condS I h (fun h => ?_) fun h => ?_
 ·refine .sA 1 I<|.ret (rO h I)
 ·refine .skip<|.seq<|.sA 3 I<|.condS I h (fun h => ?_) fun h => ?_
  ·refine .S 2 I<|.Z h I (ref12_Cycle_ok _ _ _) fun x2 h => .p I (.len I U22 I)<|.A 2 I<|.nil<|.K [4] I<|.ret (rO h I)
  ·refine .skip<|.sr<|.p I (.fa I (G78_2 _))<|.A 2 I<|.Z h I (ref12_small_ok _ _ _) fun x3 h => .A 1 I<|.nil<|.ret (rO h I)
theorem zc1 (n t0 t1 r) (h : zaX n t0 t1 = some r) : Pure pg 84 [Constraint.enc t0, eA t1] (.bool r) := by
 refine Pure.ot Tryz.func84 I Tryz.ntmps84 I fun A w => .sA 2 I<|.S 2 I<|.Z h I (ref12_Holds_ok _ _ _) fun x1 h => .A 1 I<|.nil<|.ret (rO h I)
theorem zju (n t0 t1 r) (h : zeB n t0 t1 = some r) : Pure pg 85 [Row.enc t0, eA t1] (.bool r) := by
 refine Pure.ot Tryz.func85 I Tryz.ntmps85 I fun A w => .sA 2 I<|.S 1 I<|.p I (.castD (Constraint.enc (⟨0, 0, t0, 0, 0⟩ : Constraint)) I (.build I Pl78 (.agg Zc78 (ds' := [_, _, _, _, _, _]) (.e (.e (.e (.e (.e .e1)))))) I I))<|.A 1 I<|.Z h I (zc1 _ _ _) fun x1 h => .A 1 I<|.nil<|.ret (rO h I)
theorem zfu (n t0 t1 t2 r) (h : zR n t0 t1 t2 = some r) : Pure pg 82 [Model.enc t0, Effect.enc t1, eA t2] (.bool r) := by
 refine Pure.ot Tryz.func82 I Tryz.ntmps82 I fun A w => .sA 3 I<|.S 2 I<|.Z h I (zed _ _ _) fun x1 h => .A 1 I<|.nil<|.seq<|.sA 1 I<|.block<|.L [2,3,4,7] h (fun v => [(8, .d (.int v))]) (fun v => []) I fun _ x14 h => .seq<|.S 3 I<|.p I (.len I U25 I)<|.A 1 I<|.nil<|.K [2,3,4,7,8,17] I<|.condS I h (fun h => ?_) fun h => ?_
 ·refine .skip<|.seq<|.block<|.seq<|.plain 18 I<|.A 3 I<|.X h I fun x16 h => .A 2 I<|.Z h I (zc1 _ _ _) fun x17 h => .A 2 I<|gK h fun c19 h => gK h fun c20 h => .jO 8 (!((zaX n ((idx t0.constraints x14).getD default) x1).getD default)) I (fun b18 => ?_) ?_
  ·refine .A 3 I<|.q I (.ix I U25 S78 (someD (impF c19 b18)))<|.A 2 I<|.q I (.call I (kC I) I (zc1 _ _ _ _ (someD (impF c20 b18))))<|.A 1 I<|.nil I
  refine .nil<|.nil<|.K [2,3,4,7,8,37] I<|.condS I h (fun h => ?_) fun h => ?_
  ·refine .sA 1 I<|.ret (rO h I)
  ·refine .skip<|.rA 3 I (ndE h I)
 ·refine .exit<|.seq<|.sA 1 I<|.block<|.L [2,4] h (fun v => [(9, .d (.int v))]) (fun v => []) I fun _ x27 h => .seq<|.S 3 I<|.p I (.len I U49 I)<|.A 1 I<|.nil<|.K [2,4,9,42] I<|.condS I h (fun h => ?_) fun h => ?_
  ·refine .skip<|.seq<|.block<|.S 3 I<|.X h I fun x29 h => .A 2 I<|.Z h I (zju _ _ _) fun x30 h => .A 1 I<|.nil<|.condS I h (fun h => ?_) fun h => ?_
   ·refine .sA 1 I<|.ret (rO h I)
   ·refine .skip<|.rA 3 I (ndE h I)
  ·refine .exit<|.sA 1 I<|.ret (rO h I)
theorem ref22_Shows_ok (n t0 t1 t2 t3 r) (h : zaK n t0 t1 t2 t3 = some r) : Pure pg 26 [Model.enc t0, Question.enc t1, eA t2, eA t3] (.bool r) := by
 refine Pure.ot Tryz.func26 I Tryz.ntmps26 I fun A w => .sA 3 I<|.seq<|.S 1 I<|.p I (.len I U22 I)<|.A 1 I<|.Z h I (ref16_Total_ok _ _) fun x1 h => .A 1 I<|.nil<|.condS I h (fun h => ?_) fun h => ?_
 ·refine .sA 1 I<|.ret (rO h I)
 ·refine .skip<|.seq<|.sA 1 I<|.block<|.L [2,3,4,5] h (fun v => [(9, .d (.int v))]) (fun v => []) I fun _ x10 h => .seq<|.S 2 I<|.p I (.len I U22 I)<|.A 1 I<|.nil<|.K [2,3,4,5,9,22] I<|.condS I h (fun h => ?_) fun h => ?_
  ·refine .skip<|.seq<|.block<|.seq<|.draw 15 Hm (by kernel_rfl) (by kernel_rfl)<|.A 2 I<|.X h I fun x12 h => .A 3 I<|gK h fun c14 h => .jO 8 (decide ((t0.constraints.length : Int) ≤ ((idx t2 x10).getD default))) I (fun b13 => ?_) ?_
   ·refine .A 2 I<|.q I (.ix I U22 S3 (someD (impF c14 b13)))<|.A 3 I<|.q I (.len I U25 I)<|.A 1 I<|.nil I
   refine .nil<|.nil<|.condS I h (fun h => ?_) fun h => ?_
   ·refine .sA 1 I<|.K [8] I<|.ret (rO h I)
   ·refine .skip<|.rA 3 I (ndE h I)
  ·refine .exit<|.S 4 I<|.X h I fun x15 h => .p I (.fa I (G84_2 _))<|.A 1 I<|.allocStore I I I I I I I I (by simp) I I Z82<|.nil<|.S 4 I<|.X h I fun x16 h => .p I (.fa I (G84_2 _))<|.A 1 I<|.allocStore I I I I I I I I (by simp) I I Z82<|.nil<|.K [2,3,4,5,10,11] I<|.seq<|.seq<|.plain 12 I<|.A 3 I<|.Z h I (zfu _ _ _ _) fun x17 h => .A 2 I<|gK h fun c19 h => .jO 5 (!((zR n t0 x16.effect t3).getD default)) I (fun b18 => ?_) ?_
   ·refine .A 3 I<|.q I (.call I (kC I) I (zfu _ _ _ _ _ (someD (impF c19 b18))))<|.A 1 I<|.nil I
   refine .nil<|.nil<|.condS I h (fun h => ?_) fun h => ?_
   ·refine .sA 1 I<|.ret (rO h I)
   ·refine .skip<|.seq<|.draw 6 Hm (by kernel_rfl) (by kernel_rfl)<|.A 2 I<|.Z h I (zed _ _ _) fun x20 h => .A 1 I<|.Z h I (zed _ _ _) fun x21 h => .A 1 I<|.nil<|.nil<|.K [2,3,4,5,10,11,12] I<|.seq<|.sA 1 I<|.block<|.L [2,3,4,5,10,11,12] h (fun v => [(13, .d (.int v))]) (fun v => []) I fun _ x36 h => .seq<|.S 2 I<|.p I (.len I U22 I)<|.A 1 I<|.nil<|.K [2,3,4,5,10,11,12,13,74] I<|.condS I h (fun h => ?_) fun h => ?_
    ·refine .skip<|.seq<|.block<|.seq<|.draw 26 Hm (by kernel_rfl) (by kernel_rfl)<|.p I (.fa I (G37_2 _))<|.A 3 I<|gK h fun c39 h => .jO 8 (t1.target.index != ((idx t2 x36).getD default)) I (fun b38 => ?_) ?_
     ·refine .q I (.fa I (G37_2 _))<|.A 4 I<|.q I (.ix I U22 S3 (someD (impF c39 b38)))<|.A 2 I<|.nil I
     refine .A 1 I<|gK h fun c41 h => gK h fun c42 h => gK h fun c43 h => .jA 11 (!((zaX n ((idx t0.constraints ((idx t2 x36).getD default)).getD default) x21).getD default)) I (fun b40 => ?_) ?_
     ·refine .A 4 I<|.q I (.ix I U22 S3 (someD (impT c41 b40)))<|.A 1 I<|.q I (.ix I U25 S78 (someD (impT c42 b40)))<|.A 2 I<|.q I (.call I (kC I) I (zc1 _ _ _ _ (someD (impT c43 b40))))<|.A 1 I<|.nil I
     refine .nil<|.nil<|.K [2,3,4,5,10,11,12,13,102] I<|.condS I h (fun h => ?_) fun h => ?_
     ·refine .sA 1 I<|.ret (rO h I)
     ·refine .skip<|.rA 3 I (ndE h I)
    ·refine .exit<|.seq<|.sr<|.p I (.fa I (G37_2 _))<|.A 2 I<|.nil<|.condS I h (fun h => ?_) fun h => ?_
     ·refine .seq<|.draw 13 Hm (by kernel_rfl) (by kernel_rfl)<|.A 2 I<|.p I (.fa I (G37_2 _))<|.A 2 I<|.X h I fun x44 h => .A 3 I<|.Z h I (zed _ _ _) fun x45 h => .Z h I (zju _ _ _) fun x46 h => .A 2 I<|.nil<|.nil<|.K [8] I<|.ret (rO h I)
     ·refine .skip<|.S 2 I<|.p I (.fa I (G37_2 _))<|.A 2 I<|.X h I fun x47 h => .A 2 I<|.Z h I (zc1 _ _ _) fun x48 h => .A 2 I<|.nil<|.ret (rO h I)
theorem zeZ (n t0 t1 t2 t3 t4 r) (h : zaU n t0 t1 t2 t3 t4 = some r) : Pure pg 24 [eA t0, .ref (System.enc t1), .ref (Model.enc t2), .ref (Question.enc t3), .ref (eA t4)] (.bool r) := by
 refine Pure.ot Tryz.func24 I Tryz.ntmps24 I fun A w => .sA 1 I<|.seq<|.draw 10 Hm (by kernel_rfl) (by kernel_rfl)<|.A 2 I<|.Z h I (ref18_Holds_ok _ _ _) fun x1 h => .A 4 I<|.Z h I (ref22_Shows_ok _ _ _ _ _) fun x2 h => .p I (.beq I U4 I I)<|.A 1 I<|.nil<|.nil<|.ret (rO h I)
theorem ref17_Least_ok (n t0 r) (h : zcm n t0 = some r) : Pure pg 76 [eK t0] (eA r) := by
 refine Pure.ot Tryz.func76 I Tryz.ntmps76 I fun A w => .sr<|.p I (.nilS 1 (α := Int) D.int I)<|.nil<|.sr<|.buildVec [] I I I I I E22 I (fun _ => I) I (enc := D.int)<|.A 1 I<|.nil<|.seq<|.sA 1 I<|.block<|.L [0] h (fun v => [(3, .vec 0 (List.length v.1)), (4, .d (.int v.2))]) (fun v => [(0, .vec 3 1 (List.map D.int v.1))]) I fun _ ⟨b0_9, x10⟩ h => .seq<|.S 2 I<|.p I (.len I U48 I)<|.A 1 I<|.nil<|.K [0,3,4,9] I<|.condS I h (fun h => ?_) fun h => ?_
 ·refine .skip<|.seq<|.block<|.region<|.A 3 I<|.X h I fun x12 h => .A 2 I<|.p I (.buildSl [_] I I E22 I (fun _ => I) I (enc := D.int))<|bK h fun x13 q13 h => .app I I I I I I I I E22 I (fun _ => I) q13<|.A 1 I<|.nil<|.rA 3 I (ndE h I)
 ·refine .exit<|.sA 2 I<|.ret ?_
  cases h
  exact zbk I (.vec I (by simp))
theorem ref17_Next_ok (n t0 t1 r) (h : zbG n t0 t1 = some r) : Pure pg 77 [eK t0, eA t1] (.tup [eA r.1, .bool r.2]) := by
 refine Pure.ot Tryz.func77 I Tryz.ntmps77 I fun A w => .sr<|.p I (.nilS 1 (α := Int) D.int I)<|.A 1 I<|.nil<|.seq<|.seq<|.plain 9 I<|.A 1 I<|bK h fun x1 q1 h => .p I (.callLe I (kC I) I (.e .o1) (ze5 _ _ _ _ q1))<|.A 2 I<|gK h fun c3 h => .jO 4 (!((zam n t0 t1).getD default)) I (fun b2 => ?_) ?_
 ·refine .A 2 I<|.q I (.call I (kC I) I (zft _ _ _ _ (someD (impF c3 b2))))<|.A 1 I<|.nil I
 refine .nil<|.nil<|.condS I h (fun h => ?_) fun h => ?_
 ·refine .sr<|.p I (.nilS 1 (α := Int) D.int I)<|.A 1 I<|.nil<|.ret ?_
  cases h
  exact zdx I I (.d _) (.d _)
 ·refine .skip<|.seq<|.S 1 I<|.p I (.len I U48 I)<|.A 2 I<|.nil<|.block<|.L [0,1] h (fun v => [(6, .d (.int v))]) (fun v => []) I fun _ x72 h => .seq<|.sA 2 I<|.condS I h (fun h => ?_) fun h => ?_
  ·refine .skip<|.seq<|.block<|.seq<|.draw 10 Hm (by kernel_rfl) (by kernel_rfl)<|.A 2 I<|.X h I fun x74 h => .A 3 I<|.X h I fun x75 h => .A 3 I<|.nil<|.nil<|.condS I h (fun h => ?_) fun h => ?_
   ·refine .sr<|.buildVec [] I I I I I E22 I (fun _ => I) I (enc := D.int)<|.A 1 I<|.nil<|.seq<|.sA 1 I<|.block<|.L [0,1,6] h (fun v => [(7, .vec 0 (List.length v.1)), (8, .d (.int v.2))]) (fun v => [(0, .vec 3 1 (List.map D.int v.1))]) I fun _ ⟨b0_96, x97⟩ h => .seq<|.S 2 I<|.p I (.len I U48 I)<|.A 1 I<|.nil<|.K [0,1,6,7,8,39] I<|.condS I h (fun h => ?_) fun h => ?_
    ·refine .skip<|.J [0,1,6,8] h (fun v => [(7, .vec 0 (List.length v))]) (fun v => [(0, .vec 3 1 (List.map D.int v))]) I (fun k_100 h => ?_) (fun b0_99 h => ?_)
     ·refine .block<|.block<|.sA 4 I<|.condS I h (fun h => ?_) fun h => ?_
      ·refine .region<|.A 3 I<|.X h I fun x101 h => .A 1 I<|.p I (.buildSl [_] I I E22 I (fun _ => I) I (enc := D.int))<|bK h fun x102 q102 h => .app I I I I I I I I E22 I (fun _ => I) q102<|.A 1 I<|.nil (ndE h I)
      ·refine .sA 4 I<|.condS I h (fun h => ?_) fun h => ?_
       ·refine .region<|.A 3 I<|.X h I fun x103 h => .A 2 I<|.p I (.buildSl [_] I I E22 I (fun _ => I) I (enc := D.int))<|bK h fun x104 q104 h => .app I I I I I I I I E22 I (fun _ => I) q104<|.A 1 I<|.nil (ndE h I)
       ·refine .region<|.A 3 I<|.X h I fun x105 h => .A 2 I<|.p I (.buildSl [_] I I E22 I (fun _ => I) I (enc := D.int))<|bK h fun x106 q106 h => .app I I I I I I I I E22 I (fun _ => I) q106<|.A 1 I<|.nil (ndE h I)
     ·refine .rA 3 I (ndE h I)
    ·refine .exit<|.sA 3 I<|.ret ?_
     cases h
     exact zdx I I (.vec I (by simp)) (.d _)
   ·refine .skip<|.rA 3 I (ndE h I)
  ·refine .exit<|.sr<|.p I (.nilS 1 (α := Int) D.int I)<|.A 1 I<|.nil<|.ret ?_
   cases h
   exact zdx I I (.d _) (.d _)
theorem zkk (n t0) (t1 : (List Int) → Option Bool) (F1 : D) (hF1 : ∀ (q0 : List Int) (y : Bool), t1 q0 = some y → Dyn pg F1 [eA q0] (.bool y)) (r) (h : zbp n t0 t1 = some r) : Pure pg 23 [Model.enc t0, F1] (.bool r) := by
 refine Pure.ot Tryz.func23 I Tryz.ntmps23 I fun A w => .sA 2 I<|.S 1 I<|.Z h I (ref22_Box_ok _ _) fun x1 h => .A 1 I<|.nil<|.S 1 I<|.Z h I (ref17_Least_ok _ _) fun x2 h => .A 2 I<|.nil<|.seq<|.block<|.L [1,5] h (fun v => [(6, .d (eA v.1)), (7, .d (.bool v.2))]) (fun v => []) I fun _ ⟨x11, x12⟩ h => .seq<|.sA 1 I<|.condS I h (fun h => ?_) fun h => ?_
 ·refine .skip<|.block<|.seq<|.S 2 I<|bK h fun x14 q14 h => .p I (.dyn I I I (hF1 _ _ q14))<|.A 1 I<|.nil<|.condS I h (fun h => ?_) fun h => ?_
  ·refine .sA 1 I<|.ret (rO h I)
  ·refine .skip<|.region<|.A 2 I<|.Z h I (ref17_Next_ok _ _ _) fun x15 h => .A 1 I<|.p I (.extract I I I)<|.p I (.extract I I I)<|.A 2 I<|.nil (ndE h I)
 ·refine .exit<|.sA 1 I<|.ret (rO h I)
theorem zfM (n t0 t1 t2 r) (h : zcV n t0 t1 t2 = some r) : Pure pg 6 [Model.enc t0, Question.enc t1, eA t2] (.bool r) := by
 refine Pure.ot Tryz.func6 I Tryz.ntmps6 I fun A w => .sA 4 I<|.seq<|.sr<|.Z h I (law22_awake_ok _ ) fun x1 h => .A 1 I<|.nil<|.condS I h (fun h => ?_) fun h => ?_
 ·refine .sA 1 I<|.ret (rO h I)
 ·refine .skip<|.seq<|.seq<|.plain 8 I<|.A 1 I<|.Z h I (ref13_Few_ok _ _) fun x2 h => .A 2 I<|.jO 3 (decide (20 < (t2.length : Int))) I (fun b3 => ?_) ?_
  ·refine .A 1 I<|.q I (.len I U22 I)<|.A 1 I<|.nil I
  refine .nil<|.nil<|.condS I h (fun h => ?_) fun h => ?_
  ·refine .sA 1 I<|.ret (rO h I)
  ·refine .skip<|.S 3 I<|.Z h I (zek _ _ _ _) fun x4 h => .A 1 I<|.p I (.extract I I I)<|.p I (.extract I I I)<|.allocStore I I I I I I I I (by simp) I I Z53<|.A 1 I<|.nil<|.K [3,4,5,7,8] I<|.seq<|.sA 2 I<|.condS I h (fun h => ?_) fun h => ?_
   ·refine .sA 1 I<|.ret (rO h I)
   ·refine .skip<|.seq<|.plain 8 I<|.A 2 I<|.Z h I (ref16_Valid_ok _ _ _) fun x5 h => .A 1 I<|gK h fun c7 h => .jA 3 (((zbp n t0 (fun q0 => zaU n q0 x4.1 t0 t1 t2)).getD default)) I (fun b6 => ?_) ?_
    ·refine .A 1 I<|.q I (.makeFunc I I)<|.q I (.call I (kC I) I (zkk _ _ _ _ (fun q0 y hq => ⟨_, _, I, K24, zeZ _ q0 _ _ _ _ _ hq⟩) _ (someD (impT c7 b6))))<|.nil I
    refine .nil<|.A 1 I<|.nil<|.ret (rO h I)
theorem zF {σ R : Type} {body : (σ → Option R) → σ → Option R} {len : Nat} {st : Nat → σ} {g : Nat → Option R}
  (hb : ∀ rec i, i < len → rec (st (i + 1)) = g (i + 1) → body rec (st i) = g i) (he : ∀ rec, body rec (st len) = g len) :
  ∀ n i, i ≤ len → len - i < n → loopF body n (st i) = g i
 | 0, _, _, h => by omega
 | n + 1, i, hi, h => by
  simp only [loopF];by_cases e : i = len
  ·subst e; exact he _
  ·exact hb _ i (by omega) (zF hb he n (i + 1) (by omega) (by omega))
theorem zb {i : Nat} (h : i < 4611686018427387904) : add64 (i : Int) 1 = ((i + 1 : Nat) : Int) := by
 unfold add64; rw [zaL (by omega) (by omega)]; omega
theorem za {α : Type} {l : List α} {i : Nat} (h : i < l.length) : idx l (i : Int) = some l[i] := by
 unfold idx; rw [if_pos (by omega)]; simp [h]
theorem zh {α : Type} {l : List α} {i : Nat} (h : i < l.length) : decide ((i : Int) < (l.length : Int)) = true := by simp; omega
theorem zah {α : Type} {l : List α} : decide (((l.length : Nat) : Int) < (l.length : Int)) = false := by simp
def zr : List Change → Int → Int
 | [], _ => 0
 | d :: l, c => if d.cell = c then d.add else zr l c
theorem zj {α : Type} {l : List α} {i : Nat} (h : i < l.length) : l.drop i = l[i] :: l.drop (i + 1) := List.drop_eq_getElem_cons h
theorem zab {n : Nat} {a} (c : Int) (hl : a.effect.delta.length < 4611686018427387904) (hn : a.effect.delta.length < n) : zD n a c = some (zr a.effect.delta c) := by
 have := zF (body := zD.l1 n a c) (len := a.effect.delta.length) (st := fun i => (i : Int)) (g := fun i => some (zr (a.effect.delta.drop i) c)) (fun rec i hi hr => ?_) (fun rec => ?_) n 0 (yp _) (by omega)
 ·simpa [zD] using this
 ·simp only [zD.l1, zh hi, if_true, za hi, ya, zb (i := i) (by omega), hr];rw [zj hi];simp only [zr, beq_iff_eq];split <;> rfl
 ·simp [zD.l1, zr]
def zdF (f : Int → Int) : List Term → Int → Int
 | [], s => s
 | t :: l, s => zdF f l (add64 s (mul64 t.factor (f t.cell)))
def takeP (f : Int → Int) (l : List Term) (i : Nat) : Int := zdF f (l.take i) 0
theorem zhb (f) : ∀ (l m : List Term) (s : Int), zdF f (l ++ m) s = zdF f m (zdF f l s)
 | [], _, _ => rfl
 | _ :: l, m, s => by simp only [ud, zdF]; exact zhb f l m _
theorem takeP_succ (f) {l i} (h : i < l.length) : takeP f l (i + 1) = add64 (takeP f l i) (mul64 l[i].factor (f l[i].cell)) := by
 unfold takeP;rw [yy h, zhb];rfl
theorem zc8 {n : Nat} {a r} (h1 : a.effect.delta.length < 4611686018427387904) (h2 : a.effect.delta.length < n) (h3 : r.terms.length < 4611686018427387904) (h4 : r.terms.length < n) :
  zm n a r = some (zdF (zr a.effect.delta) r.terms 0) := by
 have := zF (body := zm.l1 n a r) (len := r.terms.length) (st := fun i => (takeP (zr a.effect.delta) r.terms i, (i : Int))) (g := fun _ => some (zdF (zr a.effect.delta) r.terms 0)) (fun rec i hi hr => ?_) (fun rec => ?_) n 0 (yp _) (by omega)
 ·simpa [zm, takeP, zdF] using this
 ·simp only [zm.l1, zh hi, if_true, za hi, ya, zab _ h1 h2, zb (i := i) (by omega), ← takeP_succ _ hi, hr]
 ·simp [zm.l1, takeP]
def addP (c : Int) : List Change → Int → Int
 | [], s => s
 | d :: l, s => addP c l (if d.cell = c then add64 s d.add else s)
theorem zj0 (c) : ∀ (l m : List Change) (s : Int), addP c (l ++ m) s = addP c m (addP c l s)
 | [], _, _ => rfl
 | _ :: l, m, s => by simp only [ud, addP]; exact zj0 c l m _
theorem zjt {n : Nat} {e} (c : Int) (hl : e.delta.length < 4611686018427387904) (hn : e.delta.length < n) : zbf n e c = some (addP c e.delta 0) := by
 have := zF (body := zbf.l1 n e c) (len := e.delta.length) (st := fun i => (addP c (e.delta.take i) 0, (i : Int))) (g := fun _ => some (addP c e.delta 0)) (fun rec i hi hr => ?_) (fun rec => ?_) n 0 (yp _) (by omega)
 ·simpa [zbf, addP] using this
 ·rw [yy hi, zj0] at hr;simp only [addP] at hr;simp only [zbf.l1, zh hi, if_true, za hi, ya, jn, zb (i := i) (by omega), beq_iff_eq];split at hr <;> rename_i h
  ·rw [if_pos h, hr]
  ·rw [if_neg h, hr]
 ·simp [zbf.l1]
theorem addP_other (c) : ∀ (l : List Change) (s : Int), (∀ d ∈ l, d.cell ≠ c) → addP c l s = s
 | [], _, _ => rfl
 | d :: l, s, h => by
  simp only [addP]; rw [if_neg (h d (by simp))]; exact addP_other c l s fun x hx => h x (by simp [hx])
theorem zjZ (c) : ∀ (l : List Change), (l.map (·.cell)).Nodup → (∀ d ∈ l, -9223372036854775808 ≤ d.add ∧ d.add ≤ 9223372036854775807) → addP c l 0 = zr l c
 | [], _, _ => rfl
 | d :: l, hn, hb => by
  simp only [yT, List.nodup_cons, yU, not_exists, not_and] at hn;simp only [addP, zr];split <;> rename_i h
  ·rw [addP_other c l _ fun x hx e => hn.1 x hx (e.trans h.symm)];have := hb d (by simp);unfold add64; rw [Int.zero_add]; exact zaL this.1 this.2
  ·exact zjZ c l hn.2 fun x hx => hb x (by simp [hx])
section
variable {κ : Type} [DecidableEq κ]
structure SetIs (m : GMap κ Bool) (l : List κ) : Prop where
 tru : ∀ e ∈ m.es, e.2.2 = true
 mem : ∀ k, k ∈ m.es.map (fun e => e.2.1) ↔ k ∈ l
theorem zkf (k : κ) : ∀ (es : List (Nat × κ × Bool)), (∀ e ∈ es, e.2.2 = true) → ((findK k es).map (·.2)).getD false = decide (k ∈ es.map (fun e => e.2.1))
 | [], _ => by simp [findK]
 | e :: es, h => by
  simp only [findK, yT, yP];by_cases hk : k = e.2.1
  ·simp [hk, h e (by simp)]
  ·rw [if_neg hk];have := zkf k es fun x hx => h x (by simp [hx])
   simp only [hk, false_or, ← this, Option.map_map];cases findK k es <;> rfl
theorem findK_no (k : κ) : ∀ (es : List (Nat × κ × Bool)), findK k es = none → k ∉ es.map (fun e => e.2.1)
 | [], _ => by simp
 | e :: es, h => by
  simp only [findK] at h;split at h
  ·cases h
  ·rename_i hk;simp only [Option.map_eq_none_iff] at h;simp only [yT, yP, not_or];exact ⟨hk, findK_no k es h⟩
theorem zkg (k : κ) : ∀ (es : List (Nat × κ × Bool)) (p : Nat × Bool), findK k es = some p → k ∈ es.map (fun e => e.2.1)
 | [], _, h => by simp [findK] at h
 | e :: es, p, h => by
  simp only [findK] at h;split at h
  ·rename_i hk; simp [hk]
  ·simp only [Option.map_eq_some_iff] at h;obtain ⟨q, h1, _⟩ := h;exact uq _ (zkg k es q h1)
theorem SetIs.get {m : GMap κ Bool} {l : List κ} (h : SetIs m l) (k : κ) : (m.get? k).getD false = decide (k ∈ l) := by
 unfold GMap.get?;rw [zkf k m.es h.tru];exact decide_eq_decide.2 (h.mem k)
theorem SetIs.empty : SetIs (GMap.empty : GMap κ Bool) [] := ⟨fun e he => (by simp [GMap.empty] at he), fun k => by simp [GMap.empty]⟩
theorem zhI (f : Nat × κ × Bool → Nat × κ × Bool) (hf : ∀ e, (f e).2.1 = e.2.1) : ∀ (es : List (Nat × κ × Bool)) (i : Nat), (es.modify i f).map (fun e => e.2.1) = es.map (fun e => e.2.1)
 | [], _ => by simp
 | e :: es, 0 => by simp [hf]
 | e :: es, i + 1 => by simp [zhI f hf es i]
theorem zi0 {p : Nat × κ × Bool → Prop} (f : Nat × κ × Bool → Nat × κ × Bool) (hf : ∀ e, p (f e)) : ∀ (es : List (Nat × κ × Bool)) (i : Nat), (∀ e ∈ es, p e) → ∀ e ∈ es.modify i f, p e
 | [], _, _ => by simp
 | e :: es, 0, h => by
  intro x hx;simp only [List.modify_zero_cons, yP] at hx;rcases hx with rfl | hx
  ·exact hf e
  ·exact h x (by simp [hx])
 | e :: es, i + 1, h => by
  intro x hx;simp only [List.modify_succ_cons, yP] at hx;rcases hx with rfl | hx
  ·exact h x (by simp)
  ·exact zi0 f hf es i (fun y hy => h y (by simp [hy])) x hx
theorem SetIs.put {m : GMap κ Bool} {l : List κ} (h : SetIs m l) (k : κ) : SetIs (m.put k true) (l ++ [k]) := by
 unfold GMap.put;cases hk : findK k m.es with
 | none =>
  simp only [];refine ⟨fun e he => ?_, fun x => ?_⟩
  ·simp only [yG, yO] at he;rcases he with he | rfl
   ·exact h.tru e he
   ·rfl
  ·simp only [uh, yT, List.map_nil, yG, yO, h.mem x]
 | some p =>
  obtain ⟨i, b⟩ := p;simp only [];have hkl : k ∈ l := (h.mem k).1 (zkg k m.es _ hk);refine ⟨zi0 (p := fun e => e.2.2 = true) _ (fun e => rfl) m.es i h.tru, fun x => ?_⟩;rw [zhI (fun e : Nat × κ × Bool => (e.1, e.2.1, true)) (fun e => rfl) m.es i, h.mem x];simp only [yG, yO];exact ⟨.inl, fun hx => hx.elim id fun e => by rw [e]; exact hkl⟩
end
def ixP {α : Type} (p : α → Bool) : List α → Nat → Int
 | [], _ => -1
 | x :: l, i => if p x = true then (i : Int) else ixP p l (i + 1)
theorem ixP_iff {α : Type} (p) : ∀ (l : List α) (i : Nat), 0 ≤ ixP p l i ↔ l.any p = true
 | [], _ => by simp [ixP]
 | x :: l, i => by
  have ih := ixP_iff p l (i + 1);rw [ixP, uT];by_cases h : p x = true
  ·rw [if_pos h, h]; simp
  ·rw [if_neg h, ih]; simp only [yF] at h; rw [h, uw]
theorem zgk {α : Type} (p : α → Bool) (l : List α) (i : Nat) : decide (0 ≤ ixP p l i) = l.any p := by
 have := ixP_iff p l i;cases h : l.any p with
 | true => exact decide_eq_true (this.2 h)
 | false => exact decide_eq_false fun hc => by rw [this.1 hc] at h; cases h
theorem ziE {n l f p} (hf : ∀ x ∈ l, f x = some (p x)) (hl : l.length < 4611686018427387904) (hn : l.length < n) : zS n l f = some (ixP p l 0) := by
 have := zF (body := zS.l1 n l f) (len := l.length) (st := fun i => (i : Int)) (g := fun i => some (ixP p (l.drop i) i)) (fun rec i hi hr => ?_) (fun rec => ?_) n 0 (yp _) (by omega)
 ·simpa [zS] using this
 ·simp only [zS.l1, zh hi, if_true, za hi, ya, hf _ (yg hi), zb (i := i) (by omega), hr];rw [zj hi];simp only [ixP];split <;> rfl
 ·simp [zS.l1, ixP]
theorem zb3 {n : Nat} {l : List Int} {f : Int → Option Bool} {p : Int → Bool} (hf : ∀ x ∈ l, f x = some (p x)) (hl : l.length < 4611686018427387904) (hn : l.length < n) : zu n l f = some (l.any p) := by
 unfold zu;rw [ziE hf hl hn, ya, zgk]
def zcq (x : Int) : Bool := decide (1 ≤ x) && decide (x ≤ 6)
def colOK (sizes : List Int) (c : Int) : Bool := decide (0 ≤ c) && decide (c < (sizes.length : Int))
theorem zj3 {α : Type} (p : α → Bool) (l : List α) : (!l.any fun x => !p x) = l.all p := by
 induction l with
 | nil => rfl
 | cons x l ih => simp only [uT, ub, ← ih]; cases p x <;> simp
theorem cells_sized_eq {n : Nat} {l : List Int} (hl : l.length < 4611686018427387904) (hn : l.length < n) : zfE n l = some (l.all zcq) := by
 unfold zfE;rw [zb3 (p := fun x => !zcq x) (fun x _ => by simp [zfF, zdS, zcq]) hl hn, ya, zj3]
theorem ziG {n : Nat} {sizes cols : List Int} (hl : cols.length < 4611686018427387904) (hn : cols.length < n) : zdM n sizes cols = some (decide (cols.length ≤ 3) && cols.all (colOK sizes)) := by
 unfold zdM;rw [zb3 (p := fun x => !colOK sizes x) (fun x _ => by
  simp only [zcn, colOK, yi, Bool.not_and];congr 1
  ·rw [← decide_not]; exact decide_eq_decide.2 (by omega)
  ·rw [← decide_not]; exact decide_eq_decide.2 (by omega)) hl hn]
 simp only [yj, yr, grd, if_true, yf, zj3, yi];congr 1;exact decide_eq_decide.2 (by omega)
theorem zhj {n l} (hl : l.length < 4611686018427387904) (hn : l.length < n) : za9 n l = some (l.all zcq) := by
 have := zF (body := za9.l1 n l) (len := l.length) (st := fun i => (i : Int)) (g := fun i => some ((l.drop i).all zcq)) (fun rec i hi hr => ?_) (fun rec => ?_) n 0 (yp _) (by omega)
 ·simpa [za9] using this
 ·simp only [za9.l1, zh hi, if_true, za hi, ya, yj, yr, grd, yf, zb (i := i) (by omega), hr];rw [zj hi];simp only [ub, zcq];by_cases h : 1 ≤ l[i] ∧ l[i] ≤ 6
  ·rw [if_neg (by simp; omega)]; simp [h.1, h.2]
  ·rw [if_pos (by simp; omega)];have : (decide (1 ≤ l[i]) && decide (l[i] ≤ 6)) = false := by
    simp only [ut, yC]; omega
   rw [this, y6]
 ·simp [za9.l1]
def zag (sizes : List Int) : List Int → Int → Int
 | [], s => s
 | c :: l, s => zag sizes l (mul64 s (sizes.getD c.toNat 0))
theorem zdA (sizes) : ∀ (l m : List Int) (s : Int), zag sizes (l ++ m) s = zag sizes m (zag sizes l s)
 | [], _, _ => rfl
 | _ :: l, m, s => by simp only [ud, zag]; exact zdA sizes l m _
theorem zfK {sizes c} (h : colOK sizes c = true) : idx sizes c = some (sizes.getD c.toNat 0) := by
 simp only [colOK, yb, yd] at h;obtain ⟨n, rfl⟩ := yW h.1;have : n < sizes.length := by omega
 rw [za this]; simp [List.getD, this]
theorem zeX {n sizes cols} (hc : cols.all (colOK sizes) = true) (hl : cols.length < 4611686018427387904) (hn : cols.length < n) : za7 n sizes cols = some (zag sizes cols 1) := by
 have := zF (body := za7.l1 n sizes cols) (len := cols.length) (st := fun i => (zag sizes (cols.take i) 1, (i : Int))) (g := fun _ => some (zag sizes cols 1)) (fun rec i hi hr => ?_) (fun rec => ?_) n 0 (yp _) (by omega)
 ·simpa [za7, zag] using this
 ·rw [yy hi, zdA] at hr;simp only [zag] at hr;simp only [za7.l1, zh hi, if_true, za hi, ya, zfK (ym.1 hc _ (yg hi)), zb (i := i) (by omega), hr]
 ·simp [za7.l1]
theorem number_loop {n sizes cols} (hl : cols.length < 4611686018427387904) (hn : cols.length < n) : loopF (zZ.l1 n sizes cols) n (1, 0) = some (if cols.all (colOK sizes) = true then zag sizes cols 1 else 0) := by
 by_cases hc : cols.all (colOK sizes) = true
 ·rw [if_pos hc];have := zF (body := zZ.l1 n sizes cols) (len := cols.length) (st := fun i => (zag sizes (cols.take i) 1, (i : Int))) (g := fun _ => some (zag sizes cols 1)) (fun rec i hi hr => ?_) (fun rec => ?_) n 0 (yp _) (by omega)
  ·simpa [zag] using this
  ·rw [yy hi, zdA] at hr;simp only [zag] at hr;have hcol := ym.1 hc _ (yg hi);have h2 := zfK hcol;simp only [colOK, yb, yd] at hcol;have hif : ((decide (cols[i] < 0)) || (decide ((sizes.length : Int) ≤ cols[i]))) = false := by
    simp only [ua, yC]; omega
   simp only [zZ.l1, zh hi, if_true, za hi, ya, yj, yr, grd, yf, hif, ye, if_false, h2, zb (i := i) (by omega), hr]
  ·simp [zZ.l1]
 ·rw [if_neg hc];have := zF (body := zZ.l1 n sizes cols) (len := cols.length) (st := fun i => (zag sizes (cols.take i) 1, (i : Int))) (g := fun i => some (if (cols.drop i).all (colOK sizes) = true then zag sizes cols 1 else 0)) (fun rec i hi hr => ?_) (fun rec => ?_) n 0 (yp _) (by omega)
  ·simpa [zag, hc] using this
  ·rw [yy hi, zdA] at hr;simp only [zag] at hr;rw [zj hi, ub];by_cases hcol : colOK sizes cols[i] = true
   ·have h2 := zfK hcol;rw [hcol, yD];simp only [colOK, yb, yd] at hcol;have hif : ((decide (cols[i] < 0)) || (decide ((sizes.length : Int) ≤ cols[i]))) = false := by
     simp only [ua, yC]; omega
    simp only [zZ.l1, zh hi, if_true, za hi, ya, yj, yr, grd, yf, hif, ye, if_false, h2, zb (i := i) (by omega), hr]
   ·have hif : ((decide (cols[i] < 0)) || (decide ((sizes.length : Int) ≤ cols[i]))) = true := by
     simp only [colOK, yb, yd] at hcol;simp only [yz, yd]; omega
    simp only [yF] at hcol;rw [hcol, y6, if_neg (by simp)];simp only [zZ.l1, zh hi, if_true, za hi, ya, yj, yr, grd, yf, hif]
  ·simp [zZ.l1]
theorem zex {n sizes cols} (hl : cols.length < 4611686018427387904) (hn : cols.length < n) (hs : sizes.length < 4611686018427387904) (hsn : sizes.length < n) :
  zZ n sizes cols = some (if (decide (cols.length ≤ 3) && sizes.all zcq && cols.all (colOK sizes)) = true then zag sizes cols 1 else 0) := by
 unfold zZ;rw [zhj hs hsn, number_loop hl hn];simp only [yj, yr, grd, if_true, yf];by_cases h3 : cols.length ≤ 3
 ·cases h4 : sizes.all zcq with
  | true => rw [if_neg (by simp; omega)]; simp [h3]
  | false => rw [if_pos (by simp)]; simp
 ·rw [if_pos (by simp; left; omega)]; simp [h3]
end Go.Proofs.YtcagdmegicijlaaGreatDoor
