/- Part of the proof of one law of the seat. -/
import Derived.Test.YtcagdmegicijlaaGreatDoorSy03
import Derived.Shelf.SlGeneric
import Derived.Ground.SlsfProg
set_option linter.unusedVariables false
set_option linter.unusedSectionVars false
set_option linter.unusedSimpArgs false
set_option maxHeartbeats 4000000
namespace Go.Proofs.YtcagdmegicijlaaGreatDoor
open Go Go.RowKit
theorem zho (n : Nat) (t0 : List UInt8) (r : Bool) (h : zeQ n t0 = some r) : Pure pg 143 [.str t0] (.bool r) := by
 refine Pure.ot Tryz.func143 I Tryz.ntmps143 I fun A w => .sr<|.z I<|.nil<|.seq<|.plain 8 I<|.m I<|.p I (.len_str I U9 I)<|.p I (.le I)<|.m I<|gK h fun c2 h => .jA 3 (((zdM n t0).getD default) == 1) I (fun b1 => ?_) ?_
 ·refine .qm I<|.q I (.call I (kC I) I (zk1 _ _ _ (someD (impT c2 b1))))<|.q I (.eq I)<|.nil I
 refine .nil<|.z I<|.nil<|.ret (rO h I)
theorem zgY (n : Nat) (t0 : Int) (t1 : List Int) (r : Bool) (h : zb9 n t0 t1 = some r) : Pure pg 194 [.int t0, .ref (eA t1)] (.bool r) := by
 refine Pure.ot Tryz.func194 I Tryz.ntmps194 I fun A w => .sr<|.z I<|.nil<|.seq<|.plain 8 I<|.m I<|.p I (.ls I)<|.m I<|.jO 4 (decide ((t1.length : Int) ≤ t0)) I (fun b1 => ?_) ?_
 ·refine .qm I<|.q I (.ld Y22 I)<|.q I (.len I U22 I)<|.q I (.ge I)<|.nil I
 refine .nil<|.z I<|.nil<|.ret (rO h I)
theorem zhQ (n : Nat) (t0 : List Int) (t1 : List Int) (r : Bool) (h : zdm n t0 t1 = some r) : Pure pg 145 [eA t0, eA t1] (.bool r) := by
 refine Pure.ot Tryz.func145 I Tryz.ntmps145 I fun A w => .sr<|.p I (.bx I)<|.z I<|.nil<|.seq<|.plain 9 I<|.m I<|.p I (.len I U22 I)<|.p I (.le I)<|.m I<|gK h fun c2 h => .jA 4 (!((zr n t1 (fun q0 => zb9 n q0 t0)).getD default)) I (fun b1 => ?_) ?_
 ·refine .qm I<|.q I (.makeFunc I I)<|.q I (.call I (kC I) I (zaG _ _ _ _ (fun q0 y hq => ⟨_, _, I, K194, zgY _ q0 _ _ hq⟩) _ (someD (impT c2 b1))))<|.q I (.nt I)<|.nil I
 refine .nil<|.z I<|.nil<|.ret (rO h I)
theorem zi5 (n : Nat) (t0 : Table) (r : Bool) (h : zeh n t0 = some r) : Pure pg 146 [Table.enc t0] (.bool r) := by
 refine Pure.ot Tryz.func146 I Tryz.ntmps146 I fun A w => .sr<|.p I (.bx I)<|.z I<|.nil<|.seq<|.sr<|.f I (zcC _) Y3 I<|.nil<|.block<|.join [1] (fun (v : Bool) => [(5, .d (.bool v))]) (fun (v : Bool) => []) (.c I .nil) h (fun k_2 h => ?_) (fun x1 h => ?_)
 ·refine .sr<|.p I (.eq I)<|.z I<|.nil<|.condS I h (fun h => ?_) fun h => ?_
  ·refine .skip ⟨_, h, _, Fz4 I<|FzE⟩
  ·refine .sr<|.p I (.eq I)<|.z I<|.nil<|.condS I h (fun h => ?_) fun h => ?_
   ·refine .skip ⟨_, h, _, Fz4 I<|FzE⟩
   ·refine .region<|.p I (.eq I)<|.z I<|.nil ⟨_, h, _, Fz4 I<|FzE⟩
 ·refine .condS I h (fun h => ?_) fun h => ?_
  ·refine .seq<|.plain 19 I<|.p I (.fa I (zdg _))<|.f I (G87_0 _) Y3 I<|.p I (.fa I (zdg _))<|.f I (G87_1 _) Y3 I<|.p I (.le I)<|.m I<|.jA 4 (decide ((-9999) ≤ t0.range.lo)) I (fun b3 => ?_) ?_
   ·refine .q I (.fa I (zdg _))<|.qf I (G87_0 _) Y3 I<|.q I (.ge I)<|.nil I
   refine .m I<|.jA 4 (decide (t0.range.hi ≤ 9999)) I (fun b4 => ?_) ?_
   ·refine .q I (.fa I (zdg _))<|.qf I (G87_1 _) Y3 I<|.q I (.le I)<|.nil I
   refine .nil<|.z I<|.nil<|.keep [] [2] (.c I .nil) I<|.ret (rO h I)
  ·refine .skip<|.keep [] [1] (.c I .nil) I<|.sr<|.f I (zdg _) Y87 I<|.p I (.castD (Range.enc (⟨0, 1⟩ : Range)) I (.build I Pl87 (.agg Zc87 (ds' := [_, _]) (.e .e1)) I I))<|.p I (.seql I SE87 I I (xs := Range.vals _) (ys := Range.vals _) I I I I (SQ87 _ _))<|.z I<|.nil<|.ret (rO h I)
theorem zdh (n : Nat) (t0 : Table) (r : Bool) (h : zbJ n t0 = some r) : Pure pg 147 [Table.enc t0] (.bool r) := by
 refine Pure.ot Tryz.func147 I Tryz.ntmps147 I fun A w => .sr<|.p I (.bx I)<|.z I<|.nil<|.seq<|.plain 8 I<|.f I (zcC _) Y3 I<|.p I (.eq I)<|.m I<|.jO 3 (t0.kind == 1) I (fun b1 => ?_) ?_
 ·refine .qf I (zcC _) Y3 I<|.q I (.eq I)<|.nil I
 refine .nil<|.z I<|.nil<|.ret (rO h I)
theorem zdn (n : Nat) (t0 : List Int) (t1 : List Int) (r : Int) (h : zaV n t0 t1 = some r) : Pure pg 148 [eA t0, eA t1] (.int r) := by
 refine Pure.ot Tryz.func148 I Tryz.ntmps148 I fun A w => .sr<|.z I<|.nil<|.sr<|.z I<|.nil<|.seq<|.sr<|.m I<|.p I (.len I U22 I)<|.m I<|.nil<|.block<|.loopS [0, 8, 9] (fun (v : Int × Int) => [(5, .d (.int v.1)), (10, .d (.int v.2))]) (fun (v : Int × Int) => []) (.c2 I<|.c I .nil) h ⟨_, Fz8 I trivial⟩ (fun _ v h => ?_)
 obtain ⟨x9, x10⟩ := v
 refine .sr<|.p I (.ls I)<|.nil<|.keep [] [0, 5, 8, 9, 10, 11] (.c4 I<|.c2 I .nil) I<|.seq<|.condS I h (fun h => ?_) fun h => ?_
 ·refine .skip<|.seq<|.block<|.sr<|bK h fun x12 q12 h => .p I (.ix I U22 S3 q12)<|.p I (.ld Y3 I)<|.z I<|.nil<|.region<|.m I<|.m I<|.m I<|bK h fun x13 q13 h => .p I (.ix I U22 S3 q13)<|.p I (.ld Y3 I)<|.p I (.ml I)<|.z I<|.nil<|.region<|.p I (.ad I)<|.m I<|.nil ⟨_, h, _, Fz8 I trivial⟩
 ·refine .exit<|.sr<|.m I<|.z I<|.nil<|.ret (rO h I)
theorem zew (n : Nat) (t0 : List Int) (t1 : List Table) (r : Bool) (h : zbp n t0 t1 = some r) : Pure pg 94 [eA t0, eB t1] (.bool r) := by
 refine Pure.ot Tryz.func94 I Tryz.ntmps94 I fun A w => .sr<|.z I<|.nil<|.seq<|.sr<|.m I<|.p I (.len I U22 I)<|.p I (.le I)<|.m I<|.p I (.len I U23 I)<|.p I (.le I)<|.m I<|bK h fun x1 q1 h => .p I (.call I (kC I) I (zjV _ _ _ q1))<|.p I (.buildSl [_, _, _] I I E144 I (fun _ => I) I (enc := D.bool))<|bK h fun x2 q2 h => .p I (.call I (kC I) I (zil _ _ _ q2))<|.p I (.nt I)<|.nil<|.condS I h (fun h => ?_) fun h => ?_
 ·refine .sr<|.z I<|.nil<|.ret (rO h I)
 ·refine .skip<|.sr<|.makeMap (fun l : List UInt8 => Value.string ⟨l.toArray⟩) D.bool I I I I<|.z I<|.nil<|.sr<|.allocZ I I I I (.val Zv3) I<|.allocZ I I I I (.val Zv3) I<|.store I I I I I I (.ofD I) C3 I (yd I)<|.store I I I I I I (.ofD I) C3 I (yd I)<|.nil<|.keep [GMap.blk (fun l : List UInt8 => Value.string ⟨l.toArray⟩) D.bool (GMap.empty : GMap (List UInt8) Bool), .box 3 [.d (.int 0)], .box 3 [.d (.int 0)]] [0, 1, 5, 6, 7] (.c4 I<|.c I .nil) I<|.seq<|.sr<|.m I<|.p I (.len I U23 I)<|.m I<|.nil<|.block<|.loopS [0, 5, 6, 7, 23, 24] (fun (v : (GMap (List UInt8) Bool) × Int × Int × Int) => [(25, .d (.int v.2.2.2))]) (fun (v : (GMap (List UInt8) Bool) × Int × Int × Int) => [(0, GMap.blk (fun l : List UInt8 => Value.string ⟨l.toArray⟩) D.bool v.1), (1, .box 3 [.d (.int v.2.1)]), (2, .box 3 [.d (.int v.2.2.1)])]) (.c4 I<|.c2 I .nil) h ⟨_, Fz8 I<|Fz2 I trivial⟩ (fun _ v h => ?_)
  obtain ⟨m0_37, c1_0_38, c2_0_39, x40⟩ := v
  refine .sr<|.p I (.ls I)<|.nil<|.keep [GMap.blk (fun l : List UInt8 => Value.string ⟨l.toArray⟩) D.bool m0_37, .box 3 [.d (.int c1_0_38)], .box 3 [.d (.int c2_0_39)]] [0, 5, 6, 7, 23, 24, 25, 26] (.c8 I .nil) I<|.seq<|.condS I h (fun h => ?_) fun h => ?_
  ·refine .skip<|.join [0, 5, 6, 7, 23, 24, 25] (fun (v : (GMap (List UInt8) Bool) × Int × Int) => []) (fun (v : (GMap (List UInt8) Bool) × Int × Int) => [(0, GMap.blk (fun l : List UInt8 => Value.string ⟨l.toArray⟩) D.bool v.1), (1, .box 3 [.d (.int v.2.1)]), (2, .box 3 [.d (.int v.2.2)])]) (.c4 I<|.c2 I<|.c I .nil) h (fun k_45 h => ?_) (fun v h => ?_)
   ·refine .block<|.sr<|bK h fun x46 q46 h => .p I (.ix I U23 S127 q46)<|.p I (.ld Y127 I)<|.allocStore I I I I I I I I (by simp) I I Z127<|.nil<|.seq<|.seq<|.draw 20 Hm (by kernel_rfl) (by kernel_rfl)<|.f I (ziV _) Y9 I<|bK h fun x47 q47 h => .p I (.call I (kC I) I (zho _ _ _ q47))<|.m I<|.f I (ziV _) Y9 I<|.p I (.mapGet I U167 KT9 I I I (z := (false : Bool)) (.val Zv4))<|.p I (.nt I)<|.f I (zcC _) Y3 I<|bK h fun x48 q48 h => .p I (.call I (kC I) I (zfG _ _ _ _ _ q48))<|.m I<|.f I (zbR _) Y22 I<|bK h fun x49 q49 h => .p I (.call I (kC I) I (zhQ _ _ _ _ q49))<|.p I (.ld Y127 I)<|bK h fun x50 q50 h => .p I (.call I (kC I) I (zi5 _ _ _ q50))<|.p I (.buildSl [_, _, _, _, _] I I E144 I (fun _ => I) I (enc := D.bool))<|bK h fun x51 q51 h => .p I (.call I (kC I) I (zil _ _ _ q51))<|.p I (.nt I)<|.nil<|.nil<|.keep [GMap.blk (fun l : List UInt8 => Value.string ⟨l.toArray⟩) D.bool m0_37, .box 3 [.d (.int c1_0_38)], .box 3 [.d (.int c2_0_39)]] [0, 5, 6, 7, 9, 23, 24, 25, 48] (.c8 I<|.c I .nil) I<|.condS I h (fun h => ?_) fun h => ?_
    ·refine .sr<|.z I<|.nil<|.ret (rO h I)
    ·refine .skip<|.sr<|.m I<|.f I (ziV _) Y9 I<|.mapPut (k := x46.name) (v := true) I I I U167 KT9 I I I I<|.nil<|.sr<|.z I<|.nil<|.seq<|.sr<|.p I (.ld Y127 I)<|bK h fun x52 q52 h => .p I (.call I (kC I) I (zdh _ _ _ q52))<|.nil<|.condS I h (fun h => ?_) fun h => ?_
     ·refine .region<|.z I<|.nil<|.seq<|.seq<|.draw 6 Hm (by kernel_rfl) (by kernel_rfl)<|.f I (ziW _) Y3 I<|.m I<|.p I (.nilCheck_loc I I I)<|.p I (.loadLoc1 I I I Y3 I)<|.p I (.ne I)<|.nil<|.nil<|.condS I h (fun h => ?_) fun h => ?_
      ·refine .sr<|.z I<|.nil<|.ret (rO h I)
      ·refine .skip<|.draw 9 Hm (by kernel_rfl) (by kernel_rfl)<|.m I<|.p I (.nilCheck_loc I I I)<|.p I (.loadLoc1 I I I Y3 I)<|.m I<|.f I (zbR _) Y22 I<|bK h fun x53 q53 h => .p I (.call I (kC I) I (zdn _ _ _ _ q53))<|.p I (.ad I)<|.p I (.nilCheck_loc I I I)<|.nil<|.store I I I I I I (.ofD I) C3 I (yd I)<|.nil ⟨_, h, _, Fz8 I<|Fz2 I trivial⟩
     ·refine .skip<|.seq<|.seq<|.draw 6 Hm (by kernel_rfl) (by kernel_rfl)<|.f I (ziW _) Y3 I<|.m I<|.p I (.nilCheck_loc I I I)<|.p I (.loadLoc1 I I I Y3 I)<|.p I (.ne I)<|.nil<|.nil<|.condS I h (fun h => ?_) fun h => ?_
      ·refine .sr<|.z I<|.nil<|.ret (rO h I)
      ·refine .skip<|.draw 9 Hm (by kernel_rfl) (by kernel_rfl)<|.m I<|.p I (.nilCheck_loc I I I)<|.p I (.loadLoc1 I I I Y3 I)<|.m I<|.f I (zbR _) Y22 I<|bK h fun x54 q54 h => .p I (.call I (kC I) I (zdn _ _ _ _ q54))<|.p I (.ad I)<|.p I (.nilCheck_loc I I I)<|.nil<|.store I I I I I I (.ofD I) C3 I (yd I)<|.nil ⟨_, h, _, Fz8 I<|Fz2 I trivial⟩
   ·obtain ⟨m0_42, c1_0_43, c2_0_44⟩ := v
    refine .region<|.p I (.ad I)<|.m I<|.nil ⟨_, h, _, Fz8 I<|Fz2 I trivial⟩
  ·refine .exit<|.seq<|.plain 6 I<|.p I (.loadLoc1 I I I Y3 I)<|.p I (.le I)<|.m I<|.jA 2 (decide (c2_0_39 ≤ 64)) I (fun b55 => ?_) ?_
   ·refine .q I (.loadLoc1 I I I Y3 I)<|.q I (.le I)<|.nil I
   refine .nil<|.z I<|.nil<|.ret (rO h I)
theorem zeT (n : Nat) (t0 : List (List UInt8)) (r : Bool) (h : zai n t0 = some r) : Pure pg 95 [eC t0] (.bool r) := by
 refine Pure.ot Tryz.func95 I Tryz.ntmps95 I fun A w => .sr<|.z I<|.nil<|.sr<|.makeMap (fun l : List UInt8 => Value.string ⟨l.toArray⟩) D.bool I I I I<|.z I<|.nil<|.seq<|.sr<|.m I<|.p I (.len I U24 I)<|.m I<|.nil<|.block<|.loopS [3, 7, 8] (fun (v : (GMap (List UInt8) Bool) × Int) => [(9, .d (.int v.2))]) (fun (v : (GMap (List UInt8) Bool) × Int) => [(0, GMap.blk (fun l : List UInt8 => Value.string ⟨l.toArray⟩) D.bool v.1)]) (.c2 I<|.c I .nil) h ⟨_, Fz4 I<|Fz2 I<|FzE⟩ (fun _ v h => ?_)
 obtain ⟨m0_11, x12⟩ := v
 refine .sr<|.p I (.ls I)<|.nil<|.keep [GMap.blk (fun l : List UInt8 => Value.string ⟨l.toArray⟩) D.bool m0_11] [3, 7, 8, 9, 10] (.c4 I<|.c I .nil) I<|.seq<|.condS I h (fun h => ?_) fun h => ?_
 ·refine .skip<|.seq<|.block<|.sr<|bK h fun x14 q14 h => .p I (.ix I U24 S9 q14)<|.p I (.ld Y9 I)<|.z I<|.nil<|.seq<|.seq<|.plain 8 I<|.m I<|bK h fun x15 q15 h => .p I (.call I (kC I) I (zho _ _ _ q15))<|.p I (.nt I)<|.m I<|.jO 3 ((m0_11.get? x14).getD false) I (fun b16 => ?_) ?_
  ·refine .qm I<|.qm I<|.q I (.mapGet I U167 KT9 I I I (z := (false : Bool)) (.val Zv4))<|.nil I
  refine .nil<|.nil<|.condS I h (fun h => ?_) fun h => ?_
  ·refine .sr<|.z I<|.nil<|.ret (rO h I)
  ·refine .skip<|.region<|.m I<|.m I<|.mapPut (k := x14) (v := true) I I I U167 KT9 I I I I<|.nil<|.region<|.p I (.ad I)<|.m I<|.nil ⟨_, h, _, Fz4 I<|Fz2 I<|FzE⟩
 ·refine .exit<|.sr<|.z I<|.nil<|.ret (rO h I)
theorem zhr (n : Nat) (t0 : Int) (t1 : Int) (r : Int × Int) (h : zd0 n t0 t1 = some r) : Pure pg 220 [.val (.int .u64 t0), .val (.int .u64 t1)] (.tup [.val (.int .u64 r.1), .val (.int .u64 r.2)]) := by
 refine Pure.ot Tryz.func220 I Tryz.ntmps220 I fun A w => .sr<|.z I<|.z I<|.nil<|.sr<|.m I<|.p I (.band I I I)<|.z I<|.nil<|.sr<|.m I<|bK h fun x1 q1 h => .p I (.shr I I I q1)<|.z I<|.nil<|.sr<|.m I<|.p I (.band I I I)<|.z I<|.nil<|.sr<|.m I<|bK h fun x2 q2 h => .p I (.shr I I I q2)<|.z I<|.nil<|.sr<|.m I<|.m I<|.p I (.mul I I I)<|.z I<|.nil<|.keep [] [0, 1, 6, 7, 8, 9, 10] (.c4 I<|.c2 I<|.c I .nil) I ?_
 refine .sr<|.m I<|.m I<|.p I (.mul I I I)<|.m I<|bK h fun x3 q3 h => .p I (.shr I I I q3)<|.p I (.add I I I)<|.z I<|.nil<|.sr<|.m I<|.p I (.band I I I)<|.z I<|.nil<|.sr<|.m I<|bK h fun x4 q4 h => .p I (.shr I I I q4)<|.z I<|.nil<|.sr<|.m I<|.m I<|.m I<|.p I (.mul I I I)<|.p I (.add I I I)<|.z I<|.nil<|.keep [] [0, 1, 7, 9, 12, 13] (.c4 I<|.c2 I .nil) I<|.sr<|.m I<|.m I<|.p I (.mul I I I)<|.m I ?_
 refine .p I (.add I I I)<|.m I<|bK h fun x5 q5 h => .p I (.shr I I I q5)<|.p I (.add I I I)<|.z I<|.nil<|.sr<|.m I<|.m I<|.p I (.mul I I I)<|.z I<|.nil<|.ret ?_
 cases h
 exact zga I I (.d _) (.d _)
theorem ziH (n : Nat) (t0 : Int) (t1 : Int) (r : Int × Int) (h : zdK n t0 t1 = some r) : Pure pg 195 [.val (.int .u64 t0), .val (.int .u64 t1)] (.tup [.val (.int .u64 r.1), .val (.int .u64 r.2)]) := by
 refine Pure.ot Tryz.func195 I Tryz.ntmps195 I fun A w => .sr<|.z I<|.z I<|.nil<|.seq<|.condF I<|.skip<|.sr<|.m I<|.m I<|bK h fun x1 q1 h => .p I (.call I (kC I) I (zhr _ _ _ _ q1))<|.m I<|.p I (.extract I I I)<|.p I (.extract I I I)<|.z I<|.z I<|.nil<|.sr<|.m I<|.m I<|.z I<|.z I<|.nil<|.ret ?_
 cases h
 exact zga I I (.d _) (.d _)
theorem zdc (n : Nat) (t0 : List Range) (t1 : Int) (r : List Range) (h : zF n t0 t1 = some r) : Pure pg 149 [eK t0, .int t1] (eK r) := by
 refine Pure.ot Tryz.func149 I Tryz.ntmps149 I fun A w => .sr<|.p I (.nilS 2 (α := Range) Range.enc I)<|.nil<|.seq<|.sr<|.m I<|.p I (.ls I)<|.nil<|.condS I h (fun h => ?_) fun h => ?_
 ·refine .region ?_
  cases h
 ·refine .skip<|.sr<|.m I<|.p I (.len I U48 I)<|.p I (.conv I U3 U210 I)<|.m I<|.p I (.conv I U3 U210 I)<|bK h fun x1 q1 h => .p I (.call I (kC I) I (ziH _ _ _ _ q1))<|.m I<|.p I (.extract I I I)<|.p I (.extract I I I)<|.z I<|.z I<|.nil<|.seq<|.seq<|.plain 6 I<|.m I<|.p I (.gt I)<|.m I<|.jO 2 (decide (9223372036854775807 < x1.2)) I (fun b2 => ?_) ?_
  ·refine .qm I<|.q I (.gt I)<|.nil I
  refine .nil<|.nil<|.keep [] [0, 6, 26] (.c2 I<|.c I .nil) I<|.condS I h (fun h => ?_) fun h => ?_
  ·refine .region ?_
   cases h
  ·refine .skip<|.sr<|.m I<|.p I (.conv I U210 U3 I)<|bK h fun x3 q3 h => .makeVec (enc := Range.enc) (z := (⟨0, 0⟩ : Range)) I I I I E48 I I I (.agg Zc87 (ds' := [.int 0, .int 0]) (.e .e1)) q3<|.z I<|.nil<|.sr<|.m I<|.m I<|.asSub 31 I<|.copySub (enc := Range.enc) (l := x3) (ys := t0) I I I I E48 I I I (.d I) (fun _ => I)<|.relen 7 I (zi8 _ t0).symm<|.relen 30 I (zi8 _ t0).symm<|.z I<|.nil<|.seq<|.block<|.loopS [] (fun (v : (List Range) × Int) => [(7, .vec 0 (List.length v.1)), (8, .d (.int v.2))]) (fun (v : (List Range) × Int) => [(0, .vec 87 2 (List.map Range.enc v.1))]) .nil h ⟨_, Fz4 I<|FzE⟩ (fun _ v h => ?_)
   obtain ⟨b0_12, x13⟩ := v
   refine .seq<|.sr<|.m I<|.m I<|.p I (.lenV I U48 I I I)<|.p I (.ls I)<|.nil<|.keep [.vec 87 2 (List.map Range.enc b0_12)] [7, 8, 37] (.c2 I<|.c I .nil) I<|.condS I h (fun h => ?_) fun h => ?_
   ·refine .skip<|.block<|.drawF 7 [0] Hm (by kernel_rfl) (by kernel_rfl)<|.m I<|.m I<|.m I<|bK h fun x15 q15 h => .p I (.subL I I I I I U48 S87 q15)<|.m I<|.m I<|bK h fun x16 q16 h => .p I (.subH I I I I I U48 S87 q16)<|.nil ⟨.move I I .nil, ?_⟩
    refine .copySub (enc := Range.enc) (l := b0_12) (ys := ((b0_12.drop 0).take (x13.toNat - 0))) I I I I E48 I I I (.sub I I I) (fun _ => I)<|.relen 7 I (zdU q15 ((b0_12.drop 0).take (x13.toNat - 0))).symm<|.relen 39 I (zdU q15 ((b0_12.drop 0).take (x13.toNat - 0))).symm<|.relen 42 I (zdU q15 ((b0_12.drop 0).take (x13.toNat - 0))).symm<|.p I (.ad I)<|.z I<|.nil ⟨_, h, _, Fz4 I<|FzE⟩
   ·refine .exit<|.sr<|.m I<|.z I<|.nil<|.ret ?_
    cases h
    exact zbv I (.vec I (by simp))
theorem zfE (n : Nat) (t0 : List Int) (t1 : List Table) (t2 : Bool) (r : List Range) (h : zbk n t0 t1 t2 = some r) : Pure pg 96 [eA t0, eB t1, .bool t2] (eK r) := by
 refine Pure.ot Tryz.func96 I Tryz.ntmps96 I fun A w => .sr<|.p I (.nilS 2 (α := Range) Range.enc I)<|.nil<|.seq<|.sr<|.m I<|.m I<|bK h fun x1 q1 h => .p I (.call I (kC I) I (zew _ _ _ _ q1))<|.p I (.nt I)<|.nil<|.condS I h (fun h => ?_) fun h => ?_
 ·refine .sr<|.p I (.nilS 2 (α := Range) Range.enc I)<|.nil<|.ret ?_
  cases h
  exact zbv I (.d _)
 ·refine .skip<|.sr<|.z I<|.nilVec 7 2 87 I<|.nil<|.seq<|.sr<|.m I<|.p I (.len I U23 I)<|.m I<|.nil<|.block<|.loopS [0, 2, 14, 15] (fun (v : (List Range) × Int) => [(7, .vec 0 (List.length v.1)), (16, .d (.int v.2))]) (fun (v : (List Range) × Int) => [(0, .vec 87 2 (List.map Range.enc v.1))]) (.c4 I .nil) h ⟨_, Fz8 I<|FzE⟩ (fun _ v h => ?_)
  obtain ⟨b0_20, x21⟩ := v
  refine .sr<|.p I (.ls I)<|.nil<|.keep [.vec 87 2 (List.map Range.enc b0_20)] [0, 2, 7, 14, 15, 16, 17] (.c4 I<|.c2 I<|.c I .nil) I<|.seq<|.condS I h (fun h => ?_) fun h => ?_
  ·refine .skip<|.join [0, 2, 14, 15, 16] (fun (v : (List Range)) => [(7, .vec 0 (List.length v))]) (fun (v : (List Range)) => [(0, .vec 87 2 (List.map Range.enc v))]) (.c4 I<|.c I .nil) h (fun k_24 h => ?_) (fun b0_23 h => ?_)
   ·refine .block<|.sr<|bK h fun x25 q25 h => .p I (.ix I U23 S127 q25)<|.p I (.ld Y127 I)<|.allocStore I I I I I I I I (by simp) I I Z127<|.nil<|.sr<|.p I (.ld Y127 I)<|bK h fun x26 q26 h => .p I (.call I (kC I) I (zdh _ _ _ q26))<|.m I<|.p I (.beq I U4 I I)<|.nil<|.condS I h (fun h => ?_) fun h => ?_
    ·refine .draw 9 Hm (by kernel_rfl) (by kernel_rfl)<|.m I<|.f I (zdg _) Y87 I<|.p I (.buildSl [_] I I E48 I (fun _ => I) I (enc := Range.enc))<|.m I<|.f I (zbR _) Y22 I<|bK h fun x27 q27 h => .p I (.call I (kC I) I (zdn _ _ _ _ q27))<|bK h fun x28 q28 h => .p I (.call I (kC I) I (zdc _ _ _ _ q28))<|.nil<|bK h fun x29 q29 h => .app I I I I I I I I E48 I (fun _ => I) q29<|.z I<|.nil ⟨_, h, _, Fz8 I<|FzE⟩
    ·refine .skip ⟨_, h, _, Fz8 I<|FzE⟩
   ·refine .region<|.p I (.ad I)<|.m I<|.nil ⟨_, h, _, Fz8 I<|FzE⟩
  ·refine .exit<|.sr<|.m I<|.z I<|.nil<|.ret ?_
   cases h
   exact zbv I (.vec I (by simp))
theorem zce (n : Nat) (t0 : Int) (t1 : Int) (r : Bool) (h : zad n t0 t1 = some r) : Pure pg 150 [.int t0, .int t1] (.bool r) := by
 refine Pure.ot Tryz.func150 I Tryz.ntmps150 I fun A w => .sr<|.z I<|.nil<|.seq<|.plain 7 I<|.m I<|.p I (.ge I)<|.m I<|.jA 3 (decide (t0 < t1)) I (fun b1 => ?_) ?_
 ·refine .qm I<|.qm I<|.q I (.ls I)<|.nil I
 refine .nil<|.z I<|.nil<|.ret (rO h I)
theorem zc7 (n : Nat) (t0 : Int) (t1 : Int) (r : Bool) (h : zau n t0 t1 = some r) : Pure pg 156 [.int t0, .int t1] (.bool r) := by
 refine Pure.ot Tryz.func156 I Tryz.ntmps156 I fun A w => .sr<|.z I<|.nil<|.seq<|.plain 9 I<|.m I<|.m I<|.p I (.neg6 I I)<|.p I (.ge I)<|.m I<|.jA 3 (decide (t0 ≤ t1)) I (fun b1 => ?_) ?_
 ·refine .qm I<|.qm I<|.q I (.le I)<|.nil I
 refine .nil<|.z I<|.nil<|.ret (rO h I)
theorem zel (n : Nat) (t0 : Judge) (t1 : Row) (r : Bool) (h : zaq n t0 t1 = some r) : Pure pg 151 [Judge.enc t0, Row.enc t1] (.bool r) := by
 refine Pure.ot Tryz.func151 I Tryz.ntmps151 I fun A w => .sr<|.p I (.bx I)<|.p I (.bx I)<|.z I<|.nil<|.sr<|.z I<|.nil<|.seq<|.sr<|.f I (G33_0 _) Y31 I<|.p I (.len I U31 I)<|.m I<|.nil<|.block<|.loopS [2, 3, 9, 10] (fun (v : Int × Int) => [(5, .d (.int v.1)), (11, .d (.int v.2))]) (fun (v : Int × Int) => []) (.c4 I .nil) h ⟨_, Fz8 I<|FzE⟩ (fun _ v h => ?_)
 obtain ⟨x15, x16⟩ := v
 refine .sr<|.p I (.ls I)<|.nil<|.keep [] [2, 3, 5, 9, 10, 11, 12] (.c4 I<|.c2 I<|.c I .nil) I<|.seq<|.condS I h (fun h => ?_) fun h => ?_
 ·refine .skip<|.seq<|.block<|.sr<|bK h fun x18 q18 h => .p I (.ix I U31 S41 q18)<|.p I (.ld Y41 I)<|.allocStore I I I I I I I I (by simp) I I Z41<|.nil<|.seq<|.seq<|.plain 23 I<|.f I (G41_0 _) Y3 I<|.m I<|.p I (.le I)<|.m I<|.jO 6 (decide ((t0.strict.length : Int) ≤ x18.cell)) I (fun b19 => ?_) ?_
  ·refine .qf I (G41_0 _) Y3 I<|.qf I (zlk _) Y48 I<|.q I (.len I U48 I)<|.q I (.ge I)<|.nil I
  refine .m I<|.jO 3 (x18.factor == 0) I (fun b20 => ?_) ?_
  ·refine .qf I (G41_1 _) Y3 I<|.q I (.eq I)<|.nil I
  refine .m I<|gK h fun c22 h => .jO 4 (!((zau n x18.factor 1000).getD default)) I (fun b21 => ?_) ?_
  ·refine .qf I (G41_1 _) Y3 I<|.q I (.call I (kC I) I (zc7 _ _ _ _ (someD (impF c22 b21))))<|.q I (.nt I)<|.nil I
  refine .nil<|.nil<|.keep [] [2, 3, 7, 9, 10, 11, 37] (.c4 I<|.c2 I<|.c I .nil) I<|.condS I h (fun h => ?_) fun h => ?_
  ·refine .sr<|.z I<|.nil<|.ret (rO h I)
  ·refine .skip<|.region<|.f I (G41_0 _) Y3 I<|.z I<|.nil<|.region<|.p I (.ad I)<|.m I<|.nil ⟨_, h, _, Fz8 I<|FzE⟩
 ·refine .exit<|.sr<|.f I (G33_1 _) Y3 I<|bK h fun x23 q23 h => .p I (.call I (kC I) I (zc7 _ _ _ _ q23))<|.z I<|.nil<|.ret (rO h I)
theorem zfz (n : Nat) (t0 : Table) (t1 : Constraint) (t2 : Judge) (r : Bool) (h : za6 n t0 t1 t2 = some r) : Pure pg 197 [Table.enc t0, .ref (Constraint.enc t1), .ref (Judge.enc t2)] (.bool r) := by
 refine Pure.ot Tryz.func197 I Tryz.ntmps197 I fun A w => .sr<|.p I (.bx I)<|.z I<|.nil<|.seq<|.draw 42 Hm (by kernel_rfl) (by kernel_rfl)<|.f I (zcC _) Y3 I<|.p I (.eq I)<|.m I<|.jA 4 ((t0.columns.length : Int) == 2) I (fun b1 => ?_) ?_
 ·refine .qf I (zbR _) Y22 I<|.q I (.len I U22 I)<|.q I (.eq I)<|.nil I
 refine .m I<|gK h fun c3 h => gK h fun c4 h => .jA 9 (((idx t0.columns 0).getD default) == ((idx t0.columns 1).getD default)) I (fun b2 => ?_) ?_
 ·refine .qf I (zbR _) Y22 I<|.q I (.ix I U22 S3 (someD (impT c3 b2)))<|.q I (.ld Y3 I)<|.qf I (zbR _) Y22 I<|.q I (.ix I U22 S3 (someD (impT c4 b2)))<|.q I (.ld Y3 I)<|.q I (.eq I)<|.nil I
 refine .m I<|.jA 5 (t0.first == t1.first) I (fun b5 => ?_) ?_
 ·refine .qf I (ziW _) Y3 I<|.qf I (G78_3 _) Y3 I<|.q I (.eq I)<|.nil I
 refine .m I<|gK h fun c7 h => gK h fun c8 h => .jA 12 (((idx t2.model.sorts ((idx t0.columns 0).getD default)).getD default) == t1.size) I (fun b6 => ?_) ?_
 ·refine .q I (.fa I (zbS _))<|.qf I (G30_0 _) Y22 I<|.qf I (zbR _) Y22 I<|.q I (.ix I U22 S3 (someD (impT c7 b6)))<|.q I (.ld Y3 I)<|.q I (.ix I U22 S3 (someD (impT c8 b6)))<|.q I (.ld Y3 I)<|.qf I (G78_4 _) Y3 I<|.q I (.eq I)<|.nil I
 refine .z I<|.nil<|.nil<|.keep [] [4] (.c I .nil) I<|.ret (rO h I)
theorem zcJ (n : Nat) (t0 : List Table) (t1 : Table → Option Bool) (F1 : D) (hF1 : ∀ (q0 : Table) (y : Bool), t1 q0 = some y → Dyn pg F1 [Table.enc q0] (.bool y)) (r : Int) (h : zt n t0 t1 = some r) : Pure pg 221 [eB t0, F1] (.int r) := by
 refine Pure.ot Tryz.func221 I Tryz.ntmps221 I fun A w => .sr<|.z I<|.nil<|.seq<|.sr<|.m I<|.p I (.len I U23 I)<|.m I<|.nil<|.block<|.loopS [0, 1, 7] (fun (v : Int) => [(8, .d (.int v))]) (fun (v : Int) => []) (.c2 I<|.c I .nil) h ⟨_, Fz4 I<|Fz2 I<|FzE⟩ (fun _ x7 h => ?_)
 refine .sr<|.p I (.ls I)<|.nil<|.keep [] [0, 1, 7, 8, 9] (.c4 I<|.c I .nil) I<|.seq<|.condS I h (fun h => ?_) fun h => ?_
 ·refine .skip<|.seq<|.block<|.sr<|.m I<|.z I<|.nil<|.sr<|.m I<|.m I<|.m I<|bK h fun x9 q9 h => .p I (.ix I U23 S127 q9)<|.p I (.ld Y127 I)<|bK h fun x10 q10 h => .p I (.dyn I I I (hF1 _ _ q10))<|.nil<|.condS I h (fun h => ?_) fun h => ?_
  ·refine .sr<|.m I<|.z I<|.nil<|.ret (rO h I)
  ·refine .skip<|.region<|.p I (.ad I)<|.m I<|.nil ⟨_, h, _, Fz4 I<|Fz2 I<|FzE⟩
 ·refine .exit<|.sr<|.z I<|.nil<|.ret (rO h I)
theorem zcr (n : Nat) (t0 : List Table) (t1 : Table → Option Bool) (F1 : D) (hF1 : ∀ (q0 : Table) (y : Bool), t1 q0 = some y → Dyn pg F1 [Table.enc q0] (.bool y)) (r : Bool) (h : zJ n t0 t1 = some r) : Pure pg 196 [eB t0, F1] (.bool r) := by
 refine Pure.ot Tryz.func196 I Tryz.ntmps196 I fun A w => .sr<|.z I<|.nil<|.sr<|.m I<|.m I<|bK h fun x1 q1 h => .p I (.call I (kC I) I (zcJ _ _ _ _ hF1 _ q1))<|.p I (.ge I)<|.z I<|.nil<|.ret (rO h I)
theorem zgu (n : Nat) (t0 : Judge) (t1 : Constraint) (r : Bool) (h : zbo n t0 t1 = some r) : Pure pg 152 [Judge.enc t0, Constraint.enc t1] (.bool r) := by
 refine Pure.ot Tryz.func152 I Tryz.ntmps152 I fun A w => .sr<|.p I (.bx I)<|.p I (.bx I)<|.z I<|.nil<|.seq<|.plain 18 I<|.p I (.fa I (G78_2 _))<|.f I (G33_0 _) Y31 I<|.p I (.len I U31 I)<|.p I (.eq I)<|.m I<|.jA 4 (t1.row.bound == 0) I (fun b1 => ?_) ?_
 ·refine .q I (.fa I (G78_2 _))<|.qf I (G33_1 _) Y3 I<|.q I (.eq I)<|.nil I
 refine .m I<|gK h fun c3 h => .jA 5 (((zJ n t0.model.tables (fun q0 => za6 n q0 t1 t0)).getD default)) I (fun b2 => ?_) ?_
 ·refine .q I (.fa I (zbS _))<|.qf I (G30_1 _) Y23 I<|.q I (.makeFunc I I)<|.q I (.call I (kC I) I (zcr _ _ _ _ (fun q0 y hq => ⟨_, _, I, K197, zfz _ q0 _ _ _ hq⟩) _ (someD (impT c3 b2))))<|.nil I
 refine .nil<|.z I<|.nil<|.keep [] [4] (.c I .nil) I<|.ret (rO h I)
theorem zdx (n : Nat) (t0 : List Term) (t1 : List Term) (r : Bool) (h : zH n t0 t1 = some r) : Pure pg 198 [eL t0, eL t1] (.bool r) := by
 refine Pure.ot Tryz.func198 I Tryz.ntmps198 I fun A w => .sr<|.z I<|.nil<|.seq<|.sr<|.m I<|.p I (.len I U31 I)<|.m I<|.p I (.len I U31 I)<|.p I (.ne I)<|.nil<|.condS I h (fun h => ?_) fun h => ?_
 ·refine .sr<|.z I<|.nil<|.ret (rO h I)
 ·refine .skip<|.seq<|.sr<|.m I<|.p I (.len I U31 I)<|.m I<|.nil<|.block<|.loopS [0, 1, 12] (fun (v : Int) => [(13, .d (.int v))]) (fun (v : Int) => []) (.c2 I<|.c I .nil) h ⟨_, Fz4 I<|Fz2 I<|FzE⟩ (fun _ x7 h => ?_)
  refine .sr<|.p I (.ls I)<|.nil<|.keep [] [0, 1, 12, 13, 14] (.c4 I<|.c I .nil) I<|.seq<|.condS I h (fun h => ?_) fun h => ?_
  ·refine .skip<|.seq<|.block<|.sr<|.m I<|.z I<|.nil<|.seq<|.draw 9 Hm (by kernel_rfl) (by kernel_rfl)<|.m I<|.m I<|bK h fun x9 q9 h => .p I (.ix I U31 S41 q9)<|.p I (.ld Y41 I)<|.m I<|.m I<|bK h fun x10 q10 h => .p I (.ix I U31 S41 q10)<|.p I (.ld Y41 I)<|.p I (.sneq I SE41 I I (xs := Term.vals _) (ys := Term.vals _) I I I I (SQ41 _ _))<|.nil<|.nil<|.condS I h (fun h => ?_) fun h => ?_
   ·refine .sr<|.z I<|.nil<|.ret (rO h I)
   ·refine .skip<|.region<|.p I (.ad I)<|.m I<|.nil ⟨_, h, _, Fz4 I<|Fz2 I<|FzE⟩
  ·refine .exit<|.sr<|.z I<|.nil<|.ret (rO h I)
theorem zjx (n : Nat) (t0 : Row) (t1 : Int) (t2 : Int) (t3 : Int) (r : Bool) (h : zcX n t0 t1 t2 t3 = some r) : Pure pg 153 [Row.enc t0, .int t1, .int t2, .int t3] (.bool r) := by
 refine Pure.ot Tryz.func153 I Tryz.ntmps153 I fun A w => .sr<|.p I (.bx I)<|.z I<|.nil<|.seq<|.plain 13 I<|.f I (G33_0 _) Y31 I<|.m I<|.m I<|.p I (.castD (Term.enc (⟨t1, t2⟩ : Term)) I (.build I Pl41 (.agg Zc41 (ds' := [_, _]) (.e .e1)) I I))<|.p I (.buildSl [_] I I E31 I (fun _ => I) I (enc := Term.enc))<|bK h fun x1 q1 h => .p I (.call I (kC I) I (zdx _ _ _ _ q1))<|.m I<|.jA 4 (t0.bound == t3) I (fun b2 => ?_) ?_
 ·refine .qf I (G33_1 _) Y3 I<|.qm I<|.q I (.eq I)<|.nil I
 refine .nil<|.z I<|.nil<|.keep [] [8] (.c I .nil) I<|.ret (rO h I)
theorem zee (n : Nat) (t0 : Judge) (r : Bool) (h : zU n t0 = some r) : Pure pg 97 [Judge.enc t0] (.bool r) := by
 refine Pure.ot Tryz.func97 I Tryz.ntmps97 I fun A w => .sr<|.p I (.bx I)<|.z I<|.nil<|.seq<|.seq<|.plain 16 I<|.p I (.fa I (zbS _))<|.f I (G30_3 _) Y25 I<|.p I (.len I U25 I)<|.p I (.gt I)<|.m I<|.jO 9 (decide ((t0.model.constraints.length : Int) < mul64 2 (t0.strict.length : Int))) I (fun b1 => ?_) ?_
 ·refine .q I (.fa I (zbS _))<|.qf I (G30_3 _) Y25 I<|.q I (.len I U25 I)<|.qf I (zlk _) Y48 I<|.q I (.len I U48 I)<|.q I (.ml I)<|.q I (.ls I)<|.nil I
 refine .nil<|.nil<|.keep [] [1, 23] (.c2 I .nil) I<|.condS I h (fun h => ?_) fun h => ?_
 ·refine .sr<|.z I<|.nil<|.ret (rO h I)
 ·refine .skip<|.seq<|.sr<|.p I (.fa I (zbS _))<|.f I (G30_3 _) Y25 I<|.p I (.len I U25 I)<|.m I<|.nil<|.block<|.loopS [1, 26, 27] (fun (v : Int) => [(28, .d (.int v))]) (fun (v : Int) => []) (.c2 I<|.c I .nil) h ⟨_, Fz4 I<|Fz2 I<|FzE⟩ (fun _ x42 h => ?_)
  refine .sr<|.p I (.ls I)<|.nil<|.keep [] [1, 26, 27, 28, 29] (.c4 I<|.c I .nil) I<|.seq<|.condS I h (fun h => ?_) fun h => ?_
  ·refine .skip<|.join [1, 26, 27, 28] (fun (v : Unit) => []) (fun (v : Unit) => []) (.c4 I .nil) h (fun k_44 h => ?_) (fun v h => ?_)
   ·refine .block<|.sr<|.m I<|bK h fun x45 q45 h => .p I (.ix I U25 S78 q45)<|.p I (.ld Y78 I)<|.allocZ I I I I (.agg Zc78 (ds' := [.int 0, .int 0, eL [], .int 0, .int 0, .int 0]) (.e (.e (.o (.e (.e .e1)))))) I<|.z I<|.store I I I I I I (.ofD I) C78 I (yd I)<|.nil<|.join [1, 3, 4, 26, 27, 28] (fun (v : Unit) => []) (fun (v : Unit) => []) (.c4 I<|.c2 I .nil) h (fun k_46 h => ?_) (fun v h => ?_)
    ·refine .block<|.sr<|.p I (.fieldAddrLoc I I I F78_1)<|.p I (.loadLoc1 I I I Y3 I)<|.p I (.fa I (zbS _))<|.f I (G30_2 _) Y24 I<|.p I (.len I U24 I)<|bK h fun x47 q47 h => .p I (.call I (kC I) I (zce _ _ _ _ q47))<|.p I (.nt I)<|.z I<|.nil<|.condS I h (fun h => ?_) fun h => ?_
     ·refine .sr<|.z I<|.nil<|.keep [.box 78 [.d (.int x45.kind), .d (.int x45.family), .d (eL x45.row.terms), .d (.int x45.row.bound), .d (.int x45.first), .d (.int x45.size)]] [2] (.c I .nil) I<|.ret (rO h I)
     ·refine .sr<|.p I (.fieldAddrLoc I I I F78_0)<|.p I (.loadLoc1 I I I Y3 I)<|.p I (.eq I)<|.z I<|.nil<|.keep [.box 78 [.d (.int x45.kind), .d (.int x45.family), .d (eL x45.row.terms), .d (.int x45.row.bound), .d (.int x45.first), .d (.int x45.size)]] [1, 3, 4, 26, 27, 28, 42] (.c4 I<|.c2 I<|.c I .nil) I<|.condS I h (fun h => ?_) fun h => ?_
      ·refine .seq<|.plain 15 I<|.p I (.fieldAddrLoc I I I F78_3)<|.p I (.loadLoc1 I I I Y3 I)<|.p I (.ne I)<|.m I<|.jO 3 (x45.size != 0) I (fun b48 => ?_) ?_
       ·refine .q I (.fieldAddrLoc I I I F78_4)<|.q I (.loadLoc1 I I I Y3 I)<|.q I (.ne I)<|.nil I
       refine .m I<|gK h fun c50 h => .jO 5 (!((zaq n t0 x45.row).getD default)) I (fun b49 => ?_) ?_
       ·refine .q I (.ld Y136 I)<|.q I (.fieldAddrLoc I I I F78_2)<|.q I (.loadLoc I I I Y33 (yd I) (v := .d (Row.enc x45.row)) I)<|.q I (.call I (kC I) I (zel _ _ _ _ (someD (impF c50 b49))))<|.q I (.nt I)<|.nil I
       refine .nil<|.nil<|.condS I h (fun h => ?_) fun h => ?_
       ·refine .sr<|.z I<|.nil<|.keep [.box 78 [.d (.int x45.kind), .d (.int x45.family), .d (eL x45.row.terms), .d (.int x45.row.bound), .d (.int x45.first), .d (.int x45.size)]] [2] (.c I .nil) I<|.ret (rO h I)
       ·refine .skip ⟨_, h, _, Fz8 I<|FzE⟩
      ·refine .seq<|.plain 9 I<|.p I (.fieldAddrLoc I I I F78_0)<|.p I (.loadLoc1 I I I Y3 I)<|.p I (.ne I)<|.m I<|gK h fun c52 h => .jO 4 (!((zbo n t0 x45).getD default)) I (fun b51 => ?_) ?_
       ·refine .q I (.ld Y136 I)<|.q I (.loadLoc I I I Y78 (yd I) (v := .d (Constraint.enc x45)) I)<|.q I (.call I (kC I) I (zgu _ _ _ _ (someD (impF c52 b51))))<|.q I (.nt I)<|.nil I
       refine .nil<|.z I<|.nil<|.condS I h (fun h => ?_) fun h => ?_
       ·refine .sr<|.z I<|.nil<|.ret (rO h I)
       ·refine .skip ⟨_, h, _, Fz8 I<|FzE⟩
    ·refine .sr<|.m I<|bK h fun x53 q53 h => .p I (.quo6 I I I q53)<|.f I (zlk _) Y48 I<|.p I (.len I U48 I)<|.p I (.ls I)<|.nil<|.keep [.box 78 [.d (.int x45.kind), .d (.int x45.family), .d (eL x45.row.terms), .d (.int x45.row.bound), .d (.int x45.first), .d (.int x45.size)]] [1, 3, 4, 26, 27, 28, 76] (.c4 I<|.c2 I<|.c I .nil) I<|.condS I h (fun h => ?_) fun h => ?_
     ·refine .sr<|.f I (zlk _) Y48 I<|.m I<|bK h fun x54 q54 h => .p I (.quo6 I I I q54)<|bK h fun x55 q55 h => .p I (.ix I U48 S87 q55)<|.p I (.ld Y87 I)<|.allocStore I I I I I I I I (by simp) I I Z87<|.z I<|.z I<|.nil<|.join [1, 3, 4, 26, 27, 28] (fun (v : Int × Int) => [(6, .d (.int v.1)), (7, .d (.int v.2))]) (fun (v : Int × Int) => []) (.c4 I<|.c2 I .nil) h (fun k_58 h => ?_) (fun v h => ?_)
      ·refine .sr<|.f I (G87_1 _) Y3 I<|.z I<|.nil<|.sr<|.m I<|bK h fun x59 q59 h => .p I (.rem6 I I I q59)<|.p I (.eq I)<|.nil<|.keep [.box 78 [.d (.int x45.kind), .d (.int x45.family), .d (eL x45.row.terms), .d (.int x45.row.bound), .d (.int x45.first), .d (.int x45.size)]] [1, 3, 4, 5, 6, 7, 26, 27, 28, 87] (.c8 I<|.c2 I .nil) I<|.condS I h (fun h => ?_) fun h => ?_
       ·refine .draw 5 Hm (by kernel_rfl) (by kernel_rfl)<|.f I (G87_0 _) Y3 I<|.p I (.neg6 I I)<|.z I<|.z I<|.nil<|.nil ⟨_, h, _, Fz8 I<|Fz2 I<|FzE⟩
       ·refine .skip ⟨_, h, _, Fz8 I<|Fz2 I<|FzE⟩
      ·obtain ⟨x56, x57⟩ := v
       refine .seq<|.plain 13 I<|.p I (.fieldAddrLoc I I I F78_0)<|.p I (.loadLoc1 I I I Y3 I)<|.p I (.ne I)<|.m I<|gK h fun c61 h => gK h fun c62 h => .jO 8 (!((zcX n x45.row ((quo64 x42 2).getD default) x56 x57).getD default)) I (fun b60 => ?_) ?_
       ·refine .q I (.fieldAddrLoc I I I F78_2)<|.q I (.loadLoc I I I Y33 (yd I) (v := .d (Row.enc x45.row)) I)<|.qm I<|.q I (.quo6 I I I (someD (impF c61 b60)))<|.qm I<|.qm I<|.q I (.call I (kC I) I (zjx _ _ _ _ _ _ (someD (impF c62 b60))))<|.q I (.nt I)<|.nil I
       refine .nil<|.nil<|.keep [.box 78 [.d (.int x45.kind), .d (.int x45.family), .d (eL x45.row.terms), .d (.int x45.row.bound), .d (.int x45.first), .d (.int x45.size)]] [1, 26, 27, 28, 103] (.c4 I<|.c I .nil) I<|.condS I h (fun h => ?_) fun h => ?_
       ·refine .sr<|.z I<|.nil<|.ret (rO h I)
       ·refine .skip ⟨_, h, _, Fz4 I<|Fz2 I<|FzE⟩
     ·refine .skip ⟨_, h, _, Fz4 I<|Fz2 I<|FzE⟩
   ·refine .region<|.p I (.ad I)<|.m I<|.nil ⟨_, h, _, Fz4 I<|Fz2 I<|FzE⟩
  ·refine .exit<|.sr<|.z I<|.nil<|.ret (rO h I)
theorem zd1 (n : Nat) (t0 : Int) (t1 : Judge) (r : Bool) (h : zaQ n t0 t1 = some r) : Pure pg 155 [.int t0, .ref (Judge.enc t1)] (.bool r) := by
 refine Pure.ot Tryz.func155 I Tryz.ntmps155 I fun A w => .sr<|.z I<|.nil<|.seq<|.plain 10 I<|.m I<|.p I (.ls I)<|.m I<|.jO 6 (decide ((t1.model.sorts.length : Int) ≤ t0)) I (fun b1 => ?_) ?_
 ·refine .qm I<|.q I (.fa I (zbS _))<|.qf I (G30_0 _) Y22 I<|.q I (.len I U22 I)<|.q I (.ge I)<|.nil I
 refine .nil<|.z I<|.nil<|.ret (rO h I)
theorem zeA (n : Nat) (t0 : Judge) (r : Bool) (h : zB n t0 = some r) : Pure pg 98 [Judge.enc t0] (.bool r) := by
 refine Pure.ot Tryz.func98 I Tryz.ntmps98 I fun A w => .sr<|.p I (.bx I)<|.z I<|.nil<|.sr<|.z I<|.nilVec 3 1 9 I<|.nil<|.seq<|.sr<|.p I (.fa I (zbS _))<|.f I (G30_4 _) Y26 I<|.p I (.len I U26 I)<|.m I<|.nil<|.block<|.loopS [1, 8, 9] (fun (v : (List (List UInt8)) × Int) => [(3, .vec 0 (List.length v.1)), (10, .d (.int v.2))]) (fun (v : (List (List UInt8)) × Int) => [(0, .vec 9 1 (List.map D.str v.1))]) (.c2 I<|.c I .nil) h ⟨_, Fz8 I trivial⟩ (fun _ v h => ?_)
 obtain ⟨b0_13, x14⟩ := v
 refine .sr<|.p I (.ls I)<|.nil<|.keep [.vec 9 1 (List.map D.str b0_13)] [1, 3, 8, 9, 10, 11] (.c4 I<|.c2 I .nil) I<|.seq<|.condS I h (fun h => ?_) fun h => ?_
 ·refine .skip<|.seq<|.block<|.sr<|bK h fun x16 q16 h => .p I (.ix I U26 S129 q16)<|.p I (.ld Y129 I)<|.allocStore I I I I I I I I (by simp) I I Z129<|.nil<|.sr<|.m I<|.f I (zm7 _) Y9 I<|.p I (.buildSl [_] I I E24 I (fun _ => I) I (enc := D.str))<|bK h fun x17 q17 h => .app I I I I I I I I E24 I (fun _ => I) q17<|.z I<|.nil<|.seq<|.plain 10 I<|.f I (zfB _) Y22 I<|.p I (.len I U22 I)<|.p I (.gt I)<|.m I<|gK h fun c19 h => .jO 4 (((zr n x16.sorts (fun q0 => zaQ n q0 t0)).getD default)) I (fun b18 => ?_) ?_
  ·refine .qf I (zfB _) Y22 I<|.q I (.makeFunc I I)<|.q I (.call I (kC I) I (zaG _ _ _ _ (fun q0 y hq => ⟨_, _, I, K155, zd1 _ q0 _ _ hq⟩) _ (someD (impF c19 b18))))<|.nil I
  refine .nil<|.nil<|.keep [.vec 9 1 (List.map D.str x17)] [1, 3, 8, 9, 10, 28] (.c4 I<|.c2 I .nil) I<|.condS I h (fun h => ?_) fun h => ?_
  ·refine .sr<|.z I<|.nil<|.ret (rO h I)
  ·refine .skip<|.region<|.p I (.ad I)<|.m I<|.nil ⟨_, h, _, Fz8 I trivial⟩
 ·refine .exit<|.seq<|.plain 7 I<|.m I<|.p I (.lenV I U24 I I I)<|.p I (.le I)<|.m I<|gK h fun c21 h => .jA 2 (((zai n b0_13).getD default)) I (fun b20 => ?_) ?_
  ·refine .qm I<|.q I (.callB I (kC I) (.cons I (.vec I (by simp)) .nil) I (zeT _ _ _ (someD (impT c21 b20))))<|.nil I
  refine .nil<|.z I<|.nil<|.ret (rO h I)
theorem zfr (n : Nat) (t0 : Int) (r : Bool) (h : zc1 n t0 = some r) : Pure pg 222 [.int t0] (.bool r) := by
 refine Pure.ot Tryz.func222 I Tryz.ntmps222 I fun A w => .sr<|.z I<|.nil<|.sr<|.m I<|.m I<|.p I (.ne I)<|.z I<|.nil<|.ret (rO h I)
theorem zei (n : Nat) (t0 : Int) (t1 : Int) (r : Int) (h : zbT n t0 t1 = some r) : Pure pg 200 [.int t0, .int t1] (.int r) := by
 refine Pure.ot Tryz.func200 I Tryz.ntmps200 I fun A w => .sr<|.z I<|.nil<|.sr<|.m I<|bK h fun x1 q1 h => .p I (.call I (kC I) I (zfr _ _ _ q1))<|.z I<|.nil<|.sr<|.m I<|bK h fun x2 q2 h => .p I (.call I (kC I) I (zfr _ _ _ q2))<|.z I<|.nil<|.seq<|.sr<|.m I<|.nil<|.condS I h (fun h => ?_) fun h => ?_
 ·refine .seq<|.sr<|.m I<|.nil<|.condS I h (fun h => ?_) fun h => ?_
  ·refine .sr<|.z I<|.nil<|.ret (rO h I)
  ·refine .skip<|.sr<|.z I<|.nil<|.ret (rO h I)
 ·refine .skip<|.seq<|.sr<|.m I<|.nil<|.condS I h (fun h => ?_) fun h => ?_
  ·refine .sr<|.z I<|.nil<|.ret (rO h I)
  ·refine .skip<|.seq<|.sr<|.m I<|.m I<|.p I (.ls I)<|.nil<|.condS I h (fun h => ?_) fun h => ?_
   ·refine .sr<|.z I<|.nil<|.ret (rO h I)
   ·refine .skip<|.seq<|.sr<|.m I<|.m I<|.p I (.gt I)<|.nil<|.condS I h (fun h => ?_) fun h => ?_
    ·refine .sr<|.z I<|.nil<|.keep [] [4] (.c I .nil) I<|.ret (rO h I)
    ·refine .skip<|.sr<|.z I<|.nil<|.keep [] [4] (.c I .nil) I<|.ret (rO h I)
theorem zcE (n : Nat) (t0 : List Int) (t1 : List Int) (r : Int) (h : zg n t0 t1 = some r) : Pure pg 157 [eA t0, eA t1] (.int r) := by
 refine Pure.ot Tryz.func157 I Tryz.ntmps157 I fun A w => .sr<|.z I<|.nil<|.seq<|.sr<|.m I<|.p I (.len I U22 I)<|.m I<|.nil<|.block<|.loopS [0, 1, 9, 10] (fun (v : Int) => [(11, .d (.int v))]) (fun (v : Int) => []) (.c4 I .nil) h ⟨_, Fz8 I trivial⟩ (fun _ x9 h => ?_)
 refine .sr<|.p I (.ls I)<|.nil<|.keep [] [0, 1, 9, 10, 11, 12] (.c4 I<|.c2 I .nil) I<|.seq<|.condS I h (fun h => ?_) fun h => ?_
 ·refine .skip<|.seq<|.block<|.sr<|.m I<|bK h fun x11 q11 h => .p I (.ix I U22 S3 q11)<|.p I (.ld Y3 I)<|.z I<|.z I<|.nil<|.seq<|.sr<|.m I<|.m I<|.p I (.len I U22 I)<|.p I (.ge I)<|.nil<|.condS I h (fun h => ?_) fun h => ?_
  ·refine .sr<|.z I<|.nil<|.ret (rO h I)
  ·refine .skip<|.sr<|.m I<|.m I<|bK h fun x12 q12 h => .p I (.ix I U22 S3 q12)<|.p I (.ld Y3 I)<|.z I<|.nil<|.sr<|.m I<|.m I<|bK h fun x13 q13 h => .p I (.call I (kC I) I (zei _ _ _ _ q13))<|.z I<|.nil<|.keep [] [0, 1, 8, 9, 10, 11] (.c4 I<|.c2 I .nil) I<|.sr<|.m I<|.p I (.ne I)<|.nil<|.condS I h (fun h => ?_) fun h => ?_
   ·refine .sr<|.m I<|.z I<|.nil<|.ret (rO h I)
   ·refine .skip<|.region<|.p I (.ad I)<|.m I<|.nil ⟨_, h, _, Fz8 I trivial⟩
 ·refine .exit<|.seq<|.sr<|.m I<|.p I (.len I U22 I)<|.m I<|.p I (.len I U22 I)<|.p I (.ls I)<|.nil<|.condS I h (fun h => ?_) fun h => ?_
  ·refine .sr<|.z I<|.nil<|.ret (rO h I)
  ·refine .skip<|.sr<|.z I<|.nil<|.ret (rO h I)
theorem zjT (n : Nat) (t0 : List Int) (t1 : List Table) (t2 : Bool) (t3 : Int) (r : Int × (List Int) × Bool) (h : zaU n t0 t1 t2 t3 = some r) : Pure pg 223 [eA t0, eB t1, .bool t2, .int t3] (.tup [.int r.1, eA r.2.1, .bool r.2.2]) := by
 refine Pure.ot Tryz.func223 I Tryz.ntmps223 I fun A w => .sr<|.z I<|.p I (.nilS 1 (α := Int) D.int I)<|.z I<|.nil<|.seq<|.seq<|.plain 8 I<|.m I<|.m I<|bK h fun x1 q1 h => .p I (.call I (kC I) I (zew _ _ _ _ q1))<|.p I (.nt I)<|.m I<|.jO 2 (decide (t3 < 0)) I (fun b2 => ?_) ?_
 ·refine .qm I<|.q I (.ls I)<|.nil I
 refine .nil<|.nil<|.condS I h (fun h => ?_) fun h => ?_
 ·refine .sr<|.z I<|.p I (.nilS 1 (α := Int) D.int I)<|.z I<|.nil<|.ret ?_
  cases h
  exact zgr I I I (.d _) (.d _) (.d _)
 ·refine .skip<|.seq<|.sr<|.m I<|.p I (.len I U23 I)<|.m I<|.nil<|.block<|.loopS [0, 2, 3, 25, 26] (fun (v : Int) => [(27, .d (.int v))]) (fun (v : Int) => []) (.c4 I<|.c I .nil) h ⟨_, Fz8 I<|FzE⟩ (fun _ x73 h => ?_)
  refine .sr<|.p I (.ls I)<|.nil<|.keep [] [0, 2, 3, 25, 26, 27, 28] (.c4 I<|.c2 I<|.c I .nil) I<|.seq<|.condS I h (fun h => ?_) fun h => ?_
  ·refine .skip<|.seq<|.block<|.sr<|.m I<|bK h fun x75 q75 h => .p I (.ix I U23 S127 q75)<|.p I (.ld Y127 I)<|.allocZ I I I I (.agg Zc127 (ds' := [.str [], .int 0, eA [], .int 0, .int 0, .int 0]) (.e (.e (.o (.e (.e .e1)))))) I<|.z I<|.store I I I I I I (.ofD I) C127 I (yd I)<|.nil<|.sr<|.m I<|.p I (.fieldAddrLoc I I I zn5)<|.p I (.loadLoc1 I I I Y3 I)<|.p I (.sb I)<|.z I<|.nil<|.seq<|.seq<|.plain 16 I<|.p I (.loadLoc I I I Y127 (yd I) (v := .d (Table.enc x75)) I)<|bK h fun x76 q76 h => .p I (.call I (kC I) I (zdh _ _ _ q76))<|.m I<|.p I (.bne I U4 I I)<|.m I<|.jO 2 (decide (sub64 t3 x75.first < 0)) I (fun b77 => ?_) ?_
   ·refine .qm I<|.q I (.ls I)<|.nil I
   refine .m I<|gK h fun c79 h => .jO 6 (decide (((zaV n t0 x75.columns).getD default) ≤ sub64 t3 x75.first)) I (fun b78 => ?_) ?_
   ·refine .qm I<|.qm I<|.q I (.fieldAddrLoc I I I zlj)<|.q I (.loadLoc1 I I I Y22 I)<|.q I (.call I (kC I) I (zdn _ _ _ _ (someD (impF c79 b78))))<|.q I (.ge I)<|.nil I
   refine .nil<|.nil<|.keep [.box 127 [.d (.str x75.name), .d (.int x75.kind), .d (eA x75.columns), .d (.int x75.range.lo), .d (.int x75.range.hi), .d (.int x75.first)]] [0, 2, 3, 11, 12, 13, 25, 26, 27, 51] (.c8 I<|.c2 I .nil) I<|.condS I h (fun h => ?_) fun h => ?_
   ·refine .exit<|.region<|.p I (.ad I)<|.m I<|.nil ⟨_, h, _, Fz8 I<|FzE⟩
   ·refine .skip<|.sr<|.p I (.fieldAddrLoc I I I zlj)<|.p I (.loadLoc1 I I I Y22 I)<|.p I (.len I U22 I)<|bK h fun x80 q80 h => .makeVec (enc := D.int) (z := (0 : Int)) I I I I E22 I I I (.val Zv3) q80<|.z I<|.nil<|.seq<|.sr<|.m I<|.p I (.lenV I U22 I I I)<|.p I (.sb I)<|.z I<|.nil<|.block<|.loopS [0, 11, 12] (fun (v : (List Int) × Int × Int) => [(13, .d (.int v.2.1)), (14, .vec 1 (List.length v.1)), (15, .d (.int v.2.2))]) (fun (v : (List Int) × Int × Int) => [(1, .vec 3 1 (List.map D.int v.1))]) (.c2 I<|.c I .nil) h ⟨_, Fz8 I<|FzE⟩ (fun _ v h => ?_)
    obtain ⟨b1_99, x100, x101⟩ := v
    refine .seq<|.sr<|.m I<|.p I (.ge I)<|.nil<|.keep [.box 127 [.d (.str x75.name), .d (.int x75.kind), .d (eA x75.columns), .d (.int x75.range.lo), .d (.int x75.range.hi), .d (.int x75.first)], .vec 3 1 (List.map D.int b1_99)] [0, 11, 12, 13, 14, 15, 60] (.c4 I<|.c2 I<|.c I .nil) I<|.condS I h (fun h => ?_) fun h => ?_
    ·refine .skip<|.seq<|.block<|.sr<|.m I<|.p I (.fieldAddrLoc I I I zlj)<|.p I (.loadLoc1 I I I Y22 I)<|.m I<|bK h fun x103 q103 h => .p I (.ix I U22 S3 q103)<|.p I (.ld Y3 I)<|bK h fun x104 q104 h => .p I (.ix I U22 S3 q104)<|.p I (.ld Y3 I)<|.z I<|.nil<|.drawF 9 [5, 6, 7] Hm (by kernel_rfl) (by kernel_rfl)<|.m I<|.m I<|.m I<|.m I<|bK h fun x105 q105 h => .p I (.rem6 I I I q105)<|.m I<|.m I<|bK h fun x106 q106 h => .p I (.quo6 I I I q106)<|bK h fun x107 q107 h => .p I (.idxV I I I I I U22 S3 q107)<|.nil ⟨.move I I (.move I I (.ints I I I I .nil)), ?_⟩
     refine bK h fun b1_108 hb1_108 h => .storeEl (enc := D.int) I I I I I I I I I C3 hb1_108<|.relen 14 I (zdk hb1_108)<|.relen 71 I (zdk hb1_108)<|.z I<|.nil<|.keep [.box 127 [.d (.str x75.name), .d (.int x75.kind), .d (eA x75.columns), .d (.int x75.range.lo), .d (.int x75.range.hi), .d (.int x75.first)], .vec 3 1 (List.map D.int b1_108)] [0, 11, 12, 13, 14, 15] (.c4 I<|.c2 I .nil) I<|.region<|.m I<|.p I (.sb I)<|.z I<|.nil ⟨_, h, _, Fz8 I<|FzE⟩
    ·refine .exit<|.sr<|.m I<|.m I<|.z I<|.z I<|.z I<|.nil<|.ret ?_
     cases h
     exact zgr I I I (.d _) (.vec I (by simp)) (.d _)
  ·refine .exit<|.sr<|.z I<|.p I (.nilS 1 (α := Int) D.int I)<|.z I<|.nil<|.ret ?_
   cases h
   exact zgr I I I (.d _) (.d _) (.d _)
theorem zfY (n : Nat) (t0 : Judge) (t1 : Update) (r : Bool) (h : zbg n t0 t1 = some r) : Pure pg 201 [Judge.enc t0, Update.enc t1] (.bool r) := by
 refine Pure.ot Tryz.func201 I Tryz.ntmps201 I fun A w => .sr<|.p I (.bx I)<|.p I (.bx I)<|.z I<|.nil<|.sr<|.p I (.fa I (zbS _))<|.f I (G30_0 _) Y22 I<|.p I (.fa I (zbS _))<|.f I (G30_1 _) Y23 I<|.f I (zko _) Y3 I<|bK h fun x1 q1 h => .p I (.call I (kC I) I (zjT _ _ _ _ _ _ q1))<|.m I<|.p I (.extract I I I)<|.p I (.extract I I I)<|.p I (.extract I I I)<|.z I<|.z I<|.z I<|.nil<|.keep [] [2, 3, 5, 7] (.c4 I .nil) I<|.seq<|.sr<|.m I<|.p I (.nt I)<|.nil<|.condS I h (fun h => ?_) fun h => ?_
 ·refine .sr<|.z I<|.nil<|.ret (rO h I)
 ·refine .skip<|.sr<|.p I (.fa I (zbS _))<|.f I (G30_1 _) Y23 I<|.m I<|bK h fun x2 q2 h => .p I (.ix I U23 S127 q2)<|.p I (.ld Y127 I)<|.allocStore I I I I I I I I (by simp) I I Z127<|.nil<|.sr<|.f I (zcC _) Y3 I<|.nil<|.block<|.join [3, 8] (fun (v : Bool) => [(51, .d (.bool v))]) (fun (v : Bool) => []) (.c2 I .nil) h (fun k_4 h => ?_) (fun x3 h => ?_)
  ·refine .sr<|.p I (.eq I)<|.z I<|.nil<|.condS I h (fun h => ?_) fun h => ?_
   ·refine .skip ⟨_, h, _, Fz4 I<|Fz2 I trivial⟩
   ·refine .region<|.p I (.eq I)<|.z I<|.nil ⟨_, h, _, Fz4 I<|Fz2 I trivial⟩
  ·refine .condS I h (fun h => ?_) fun h => ?_
   ·refine .seq<|.plain 13 I<|.f I (zkn _) Y3 I<|.p I (.eq I)<|.m I<|.jO 3 (t1.kind == 1) I (fun b5 => ?_) ?_
    ·refine .qf I (zkn _) Y3 I<|.q I (.eq I)<|.nil I
    refine .m I<|.jA 3 (t1.value == 0) I (fun b6 => ?_) ?_
    ·refine .qf I (zkp _) Y3 I<|.q I (.eq I)<|.nil I
    refine .nil<|.z I<|.nil<|.keep [] [4] (.c I .nil) I<|.ret (rO h I)
   ·refine .seq<|.plain 19 I<|.f I (zkn _) Y3 I<|.p I (.eq I)<|.m I<|.jA 6 (decide (x2.range.lo ≤ t1.value)) I (fun b7 => ?_) ?_
    ·refine .qf I (zkp _) Y3 I<|.q I (.fa I (zdg _))<|.qf I (G87_0 _) Y3 I<|.q I (.ge I)<|.nil I
    refine .m I<|.jA 6 (decide (t1.value ≤ x2.range.hi)) I (fun b8 => ?_) ?_
    ·refine .qf I (zkp _) Y3 I<|.q I (.fa I (zdg _))<|.qf I (G87_1 _) Y3 I<|.q I (.le I)<|.nil I
    refine .nil<|.z I<|.nil<|.keep [] [4] (.c I .nil) I<|.ret (rO h I)
theorem zff (n : Nat) (t0 : Row) (t1 : Judge) (r : Bool) (h : zaY n t0 t1 = some r) : Pure pg 202 [Row.enc t0, .ref (Judge.enc t1)] (.bool r) := by
 refine Pure.ot Tryz.func202 I Tryz.ntmps202 I fun A w => .sr<|.p I (.bx I)<|.z I<|.nil<|.sr<|.p I (.ld Y136 I)<|.p I (.ld Y33 I)<|bK h fun x1 q1 h => .p I (.call I (kC I) I (zel _ _ _ _ q1))<|.p I (.nt I)<|.z I<|.nil<|.ret (rO h I)
theorem zdf (n : Nat) (t0 : List Row) (t1 : Row → Option Bool) (F1 : D) (hF1 : ∀ (q0 : Row) (y : Bool), t1 q0 = some y → Dyn pg F1 [Row.enc q0] (.bool y)) (r : Int) (h : zD n t0 t1 = some r) : Pure pg 213 [eH t0, F1] (.int r) := by
 refine Pure.ot Tryz.func213 I Tryz.ntmps213 I fun A w => .sr<|.z I<|.nil<|.seq<|.sr<|.m I<|.p I (.len I U49 I)<|.m I<|.nil<|.block<|.loopS [0, 1, 7] (fun (v : Int) => [(8, .d (.int v))]) (fun (v : Int) => []) (.c2 I<|.c I .nil) h ⟨_, Fz4 I<|Fz2 I<|FzE⟩ (fun _ x7 h => ?_)
 refine .sr<|.p I (.ls I)<|.nil<|.keep [] [0, 1, 7, 8, 9] (.c4 I<|.c I .nil) I<|.seq<|.condS I h (fun h => ?_) fun h => ?_
 ·refine .skip<|.seq<|.block<|.sr<|.m I<|.z I<|.nil<|.sr<|.m I<|.m I<|.m I<|bK h fun x9 q9 h => .p I (.ix I U49 S33 q9)<|.p I (.ld Y33 I)<|bK h fun x10 q10 h => .p I (.dyn I I I (hF1 _ _ q10))<|.nil<|.condS I h (fun h => ?_) fun h => ?_
  ·refine .sr<|.m I<|.z I<|.nil<|.ret (rO h I)
  ·refine .skip<|.region<|.p I (.ad I)<|.m I<|.nil ⟨_, h, _, Fz4 I<|Fz2 I<|FzE⟩
 ·refine .exit<|.sr<|.z I<|.nil<|.ret (rO h I)
theorem zbw (n : Nat) (t0 : List Row) (t1 : Row → Option Bool) (F1 : D) (hF1 : ∀ (q0 : Row) (y : Bool), t1 q0 = some y → Dyn pg F1 [Row.enc q0] (.bool y)) (r : Bool) (h : zl n t0 t1 = some r) : Pure pg 176 [eH t0, F1] (.bool r) := by
 refine Pure.ot Tryz.func176 I Tryz.ntmps176 I fun A w => .sr<|.z I<|.nil<|.sr<|.m I<|.m I<|bK h fun x1 q1 h => .p I (.call I (kC I) I (zdf _ _ _ _ hF1 _ q1))<|.p I (.ge I)<|.z I<|.nil<|.ret (rO h I)
theorem zfW (n : Nat) (t0 : Judge) (t1 : Effect) (r : Bool) (h : zG n t0 t1 = some r) : Pure pg 158 [Judge.enc t0, Effect.enc t1] (.bool r) := by
 refine Pure.ot Tryz.func158 I Tryz.ntmps158 I fun A w => .sr<|.p I (.bx I)<|.p I (.bx I)<|.z I<|.nil<|.sr<|.z I<|.nil<|.seq<|.sr<|.f I (G82_0 _) Y79 I<|.p I (.len I U79 I)<|.m I<|.nil<|.block<|.loopS [2, 3, 11, 12] (fun (v : Int × Int) => [(5, .d (.int v.1)), (13, .d (.int v.2))]) (fun (v : Int × Int) => []) (.c4 I .nil) h ⟨_, Fz8 I<|FzE⟩ (fun _ v h => ?_)
 obtain ⟨x15, x16⟩ := v
 refine .sr<|.p I (.ls I)<|.nil<|.keep [] [2, 3, 5, 11, 12, 13, 14] (.c4 I<|.c2 I<|.c I .nil) I<|.seq<|.condS I h (fun h => ?_) fun h => ?_
 ·refine .skip<|.seq<|.block<|.sr<|bK h fun x18 q18 h => .p I (.ix I U79 S131 q18)<|.p I (.ld Y131 I)<|.allocStore I I I I I I I I (by simp) I I Z131<|.nil<|.seq<|.seq<|.plain 23 I<|.f I (zhc _) Y3 I<|.m I<|.p I (.le I)<|.m I<|.jO 6 (decide ((t0.strict.length : Int) ≤ x18.cell)) I (fun b19 => ?_) ?_
  ·refine .qf I (zhc _) Y3 I<|.qf I (zlk _) Y48 I<|.q I (.len I U48 I)<|.q I (.ge I)<|.nil I
  refine .m I<|.jO 3 (x18.add == 0) I (fun b20 => ?_) ?_
  ·refine .qf I (zkm _) Y3 I<|.q I (.eq I)<|.nil I
  refine .m I<|gK h fun c22 h => .jO 4 (!((zau n x18.add 1000000000).getD default)) I (fun b21 => ?_) ?_
  ·refine .qf I (zkm _) Y3 I<|.q I (.call I (kC I) I (zc7 _ _ _ _ (someD (impF c22 b21))))<|.q I (.nt I)<|.nil I
  refine .nil<|.nil<|.keep [] [2, 3, 7, 11, 12, 13, 39] (.c4 I<|.c2 I<|.c I .nil) I<|.condS I h (fun h => ?_) fun h => ?_
  ·refine .sr<|.z I<|.nil<|.ret (rO h I)
  ·refine .skip<|.region<|.f I (zhc _) Y3 I<|.z I<|.nil<|.region<|.p I (.ad I)<|.m I<|.nil ⟨_, h, _, Fz8 I<|FzE⟩
 ·refine .exit<|.sr<|.z I<|.nil<|.seq<|.sr<|.f I (G82_2 _) Y80 I<|.p I (.len I U80 I)<|.m I<|.nil<|.block<|.loopS [2, 3, 44, 45] (fun (v : Int × Int) => [(5, .d (.int v.1)), (46, .d (.int v.2))]) (fun (v : Int × Int) => []) (.c4 I .nil) h ⟨_, Fz8 I<|FzE⟩ (fun _ v h => ?_)
  obtain ⟨x33, x34⟩ := v
  refine .sr<|.p I (.ls I)<|.nil<|.keep [] [2, 3, 5, 44, 45, 46, 47] (.c4 I<|.c2 I<|.c I .nil) I<|.seq<|.condS I h (fun h => ?_) fun h => ?_
  ·refine .skip<|.seq<|.block<|.sr<|bK h fun x36 q36 h => .p I (.ix I U80 S218 q36)<|.p I (.ld Y218 I)<|.allocStore I I I I I I I I (by simp) I I Z218<|.nil<|.seq<|.seq<|.plain 10 I<|.f I (zko _) Y3 I<|.m I<|.p I (.le I)<|.m I<|gK h fun c38 h => .jO 4 (!((zbg n t0 x36).getD default)) I (fun b37 => ?_) ?_
   ·refine .q I (.ld Y136 I)<|.q I (.ld Y218 I)<|.q I (.call I (kC I) I (zfY _ _ _ _ (someD (impF c38 b37))))<|.q I (.nt I)<|.nil I
   refine .nil<|.nil<|.condS I h (fun h => ?_) fun h => ?_
   ·refine .sr<|.z I<|.nil<|.ret (rO h I)
   ·refine .skip<|.region<|.f I (zko _) Y3 I<|.z I<|.nil<|.keep [] [2, 3, 5, 44, 45, 46] (.c4 I<|.c2 I .nil) I<|.region<|.p I (.ad I)<|.m I<|.nil ⟨_, h, _, Fz8 I<|FzE⟩
  ·refine .exit<|.seq<|.plain 17 I<|.f I (G82_1 _) Y49 I<|.p I (.len I U49 I)<|.p I (.le I)<|.m I<|.jA 4 (decide ((t1.updates.length : Int) ≤ 32)) I (fun b39 => ?_) ?_
   ·refine .qf I (G82_2 _) Y80 I<|.q I (.len I U80 I)<|.q I (.le I)<|.nil I
   refine .m I<|gK h fun c41 h => .jA 5 (!((zl n t1.hold (fun q0 => zaY n q0 t0)).getD default)) I (fun b40 => ?_) ?_
   ·refine .qf I (G82_1 _) Y49 I<|.q I (.makeFunc I I)<|.q I (.call I (kC I) I (zbw _ _ _ _ (fun q0 y hq => ⟨_, _, I, K202, zff _ q0 _ _ hq⟩) _ (someD (impT c41 b40))))<|.q I (.nt I)<|.nil I
   refine .nil<|.z I<|.nil<|.keep [] [4] (.c I .nil) I<|.ret (rO h I)
theorem zfy (n : Nat) (t0 : Judge) (r : Bool) (h : zu n t0 = some r) : Pure pg 99 [Judge.enc t0] (.bool r) := by
 refine Pure.ot Tryz.func99 I Tryz.ntmps99 I fun A w => .sr<|.p I (.bx I)<|.z I<|.nil<|.seq<|.sr<|.p I (.fa I (zbS _))<|.f I (G30_5 _) Y27 I<|.p I (.len I U27 I)<|.p I (.gt I)<|.nil<|.condS I h (fun h => ?_) fun h => ?_
 ·refine .sr<|.z I<|.nil<|.ret (rO h I)
 ·refine .skip<|.seq<|.sr<|.p I (.fa I (zbS _))<|.f I (G30_5 _) Y27 I<|.p I (.len I U27 I)<|.m I<|.nil<|.block<|.loopS [1, 16, 17] (fun (v : Int) => [(18, .d (.int v))]) (fun (v : Int) => []) (.c2 I<|.c I .nil) h ⟨_, Fz4 I<|Fz2 I<|FzE⟩ (fun _ x81 h => ?_)
  refine .sr<|.p I (.ls I)<|.nil<|.keep [] [1, 16, 17, 18, 19] (.c4 I<|.c I .nil) I<|.seq<|.condS I h (fun h => ?_) fun h => ?_
  ·refine .skip<|.seq<|.block<|.sr<|.m I<|bK h fun x83 q83 h => .p I (.ix I U27 S84 q83)<|.p I (.ld Y84 I)<|.allocZ I I I I (.agg Zc84 (ds' := [.int 0, eA [], eM [], eH [], eI []]) (.e (.o (.o (.o .o1))))) I<|.z I<|.store I I I I I I (.ofD I) C84 I (yd I)<|.nil<|.seq<|.seq<|.draw 23 Hm (by kernel_rfl) (by kernel_rfl)<|.p I (.fieldAddrLoc I I I F84_0)<|.p I (.loadLoc1 I I I Y3 I)<|.p I (.fa I (zbS _))<|.f I (G30_4 _) Y26 I<|.p I (.len I U26 I)<|bK h fun x84 q84 h => .p I (.call I (kC I) I (zce _ _ _ _ q84))<|.p I (.nt I)<|.m I<|gK h fun c86 h => .jO 13 ((x83.arguments.length : Int) != ((((idx t0.model.operations x83.operation).getD default).sorts).length : Int)) I (fun b85 => ?_) ?_
   ·refine .q I (.fieldAddrLoc I I I F84_1)<|.q I (.loadLoc1 I I I Y22 I)<|.q I (.len I U22 I)<|.q I (.fa I (zbS _))<|.qf I (G30_4 _) Y26 I<|.q I (.fieldAddrLoc I I I F84_0)<|.q I (.loadLoc1 I I I Y3 I)<|.q I (.ix I U26 S129 (someD (impF c86 b85)))<|.qf I (zfB _) Y22 I<|.q I (.len I U22 I)<|.q I (.ne I)<|.nil I
   refine .nil<|.nil<|.keep [.box 84 [.d (.int x83.operation), .d (eA x83.arguments), .d (eM x83.effect.delta), .d (eH x83.effect.hold), .d (eI x83.effect.updates)]] [1, 3, 4, 16, 17, 18, 45] (.c4 I<|.c2 I<|.c I .nil) I<|.condS I h (fun h => ?_) fun h => ?_
   ·refine .sr<|.z I<|.nil<|.ret (rO h I)
   ·refine .skip<|.seq<|.sr<|.p I (.fa I (zbS _))<|.f I (G30_4 _) Y26 I<|.p I (.fieldAddrLoc I I I F84_0)<|.p I (.loadLoc1 I I I Y3 I)<|bK h fun x87 q87 h => .p I (.ix I U26 S129 q87)<|.f I (zfB _) Y22 I<|.p I (.len I U22 I)<|.m I<|.nil<|.block<|.loopS [1, 3, 4, 16, 17, 18, 53, 54] (fun (v : Int) => [(55, .d (.int v))]) (fun (v : Int) => []) (.c8 I .nil) h ⟨_, Fz8 I<|Fz4 I trivial⟩ (fun _ x106 h => ?_)
    refine .sr<|.p I (.ls I)<|.nil<|.keep [.box 84 [.d (.int x83.operation), .d (eA x83.arguments), .d (eM x83.effect.delta), .d (eH x83.effect.hold), .d (eI x83.effect.updates)]] [1, 3, 4, 16, 17, 18, 53, 54, 55, 56] (.c8 I<|.c2 I .nil) I<|.seq<|.condS I h (fun h => ?_) fun h => ?_
    ·refine .skip<|.seq<|.block<|.sr<|.m I<|bK h fun x108 q108 h => .p I (.ix I U22 S3 q108)<|.p I (.ld Y3 I)<|.z I<|.z I<|.nil<|.sr<|.p I (.fieldAddrLoc I I I F84_1)<|.p I (.loadLoc1 I I I Y22 I)<|.m I<|bK h fun x109 q109 h => .p I (.ix I U22 S3 q109)<|.p I (.ld Y3 I)<|.z I<|.nil<|.seq<|.plain 22 I<|.m I<|.p I (.ls I)<|.m I<|gK h fun c111 h => .jA 3 (!((zau n x109 9999).getD default)) I (fun b110 => ?_) ?_
     ·refine .qm I<|.q I (.call I (kC I) I (zc7 _ _ _ _ (someD (impT c111 b110))))<|.q I (.nt I)<|.nil I
     refine .m I<|gK h fun c114 h => gK h fun c115 h => .jO 13 ((decide (0 ≤ x108)) && (!((zad n x109 ((idx t0.model.sorts x108).getD default)).getD default))) I (fun b112 => ?_) ?_
     ·refine .qm I<|.q I (.ge I)<|.qm I<|.jAnd 9 (b2 := !((zad n x109 ((idx t0.model.sorts x108).getD default)).getD default)) I I I I (.inr ⟨_, _, _, I, I, I⟩) (fun _ _ _ h1 h2 => by cases h1; cases h2; decide) I I (fun b113 => ?_) ?_
      ·refine .qm I<|.q I (.fa I (zbS _))<|.qf I (G30_0 _) Y22 I<|.qm I<|.q I (.ix I U22 S3 (someD (impT (impF c114 b112) b113)))<|.q I (.ld Y3 I)<|.q I (.call I (kC I) I (zce _ _ _ _ (someD (impT (impF c115 b112) b113))))<|.q I (.nt I)<|.nil I
      exact .nil I
     refine .nil<|.nil<|.keep [.box 84 [.d (.int x83.operation), .d (eA x83.arguments), .d (eM x83.effect.delta), .d (eH x83.effect.hold), .d (eI x83.effect.updates)]] [1, 3, 4, 16, 17, 18, 53, 54, 55, 86] (.c8 I<|.c2 I .nil) I<|.condS I h (fun h => ?_) fun h => ?_
     ·refine .sr<|.z I<|.nil<|.ret (rO h I)
     ·refine .skip<|.region<|.p I (.ad I)<|.m I<|.nil ⟨_, h, _, Fz8 I<|Fz4 I trivial⟩
    ·refine .exit<|.join [1, 4, 16, 17, 18] (fun (v : Unit) => []) (fun (v : Unit) => []) (.c4 I<|.c I .nil) h (fun k_116 h => ?_) (fun v h => ?_)
     ·refine .sr<|.m I<|.p I (.gt I)<|.nil<|.condS I h (fun h => ?_) fun h => ?_
      ·refine .sr<|.p I (.fa I (zbS _))<|.f I (G30_5 _) Y27 I<|.m I<|.p I (.sb I)<|bK h fun x117 q117 h => .p I (.ix I U27 S84 q117)<|.p I (.ld Y84 I)<|.allocStore I I I I I I I I (by simp) I I Z84<|.nil<|.seq<|.plain 20 I<|.f I (G84_0 _) Y3 I<|.p I (.fieldAddrLoc I I I F84_0)<|.p I (.loadLoc1 I I I Y3 I)<|.p I (.gt I)<|.m I<|gK h fun c120 h => .jO 13 ((x117.operation == x83.operation) && (decide (0 ≤ ((zg n x117.arguments x83.arguments).getD default)))) I (fun b118 => ?_) ?_
       ·refine .qf I (G84_0 _) Y3 I<|.q I (.fieldAddrLoc I I I F84_0)<|.q I (.loadLoc1 I I I Y3 I)<|.q I (.eq I)<|.qm I<|.jAnd 6 (b2 := decide (0 ≤ ((zg n x117.arguments x83.arguments).getD default))) I I I I (.inr ⟨_, _, _, I, I, I⟩) (fun _ _ _ h1 h2 => by cases h1; cases h2; decide) I I (fun b119 => ?_) ?_
        ·refine .qf I (G84_1 _) Y22 I<|.q I (.fieldAddrLoc I I I F84_1)<|.q I (.loadLoc1 I I I Y22 I)<|.q I (.call I (kC I) I (zcE _ _ _ _ (someD (impT (impF c120 b118) b119))))<|.q I (.ge I)<|.nil I
        exact .nil I
       refine .nil<|.nil<|.keep [.box 84 [.d (.int x83.operation), .d (eA x83.arguments), .d (eM x83.effect.delta), .d (eH x83.effect.hold), .d (eI x83.effect.updates)]] [1, 4, 16, 17, 18, 116] (.c4 I<|.c2 I .nil) I<|.condS I h (fun h => ?_) fun h => ?_
       ·refine .sr<|.z I<|.nil<|.ret (rO h I)
       ·refine .skip ⟨_, h, _, Fz8 I trivial⟩
      ·refine .skip ⟨_, h, _, Fz8 I trivial⟩
     ·refine .sr<|.p I (.ld Y136 I)<|.p I (.fieldAddrLoc I I I F84_2)<|.p I (.loadLoc I I I Y82 (yd I) (v := .d (Effect.enc x83.effect)) I)<|bK h fun x121 q121 h => .p I (.call I (kC I) I (zfW _ _ _ _ q121))<|.p I (.nt I)<|.nil<|.keep [.box 84 [.d (.int x83.operation), .d (eA x83.arguments), .d (eM x83.effect.delta), .d (eH x83.effect.hold), .d (eI x83.effect.updates)]] [1, 16, 17, 18, 121] (.c4 I<|.c I .nil) I<|.condS I h (fun h => ?_) fun h => ?_
      ·refine .sr<|.z I<|.nil<|.ret (rO h I)
      ·refine .skip<|.region<|.p I (.ad I)<|.m I<|.nil ⟨_, h, _, Fz4 I<|Fz2 I<|FzE⟩
  ·refine .exit<|.sr<|.z I<|.nil<|.ret (rO h I)
theorem zfg (n : Nat) (t0 : Hide) (t1 : Int) (t2 : GMap Int Bool) (r : Bool) (h : zcF n t0 t1 t2 = some r) : Pure pg 160 [Hide.enc t0, .ref (.int t1), .ref (GMap.dat (fun n : Int => Value.int .i64 n) D.bool t2)] (.bool r) := by
 refine Pure.ot Tryz.func160 I Tryz.ntmps160 I fun A w => .sr<|.p I (.bx I)<|.z I<|.nil<|.seq<|.plain 10 I<|.f I (zfC _) Y3 I<|.p I (.ld Y3 I)<|.p I (.eq I)<|.m I<|.jA 4 ((t2.get? t0.to).getD false) I (fun b1 => ?_) ?_
 ·refine .q I (.ld Y180 I)<|.qf I (zgA _) Y3 I<|.q I (.mapGetD (ke := (fun n : Int => Value.int .i64 n)) (ve := D.bool) I U180 KT3 I I (z := (false : Bool)) (.val Zv4))<|.nil I
 refine .nil<|.z I<|.nil<|.ret (rO h I)
theorem zcZ (n : Nat) (t0 : List Hide) (t1 : Hide → Option Bool) (F1 : D) (hF1 : ∀ (q0 : Hide) (y : Bool), t1 q0 = some y → Dyn pg F1 [Hide.enc q0] (.bool y)) (r : Int) (h : zx n t0 t1 = some r) : Pure pg 203 [eG t0, F1] (.int r) := by
 refine Pure.ot Tryz.func203 I Tryz.ntmps203 I fun A w => .sr<|.z I<|.nil<|.seq<|.sr<|.m I<|.p I (.len I U28 I)<|.m I<|.nil<|.block<|.loopS [0, 1, 7] (fun (v : Int) => [(8, .d (.int v))]) (fun (v : Int) => []) (.c2 I<|.c I .nil) h ⟨_, Fz4 I<|Fz2 I<|FzE⟩ (fun _ x7 h => ?_)
 refine .sr<|.p I (.ls I)<|.nil<|.keep [] [0, 1, 7, 8, 9] (.c4 I<|.c I .nil) I<|.seq<|.condS I h (fun h => ?_) fun h => ?_
 ·refine .skip<|.seq<|.block<|.sr<|.m I<|.z I<|.nil<|.sr<|.m I<|.m I<|.m I<|bK h fun x9 q9 h => .p I (.ix I U28 S179 q9)<|.p I (.ld Y179 I)<|bK h fun x10 q10 h => .p I (.dyn I I I (hF1 _ _ q10))<|.nil<|.condS I h (fun h => ?_) fun h => ?_
  ·refine .sr<|.m I<|.z I<|.nil<|.ret (rO h I)
  ·refine .skip<|.region<|.p I (.ad I)<|.m I<|.nil ⟨_, h, _, Fz4 I<|Fz2 I<|FzE⟩
 ·refine .exit<|.sr<|.z I<|.nil<|.ret (rO h I)
theorem zcG (n : Nat) (t0 : List Hide) (t1 : Hide → Option Bool) (F1 : D) (hF1 : ∀ (q0 : Hide) (y : Bool), t1 q0 = some y → Dyn pg F1 [Hide.enc q0] (.bool y)) (r : Bool) (h : zar n t0 t1 = some r) : Pure pg 159 [eG t0, F1] (.bool r) := by
 refine Pure.ot Tryz.func159 I Tryz.ntmps159 I fun A w => .sr<|.z I<|.nil<|.sr<|.m I<|.m I<|bK h fun x1 q1 h => .p I (.call I (kC I) I (zcZ _ _ _ _ hF1 _ q1))<|.p I (.ge I)<|.z I<|.nil<|.ret (rO h I)
theorem zfX (n : Nat) (t0 : Judge) (r : Bool) (h : zc n t0 = some r) : Pure pg 100 [Judge.enc t0] (.bool r) := by
 refine Pure.ot Tryz.func100 I Tryz.ntmps100 I fun A w => .sr<|.p I (.bx I)<|.z I<|.nil<|.seq<|.sr<|.p I (.fa I (zbS _))<|.f I (G30_6 _) Y28 I<|.p I (.len I U28 I)<|.p I (.gt I)<|.nil<|.condS I h (fun h => ?_) fun h => ?_
 ·refine .sr<|.z I<|.nil<|.ret (rO h I)
 ·refine .skip<|.seq<|.sr<|.p I (.fa I (zbS _))<|.f I (G30_6 _) Y28 I<|.p I (.len I U28 I)<|.m I<|.nil<|.block<|.loopS [1, 18, 19] (fun (v : Int) => [(20, .d (.int v))]) (fun (v : Int) => []) (.c2 I<|.c I .nil) h ⟨_, Fz4 I<|Fz2 I<|FzE⟩ (fun _ x31 h => ?_)
  refine .sr<|.p I (.ls I)<|.nil<|.keep [] [1, 18, 19, 20, 21] (.c4 I<|.c I .nil) I<|.seq<|.condS I h (fun h => ?_) fun h => ?_
  ·refine .skip<|.seq<|.block<|.sr<|bK h fun x33 q33 h => .p I (.ix I U28 S179 q33)<|.p I (.ld Y179 I)<|.allocStore I I I I I I I I (by simp) I I Z179<|.nil<|.seq<|.seq<|.plain 25 I<|.f I (zfC _) Y3 I<|.p I (.fa I (zbS _))<|.f I (G30_1 _) Y23 I<|.p I (.len I U23 I)<|bK h fun x34 q34 h => .p I (.call I (kC I) I (zce _ _ _ _ q34))<|.p I (.nt I)<|.m I<|gK h fun c36 h => .jO 8 (!((zad n x33.to (t0.model.tables.length : Int)).getD default)) I (fun b35 => ?_) ?_
   ·refine .qf I (zgA _) Y3 I<|.q I (.fa I (zbS _))<|.qf I (G30_1 _) Y23 I<|.q I (.len I U23 I)<|.q I (.call I (kC I) I (zce _ _ _ _ (someD (impF c36 b35))))<|.q I (.nt I)<|.nil I
   refine .m I<|.jO 5 (x33.table == x33.to) I (fun b37 => ?_) ?_
   ·refine .qf I (zfC _) Y3 I<|.qf I (zgA _) Y3 I<|.q I (.eq I)<|.nil I
   refine .nil<|.nil<|.keep [] [1, 4, 18, 19, 20, 48] (.c4 I<|.c2 I .nil) I<|.condS I h (fun h => ?_) fun h => ?_
   ·refine .sr<|.z I<|.nil<|.ret (rO h I)
   ·refine .skip<|.seq<|.draw 18 Hm (by kernel_rfl) (by kernel_rfl)<|.p I (.fa I (zbS _))<|.f I (G30_1 _) Y23 I<|.f I (zfC _) Y3 I<|bK h fun x38 q38 h => .p I (.ix I U23 S127 q38)<|.p I (.ld Y127 I)<|.p I (.fa I (zbS _))<|.f I (G30_1 _) Y23 I<|.f I (zgA _) Y3 I<|bK h fun x39 q39 h => .p I (.ix I U23 S127 q39)<|.p I (.ld Y127 I)<|.alloc I I I I ZZ127<|.alloc I I I I ZZ127<|.store I I I I I I Z127<|.store I I I I I I Z127<|.nil<|.freezes [0, 1] (.cons (t := 5) (d := .ref (Table.enc x38)) I (.loc (inIds I) I (.v (.v (.v (.v (.v .v1)))))) (.cons (t := 6) (d := .ref (Table.enc x39)) I (.loc (inIds I) I (.v (.v (.v (.v (.v .v1)))))) .nil))<|.nil<|.keep [.dead, .dead] [1, 4, 5, 6, 18, 19, 20] (.c4 I<|.c2 I<|.c I .nil) I<|.seq<|.draw 36 Hm (by kernel_rfl) (by kernel_rfl)<|.f I (zcC _) Y3 I<|.p I (.ne I)<|.m I<|.jO 3 (x39.kind != 0) I (fun b40 => ?_) ?_
    ·refine .qf I (zcC _) Y3 I<|.q I (.ne I)<|.nil I
    refine .m I<|gK h fun c42 h => .jO 7 (!((zad n x33.column (x38.columns.length : Int)).getD default)) I (fun b41 => ?_) ?_
    ·refine .qf I (zll _) Y3 I<|.qf I (zbR _) Y22 I<|.q I (.len I U22 I)<|.q I (.call I (kC I) I (zce _ _ _ _ (someD (impF c42 b41))))<|.q I (.nt I)<|.nil I
    refine .m I<|.jO 4 ((x39.columns.length : Int) != 1) I (fun b43 => ?_) ?_
    ·refine .qf I (zbR _) Y22 I<|.q I (.len I U22 I)<|.q I (.ne I)<|.nil I
    refine .m I<|gK h fun c45 h => gK h fun c46 h => .jO 11 (((idx x39.columns 0).getD default) != ((idx x38.columns x33.column).getD default)) I (fun b44 => ?_) ?_
    ·refine .qf I (zbR _) Y22 I<|.q I (.ix I U22 S3 (someD (impF c45 b44)))<|.q I (.ld Y3 I)<|.qf I (zbR _) Y22 I<|.qf I (zll _) Y3 I<|.q I (.ix I U22 S3 (someD (impF c46 b44)))<|.q I (.ld Y3 I)<|.q I (.ne I)<|.nil I
    refine .nil<|.nil<|.keep [.dead, .dead] [1, 18, 19, 20, 98] (.c4 I<|.c I .nil) I<|.condS I h (fun h => ?_) fun h => ?_
    ·refine .sr<|.z I<|.nil<|.ret (rO h I)
    ·refine .skip<|.region<|.p I (.ad I)<|.m I<|.nil ⟨_, h, _, Fz4 I<|Fz2 I<|FzE⟩
  ·refine .exit<|.sr<|.makeMap (fun n : Int => Value.int .i64 n) D.bool I I I I<|.allocZ I I I I (.val Zv180) I<|.store I I I I I I (.cons (.mp I) .nil) C180 I (yd I)<|.nil<|.seq<|.sr<|.p I (.fa I (zbS _))<|.f I (G30_6 _) Y28 I<|.p I (.len I U28 I)<|.m I<|.nil<|.block<|.loopS [1, 7, 103, 104] (fun (v : (GMap Int Bool) × Int) => [(105, .d (.int v.2))]) (fun (v : (GMap Int Bool) × Int) => [(0, GMap.blk (fun n : Int => Value.int .i64 n) D.bool v.1)]) (.c4 I .nil) h ⟨_, Fz8 I trivial⟩ (fun _ v h => ?_)
   obtain ⟨m0_53, x54⟩ := v
   refine .sr<|.p I (.ls I)<|.nil<|.keep [GMap.blk (fun n : Int => Value.int .i64 n) D.bool m0_53, .box 180 [.mp 0]] [1, 7, 103, 104, 105, 106] (.c4 I<|.c2 I .nil) I<|.seq<|.condS I h (fun h => ?_) fun h => ?_
   ·refine .skip<|.seq<|.block<|.sr<|bK h fun x56 q56 h => .p I (.ix I U28 S179 q56)<|.p I (.ld Y179 I)<|.allocStore I I I I I I I I (by simp) I I Z179<|.nil<|.region<|.p I (.loadLoc1 I I I Y180 I)<|.f I (zfC _) Y3 I<|.mapPut (k := x56.table) (v := true) I I I U180 KT3 I I I I<|.nil<|.region<|.p I (.ad I)<|.m I<|.nil ⟨_, h, _, Fz8 I trivial⟩
   ·refine .exit<|.seq<|.sr<|.p I (.fa I (zbS _))<|.f I (G30_6 _) Y28 I<|.p I (.len I U28 I)<|.m I<|.nil<|.block<|.loopS [1, 7, 116] (fun (v : (GMap Int Bool) × Int) => [(117, .d (.int v.2))]) (fun (v : (GMap Int Bool) × Int) => [(0, GMap.blk (fun n : Int => Value.int .i64 n) D.bool v.1)]) (.c2 I<|.c I .nil) h ⟨_, Fz4 I<|Fz2 I<|FzE⟩ (fun _ v h => ?_)
    obtain ⟨m0_139, x140⟩ := v
    refine .sr<|.p I (.ls I)<|.nil<|.keep [GMap.blk (fun n : Int => Value.int .i64 n) D.bool m0_139, .box 180 [.mp 0]] [1, 7, 116, 117, 118] (.c4 I<|.c I .nil) I<|.seq<|.condS I h (fun h => ?_) fun h => ?_
    ·refine .skip<|.seq<|.block<|.sr<|.p I (.loadLoc1 I I I Y180 I)<|.mapRange I I I I U180 I I<|.nil<|.block<|.loopS [1, 7, 116, 117, 120] (fun (v : (GMap Int Bool) × (List Nat) × Nat) => []) (fun (v : (GMap Int Bool) × (List Nat) × Nat) => [(0, GMap.blk (fun n : Int => Value.int .i64 n) D.bool v.1), (2, .it 0 m0_139.clock v.2.1 v.2.2)]) (.c4 I<|.c I .nil) h ⟨_, Fz8 I trivial⟩ (fun _ v h => ?_)
     obtain ⟨m0_171, m2_172, m2_173⟩ := v
     refine .seq<|.region ?_
     obtain ⟨hold_176, hend_177, hstep_178⟩ := zoB h
     refine .mapNext I I I I I I I hold_176 (fun hz => ?_) (fun en_175 hen_175 => ?_)
     ·have h := hend_177 hz
      refine .p I (.extract I I I)<|.nil<|.keep [GMap.blk (fun n : Int => Value.int .i64 n) D.bool m0_171, .box 180 [.mp 0], .it 0 m0_139.clock m2_172 m2_173] [1, 7, 116, 117, 120, 122] (.c4 I<|.c2 I .nil) I<|.seq<|.condF I<|.exit<|.region<|.p I (.ad I)<|.m I<|.nil ⟨_, h, _, Fz4 I<|Fz2 I<|FzE⟩
     ·have h := hstep_178 en_175 hen_175
      refine .p I (.extract I I I)<|.nil<|.keep [GMap.blk (fun n : Int => Value.int .i64 n) D.bool m0_171, .box 180 [.mp 0], .it 0 m0_139.clock (m2_172 ++ [en_175.1]) m0_171.clock] [1, 7, 116, 117, 120, 122] (.c4 I<|.c2 I .nil) I<|.seq<|.condT I<|.skip<|.block<|.sr<|gK h fun hn_179 h => .p I (.entry I I I I (List.mem_filter.1 hen_175).1 (of_decide_eq_true hn_179))<|.p I (.extract I I I)<|.allocStore I I I I I I I I (by simp) I I Z3<|.nil<|.sr<|.p I (.fa I (zbS _))<|.f I (G30_6 _) Y28 I<|.p I (.makeFuncV I I)<|bK h fun x180 q180 h => .p I (.callB I (kC I) (.cons I (.d _) (.cons I (.fn .nil (.v (.cons (.loc1 I (.mp I) I) .nil))) .nil)) I (zcG _ _ _ _ (fun q0 y hq => ⟨_, _, I, K160, zfg _ q0 _ _ _ hq⟩) _ q180))<|.p I (.nt I)<|.nil<|.condS I h (fun h => ?_) fun h => ?_
      ·refine .region<|.p I (.loadLoc1 I I I Y180 I)<|.p I (.ld Y3 I)<|.mapDel (k := en_175.2.1) I I I U180 KT3 I I I<|.nil ⟨_, h, _, Fz8 I trivial⟩
      ·refine .skip ⟨_, h, _, Fz8 I trivial⟩
    ·refine .exit<|.sr<|.p I (.loadLoc1 I I I Y180 I)<|.p I (.mapLen I U180 I I)<|.p I (.eq I)<|.z I<|.nil<|.ret (rO h I)
theorem zdp (n : Nat) (t0 : Model) (r : Bool) (h : zcR n t0 = some r) : Pure pg 39 [Model.enc t0] (.bool r) := by
 refine Pure.ot Tryz.func39 I Tryz.ntmps39 I fun A w => .sr<|.p I (.bx I)<|.z I<|.nil<|.seq<|.seq<|.plain 18 I<|.f I (G30_0 _) Y22 I<|.f I (G30_1 _) Y23 I<|bK h fun x1 q1 h => .p I (.call I (kC I) I (zew _ _ _ _ q1))<|.p I (.nt I)<|.m I<|.jO 4 (decide (24 < (t0.families.length : Int))) I (fun b2 => ?_) ?_
 ·refine .qf I (G30_2 _) Y24 I<|.q I (.len I U24 I)<|.q I (.gt I)<|.nil I
 refine .m I<|gK h fun c4 h => .jO 4 (!((zai n t0.families).getD default)) I (fun b3 => ?_) ?_
 ·refine .qf I (G30_2 _) Y24 I<|.q I (.call I (kC I) I (zeT _ _ _ (someD (impF c4 b3))))<|.q I (.nt I)<|.nil I
 refine .nil<|.nil<|.keep [] [1, 21] (.c2 I .nil) I<|.condS I h (fun h => ?_) fun h => ?_
 ·refine .sr<|.z I<|.nil<|.ret (rO h I)
 ·refine .skip<|.seq<|.draw 9 Hm (by kernel_rfl) (by kernel_rfl)<|.p I (.ld Y30 I)<|.f I (G30_0 _) Y22 I<|.f I (G30_1 _) Y23 I<|bK h fun x5 q5 h => .p I (.call I (kC I) I (zfE _ _ _ _ _ q5))<|.p I (.castD (Judge.enc (⟨t0, x5⟩ : Judge)) I (.build I Pl136 (.agg Zc136 (ds' := [_, _, _, _, _, _, _, _]) (.e (.e (.e (.e (.e (.e (.e .e1)))))))) I I))<|.alloc I I I I ZZ136<|.store I I I I I I Z136<|.nil<|.freezes [0] (.cons (t := 3) (d := .ref (Judge.enc (⟨t0, x5⟩ : Judge))) I (.loc (inIds I) I (.v (.v (.v (.v (.v (.v (.v .v1)))))))) .nil)<|.nil<|.seq<|.plain 14 I<|.p I (.ld Y136 I)<|bK h fun x6 q6 h => .p I (.call I (kC I) I (zee _ _ _ q6))<|.m I<|gK h fun c8 h => .jA 2 (((zB n (⟨t0, x5⟩ : Judge)).getD default)) I (fun b7 => ?_) ?_
  ·refine .q I (.ld Y136 I)<|.q I (.call I (kC I) I (zeA _ _ _ (someD (impT c8 b7))))<|.nil I
  refine .m I<|gK h fun c10 h => .jA 2 (((zu n (⟨t0, x5⟩ : Judge)).getD default)) I (fun b9 => ?_) ?_
  ·refine .q I (.ld Y136 I)<|.q I (.call I (kC I) I (zfy _ _ _ (someD (impT c10 b9))))<|.nil I
  refine .m I<|gK h fun c12 h => .jA 2 (((zc n (⟨t0, x5⟩ : Judge)).getD default)) I (fun b11 => ?_) ?_
  ·refine .q I (.ld Y136 I)<|.q I (.call I (kC I) I (zfX _ _ _ (someD (impT c12 b11))))<|.nil I
  refine .nil<|.z I<|.nil<|.keep [.dead] [2] (.c I .nil) I<|.ret (rO h I)
theorem ziR (n : Nat) (t0 : Model) (r : (Option Layout) × Bool) (h : zh n t0 = some r) : Pure pg 107 [Model.enc t0] (.tup [optD Layout.enc r.1, .bool r.2]) := by
 refine Pure.ot Tryz.func107 I Tryz.ntmps107 I fun A w => .sr<|.p I (.bx I)<|.z I<|.z I<|.nil<|.seq<|.sr<|.p I (.ld Y30 I)<|bK h fun x1 q1 h => .p I (.call I (kC I) I (zdp _ _ _ q1))<|.p I (.nt I)<|.nil<|.condS I h (fun h => ?_) fun h => ?_
 ·refine .sr<|.z I<|.z I<|.nil<|.ret ?_
  cases h
  exact zga I I (.d _) (.d _)
 ·refine .skip<|.sr<|.p I (.ld Y30 I)<|.p I (.build I Pl190 (.agg Zc190 (ds' := [_, _, _, _, _, _, _, .val (.slice none 0 0), .val (.slice none 0 0)]) (.e (.e (.e (.e (.e (.e (.e (.e .e1))))))))) I I)<|.box I I I I I (.ofD I)<|.nilCell 0 7 2 192 I I<|.nilCell 0 8 2 192 I I<|.z I<|.nil<|.seq<|.sr<|.f I (G30_1 _) Y23 I<|.p I (.len I U23 I)<|.m I<|.nil<|.block<|.loopS [1, 4, 23, 24] (fun (v : (List Place) × (List Place) × Int) => [(25, .d (.int v.2.2))]) (fun (v : (List Place) × (List Place) × Int) => [(0, .box 190 [.d (eA t0.sorts), .d (eB t0.tables), .d (eC t0.families), .d (eD t0.constraints), .d (eE t0.operations), .d (eF t0.actions), .d (eG t0.hides), .vec 1 (List.length v.1), .vec 2 (List.length v.2.1)]), (1, .vec 192 2 (List.map Place.enc v.1)), (2, .vec 192 2 (List.map Place.enc v.2.1))]) (.c4 I .nil) h ⟨_, Fz8 I trivial⟩ (fun _ v h => ?_)
  obtain ⟨b1_452, b2_453, x454⟩ := v
  refine .sr<|.p I (.ls I)<|.nil<|.keep [.box 190 [.d (eA t0.sorts), .d (eB t0.tables), .d (eC t0.families), .d (eD t0.constraints), .d (eE t0.operations), .d (eF t0.actions), .d (eG t0.hides), .vec 1 (List.length b1_452), .vec 2 (List.length b2_453)], .vec 192 2 (List.map Place.enc b1_452), .vec 192 2 (List.map Place.enc b2_453)] [1, 4, 23, 24, 25, 26] (.c4 I<|.c2 I .nil) I<|.seq<|.condS I h (fun h => ?_) fun h => ?_
  ·refine .skip<|.seq<|.block<|.sr<|.m I<|bK h fun x456 q456 h => .p I (.ix I U23 S127 q456)<|.p I (.ld Y127 I)<|.allocZ I I I I (.agg Zc127 (ds' := [.str [], .int 0, eA [], .int 0, .int 0, .int 0]) (.e (.e (.o (.e (.e .e1)))))) I<|.z I<|.store I I I I I I (.ofD I) C127 I (yd I)<|.nil<|.sr<|.p I (.buildSlLe [[]] I I E145 I .o1 (fun _ => I) I (enc := eA))<|.z I<|.nil<|.seq<|.sr<|.p I (.fieldAddrLoc I I I zlj)<|.p I (.loadLoc1 I I I Y22 I)<|.p I (.len I U22 I)<|.m I<|.nil<|.block<|.loopS [1, 4, 5, 6, 23, 24, 25, 32, 33] (fun (v : (List (List Int)) × Int) => [(7, .d (eN v.1)), (34, .d (.int v.2))]) (fun (v : (List (List Int)) × Int) => []) (.c8 I<|.c I .nil) h ⟨_, Fz8 I<|Fz4 I<|Fz2 I trivial⟩ (fun _ v h => ?_)
   obtain ⟨x585, x586⟩ := v
   refine .sr<|.p I (.ls I)<|.nil<|.keep [.box 190 [.d (eA t0.sorts), .d (eB t0.tables), .d (eC t0.families), .d (eD t0.constraints), .d (eE t0.operations), .d (eF t0.actions), .d (eG t0.hides), .vec 1 (List.length b1_452), .vec 2 (List.length b2_453)], .vec 192 2 (List.map Place.enc b1_452), .vec 192 2 (List.map Place.enc b2_453), .box 127 [.d (.str x456.name), .d (.int x456.kind), .d (eA x456.columns), .d (.int x456.range.lo), .d (.int x456.range.hi), .d (.int x456.first)]] [1, 4, 5, 6, 7, 23, 24, 25, 32, 33, 34, 35] (.c8 I<|.c4 I .nil) I<|.seq<|.condS I h (fun h => ?_) fun h => ?_
   ·refine .skip<|.seq<|.block<|.sr<|bK h fun x588 q588 h => .p I (.ix I U22 S3 q588)<|.p I (.ld Y3 I)<|.z I<|.nil<|.sr<|.z I<|.nilVec 10 1 22 I<|.nil<|.seq<|.sr<|.m I<|.p I (.len I U145 I)<|.m I<|.nil<|.block<|.loopS [1, 4, 5, 6, 9, 23, 24, 25, 32, 33, 34, 38, 39] (fun (v : (List (List Int)) × Int) => [(10, .vec 4 (List.length v.1)), (40, .d (.int v.2))]) (fun (v : (List (List Int)) × Int) => [(4, .vec 22 1 (List.map eA v.1))]) (.c8 I<|.c4 I<|.c I .nil) h ⟨_, Fz8 I<|Fz8 I<|Fz2 I trivial⟩ (fun _ v h => ?_)
    obtain ⟨b4_629, x630⟩ := v
    refine .sr<|.p I (.ls I)<|.nil<|.keep [.box 190 [.d (eA t0.sorts), .d (eB t0.tables), .d (eC t0.families), .d (eD t0.constraints), .d (eE t0.operations), .d (eF t0.actions), .d (eG t0.hides), .vec 1 (List.length b1_452), .vec 2 (List.length b2_453)], .vec 192 2 (List.map Place.enc b1_452), .vec 192 2 (List.map Place.enc b2_453), .box 127 [.d (.str x456.name), .d (.int x456.kind), .d (eA x456.columns), .d (.int x456.range.lo), .d (.int x456.range.hi), .d (.int x456.first)], .vec 22 1 (List.map eA b4_629)] [1, 4, 5, 6, 9, 10, 23, 24, 25, 32, 33, 34, 38, 39, 40, 41] (.c8 I<|.c8 I .nil) I<|.seq<|.condS I h (fun h => ?_) fun h => ?_
    ·refine .skip<|.seq<|.block<|.sr<|bK h fun x632 q632 h => .p I (.ix I U145 S22 q632)<|.p I (.ld Y22 I)<|.z I<|.nil<|.sr<|.f I (G30_0 _) Y22 I<|.m I<|bK h fun x633 q633 h => .p I (.ix I U22 S3 q633)<|.p I (.ld Y3 I)<|.m I<|.nil<|.block<|.loopS [1, 4, 5, 6, 9, 12, 23, 24, 25, 32, 33, 34, 38, 39, 40, 48] (fun (v : (List (List Int)) × Int) => [(10, .vec 4 (List.length v.1)), (49, .d (.int v.2))]) (fun (v : (List (List Int)) × Int) => [(4, .vec 22 1 (List.map eA v.1))]) (.c8 I<|.c8 I .nil) h ⟨_, Fz8 I<|Fz8 I<|Fz4 I<|FzE⟩ (fun _ v h => ?_)
     obtain ⟨b4_644, x645⟩ := v
     refine .sr<|.p I (.ls I)<|.nil<|.keep [.box 190 [.d (eA t0.sorts), .d (eB t0.tables), .d (eC t0.families), .d (eD t0.constraints), .d (eE t0.operations), .d (eF t0.actions), .d (eG t0.hides), .vec 1 (List.length b1_452), .vec 2 (List.length b2_453)], .vec 192 2 (List.map Place.enc b1_452), .vec 192 2 (List.map Place.enc b2_453), .box 127 [.d (.str x456.name), .d (.int x456.kind), .d (eA x456.columns), .d (.int x456.range.lo), .d (.int x456.range.hi), .d (.int x456.first)], .vec 22 1 (List.map eA b4_644)] [1, 4, 5, 6, 9, 10, 12, 23, 24, 25, 32, 33, 34, 38, 39, 40, 48, 49, 50] (.c8 I<|.c8 I<|.c2 I<|.c I .nil) I<|.seq<|.condS I h (fun h => ?_) fun h => ?_
     ·refine .skip<|.seq<|.block<|.sr<|.m I<|.z I<|.nil<|.region<|.m I<|.m I<|bK h fun x647 q647 h => .clone (enc := D.int) I I I I K29 Tryz.func29 I I I I E22 I (fun _ => I) (fun _ => I) q647 I I<|.m I<|.p I (.buildSl [_] I I E22 I (fun _ => I) I (enc := D.int))<|bK h fun x648 q648 h => .app I I I I I I I I E22 I (fun _ => I) q648<|.freezes [5] (.cons (t := 57) I (.vec (inIds I) I (by simp)) .nil)<|.p I (.buildSl [_] I I E145 I (fun _ => I) I (enc := eA))<|bK h fun x649 q649 h => .app I I I I I I I I E145 I (fun _ => I) q649<|.z I<|.nil<|.region<|.p I (.ad I)<|.m I<|.nil ⟨_, h, _, Fz8 I<|Fz8 I<|Fz4 I<|FzE⟩
     ·refine .exit<|.region<|.p I (.ad I)<|.m I<|.nil ⟨_, h, _, Fz8 I<|Fz8 I<|Fz2 I trivial⟩
    ·refine .exit<|.region<|.m I<|.freezes [4] (.cons (t := 62) I (.vec (inIds I) I (by simp)) .nil)<|.z I<|.nil<|.region<|.p I (.ad I)<|.m I<|.nil ⟨_, h, _, Fz8 I<|Fz4 I<|Fz2 I trivial⟩
   ·refine .exit<|.sr<|.m I<|.p I (.len I U145 I)<|.m I<|.nil<|.block<|.loopS [1, 4, 5, 6, 23, 24, 25, 64, 65] (fun (v : (List Place) × (List Place) × Int) => [(66, .d (.int v.2.2))]) (fun (v : (List Place) × (List Place) × Int) => [(0, .box 190 [.d (eA t0.sorts), .d (eB t0.tables), .d (eC t0.families), .d (eD t0.constraints), .d (eE t0.operations), .d (eF t0.actions), .d (eG t0.hides), .vec 1 (List.length v.1), .vec 2 (List.length v.2.1)]), (1, .vec 192 2 (List.map Place.enc v.1)), (2, .vec 192 2 (List.map Place.enc v.2.1))]) (.c8 I<|.c I .nil) h ⟨_, Fz8 I<|Fz4 I<|FzE⟩ (fun _ v h => ?_)
    obtain ⟨b1_668, b2_669, x670⟩ := v
    refine .sr<|.p I (.ls I)<|.nil<|.keep [.box 190 [.d (eA t0.sorts), .d (eB t0.tables), .d (eC t0.families), .d (eD t0.constraints), .d (eE t0.operations), .d (eF t0.actions), .d (eG t0.hides), .vec 1 (List.length b1_668), .vec 2 (List.length b2_669)], .vec 192 2 (List.map Place.enc b1_668), .vec 192 2 (List.map Place.enc b2_669), .box 127 [.d (.str x456.name), .d (.int x456.kind), .d (eA x456.columns), .d (.int x456.range.lo), .d (.int x456.range.hi), .d (.int x456.first)]] [1, 4, 5, 6, 23, 24, 25, 64, 65, 66, 67] (.c8 I<|.c2 I<|.c I .nil) I<|.seq<|.condS I h (fun h => ?_) fun h => ?_
    ·refine .skip<|.join [1, 4, 5, 6, 23, 24, 25, 64, 65, 66] (fun (v : (List Place) × (List Place)) => []) (fun (v : (List Place) × (List Place)) => [(0, .box 190 [.d (eA t0.sorts), .d (eB t0.tables), .d (eC t0.families), .d (eD t0.constraints), .d (eE t0.operations), .d (eF t0.actions), .d (eG t0.hides), .vec 1 (List.length v.1), .vec 2 (List.length v.2)]), (1, .vec 192 2 (List.map Place.enc v.1)), (2, .vec 192 2 (List.map Place.enc v.2))]) (.c8 I<|.c2 I .nil) h (fun k_674 h => ?_) (fun v h => ?_)
     ·refine .block<|.sr<|bK h fun x675 q675 h => .p I (.ix I U145 S22 q675)<|.p I (.ld Y22 I)<|.z I<|.nil<|.sr<|.p I (.fieldAddrLoc I I I zn4)<|.p I (.loadLoc1 I I I Y3 I)<|.p I (.le I)<|.nil<|.condS I h (fun h => ?_) fun h => ?_
      ·refine .region<|.m I<|.m I<|.p I (.nilCheck_loc I I I)<|.p I (.fieldAddrLoc I I I zn6)<|.p I (.loadLoc1 I I I Y188 I)<|.m I<|.m I<|.p I (.castD (Place.enc (⟨x454, x675⟩ : Place)) I (.build I Pl192 (.agg Zc192 (ds' := [_, _]) (.e .e1)) I I))<|.p I (.buildSl [_] I I E188 I (fun _ => I) I (enc := Place.enc))<|bK h fun x676 q676 h => .app I I I I I I I I E188 I (fun _ => I) q676<|.p I (.nilCheck_loc I I I)<|.p I (.fieldAddrLoc I I I zn6)<|.store I I I I I I (.cons (.vec I (by simp)) .nil) C188 I (yd I)<|.nil ⟨_, h, _, Fz8 I<|Fz4 I<|FzE⟩
      ·refine .region<|.m I<|.m I<|.p I (.nilCheck_loc I I I)<|.p I (.fieldAddrLoc I I I zn7)<|.p I (.loadLoc1 I I I Y188 I)<|.m I<|.m I<|.p I (.castD (Place.enc (⟨x454, x675⟩ : Place)) I (.build I Pl192 (.agg Zc192 (ds' := [_, _]) (.e .e1)) I I))<|.p I (.buildSl [_] I I E188 I (fun _ => I) I (enc := Place.enc))<|bK h fun x677 q677 h => .app I I I I I I I I E188 I (fun _ => I) q677<|.p I (.nilCheck_loc I I I)<|.p I (.fieldAddrLoc I I I zn7)<|.store I I I I I I (.cons (.vec I (by simp)) .nil) C188 I (yd I)<|.nil ⟨_, h, _, Fz8 I<|Fz4 I<|FzE⟩
     ·obtain ⟨b1_672, b2_673⟩ := v
      refine .region<|.p I (.ad I)<|.m I<|.nil ⟨_, h, _, Fz8 I<|Fz4 I<|FzE⟩
    ·refine .exit<|.region<|.p I (.ad I)<|.m I<|.nil ⟨_, h, _, Fz8 I trivial⟩
  ·refine .exit<|.sr<|.m I<|.z I<|.z I<|.nil<|.ret ?_
   cases h
   exact zga I I (.loc I (.v (.v (.v (.v (.v (.v (.v (.cons (.vec I (by simp)) (.cons (.vec I (by simp)) .nil)))))))))) (.d _)
theorem ze2 (n : Nat) (t0 : Layout) (t1 : Question) (r : Bool) (h : zbe n t0 t1 = some r) : Pure pg 108 [.ref (Layout.enc t0), Question.enc t1] (.bool r) := by
 refine Pure.ot Tryz.func108 I Tryz.ntmps108 I fun A w => .sr<|.p I (.bx I)<|.z I<|.nil<|.sr<|.m I<|.p I (.nilCheck_ref I I)<|.p I (.fa I (zm8 _))<|.f I (G30_5 _) Y27 I<|.p I (.len I U27 I)<|.z I<|.nil<|.seq<|.seq<|.plain 26 I<|.f I (G37_0 _) Y3 I<|.p I (.ls I)<|.m I<|.jO 3 (decide (t1.f < 0)) I (fun b1 => ?_) ?_
 ·refine .qf I (G37_1 _) Y3 I<|.q I (.ls I)<|.nil I
 refine .m I<|.jO 4 (decide ((t0.m.actions.length : Int) ≤ t1.e)) I (fun b2 => ?_) ?_
 ·refine .qf I (G37_0 _) Y3 I<|.qm I<|.q I (.ge I)<|.nil I
 refine .m I<|.jO 4 (decide ((t0.m.actions.length : Int) ≤ t1.f)) I (fun b3 => ?_) ?_
 ·refine .qf I (G37_1 _) Y3 I<|.qm I<|.q I (.ge I)<|.nil I
 refine .m I<|.jO 4 (decide (t1.target.index < 0)) I (fun b4 => ?_) ?_
 ·refine .q I (.fa I (G37_2 _))<|.qf I (G35_1 _) Y3 I<|.q I (.ls I)<|.nil I
 refine .nil<|.nil<|.keep [] [0, 3, 37] (.c2 I<|.c I .nil) I<|.condS I h (fun h => ?_) fun h => ?_
 ·refine .sr<|.z I<|.nil<|.ret (rO h I)
 ·refine .skip<|.seq<|.sr<|.p I (.fa I (G37_2 _))<|.f I (G35_0 _) Y4 I<|.nil<|.condS I h (fun h => ?_) fun h => ?_
  ·refine .seq<|.draw 17 Hm (by kernel_rfl) (by kernel_rfl)<|.p I (.fa I (G37_2 _))<|.f I (G35_1 _) Y3 I<|.m I<|.p I (.nilCheck_ref I I)<|.p I (.fa I (zm8 _))<|.f I (G30_5 _) Y27 I<|.f I (G37_0 _) Y3 I<|bK h fun x5 q5 h => .p I (.ix I U27 S84 q5)<|.p I (.fa I (G84_2 _))<|.f I (G82_1 _) Y49 I<|.p I (.len I U49 I)<|.p I (.ls I)<|.z I<|.nil<|.nil<|.keep [] [4] (.c I .nil) I<|.ret (rO h I)
  ·refine .skip<|.seq<|.draw 18 Hm (by kernel_rfl) (by kernel_rfl)<|.f I (G37_0 _) Y3 I<|.f I (G37_1 _) Y3 I<|.p I (.le I)<|.m I<|.jA 10 (decide (t1.target.index < (t0.m.constraints.length : Int))) I (fun b6 => ?_) ?_
   ·refine .q I (.fa I (G37_2 _))<|.qf I (G35_1 _) Y3 I<|.qm I<|.q I (.nilCheck_ref I I)<|.q I (.fa I (zm8 _))<|.qf I (G30_3 _) Y25 I<|.q I (.len I U25 I)<|.q I (.ls I)<|.nil I
   refine .z I<|.nil<|.nil<|.keep [] [4] (.c I .nil) I<|.ret (rO h I)
theorem ze1 (n : Nat) (t0 : Model) (t1 : Question) (r : Bool) (h : zcK n t0 t1 = some r) : Pure pg 43 [Model.enc t0, Question.enc t1] (.bool r) := by
 refine Pure.ot Tryz.func43 I Tryz.ntmps43 I fun A w => .sr<|.p I (.bx I)<|.p I (.bx I)<|.z I<|.nil<|.sr<|.p I (.ld Y30 I)<|bK h fun x1 q1 h => .p I (.call I (kC I) I (ziR _ _ _ q1))<|.m I<|.p I (.extract I I I)<|.p I (.extract I I I)<|.z I<|.z I<|.nil<|.seq<|.plain 6 I<|.m I<|.m I<|gK h fun c3 h => gK h fun c4 h => .jA 3 (((zbe n ((x1.1).getD default) t1).getD default)) I (fun b2 => ?_) ?_
 ·refine .qm I<|.q I (.ld Y37 I)<|.q I (.callLe I (kC I) I (.cons (.ofEq (zow (someD (impT c3 b2)))) .e1) (ze2 _ _ _ _ (someD (impT c4 b2))))<|.nil I
 refine .nil<|.z I<|.nil<|.keep [] [4] (.c I .nil) I<|.ret (rO h I)
theorem zjw (n : Nat) (t0 : Model) (t1 : Bool) (r : List Range) (h : zfZ n t0 t1 = some r) : Pure pg 110 [Model.enc t0, .bool t1] (eK r) := by
 refine Pure.ot Tryz.func110 I Tryz.ntmps110 I fun A w => .sr<|.p I (.bx I)<|.p I (.nilS 2 (α := Range) Range.enc I)<|.nil<|.seq<|.sr<|.p I (.ld Y30 I)<|bK h fun x1 q1 h => .p I (.call I (kC I) I (zdp _ _ _ q1))<|.p I (.nt I)<|.nil<|.condS I h (fun h => ?_) fun h => ?_
 ·refine .sr<|.p I (.nilS 2 (α := Range) Range.enc I)<|.nil<|.ret ?_
  cases h
  exact zbv I (.d _)
 ·refine .skip<|.sr<|.f I (G30_0 _) Y22 I<|.f I (G30_1 _) Y23 I<|.m I<|bK h fun x2 q2 h => .p I (.call I (kC I) I (zfE _ _ _ _ _ q2))<|.z I<|.nil<|.ret ?_
  cases h
  exact zbv I (.d _)
theorem zjt (n : Nat) (t0 : Model) (r : List Range) (h : zek n t0 = some r) : Pure pg 48 [Model.enc t0] (eK r) := by
 refine Pure.ot Tryz.func48 I Tryz.ntmps48 I fun A w => .sr<|.p I (.bx I)<|.p I (.nilS 2 (α := Range) Range.enc I)<|.nil<|.sr<|.p I (.ld Y30 I)<|bK h fun x1 q1 h => .p I (.call I (kC I) I (zjw _ _ _ _ q1))<|.z I<|.nil<|.ret ?_
 cases h
 exact zbv I (.d _)
theorem zaJ (n : Nat) (t0 : Action) (t1 : Int) (r : Int) (h : zC n t0 t1 = some r) : Pure pg 61 [Action.enc t0, .int t1] (.int r) := by
 refine Pure.ot Tryz.func61 I Tryz.ntmps61 I fun A w => .sr<|.p I (.bx I)<|.z I<|.nil<|.seq<|.sr<|.p I (.fa I (G84_2 _))<|.f I (G82_0 _) Y79 I<|.p I (.len I U79 I)<|.m I<|.nil<|.block<|.loopS [1, 9, 10] (fun (v : Int) => [(11, .d (.int v))]) (fun (v : Int) => []) (.c2 I<|.c I .nil) h ⟨_, Fz4 I<|Fz2 I<|FzE⟩ (fun _ x5 h => ?_)
 refine .sr<|.p I (.ls I)<|.nil<|.keep [] [1, 9, 10, 11, 12] (.c4 I<|.c I .nil) I<|.seq<|.condS I h (fun h => ?_) fun h => ?_
 ·refine .skip<|.seq<|.block<|.sr<|bK h fun x7 q7 h => .p I (.ix I U79 S131 q7)<|.p I (.ld Y131 I)<|.allocStore I I I I I I I I (by simp) I I Z131<|.nil<|.sr<|.f I (zhc _) Y3 I<|.m I<|.p I (.eq I)<|.nil<|.condS I h (fun h => ?_) fun h => ?_
  ·refine .sr<|.f I (zkm _) Y3 I<|.z I<|.nil<|.ret (rO h I)
  ·refine .skip<|.region<|.p I (.ad I)<|.m I<|.nil ⟨_, h, _, Fz4 I<|Fz2 I<|FzE⟩
 ·refine .exit<|.sr<|.z I<|.nil<|.ret (rO h I)
theorem zan (n : Nat) (t0 : Action) (t1 : Row) (r : Int) (h : zj n t0 t1 = some r) : Pure pg 40 [Action.enc t0, Row.enc t1] (.int r) := by
 refine Pure.ot Tryz.func40 I Tryz.ntmps40 I fun A w => .sr<|.p I (.bx I)<|.p I (.bx I)<|.z I<|.nil<|.sr<|.z I<|.nil<|.seq<|.sr<|.f I (G33_0 _) Y31 I<|.p I (.len I U31 I)<|.m I<|.nil<|.block<|.loopS [2, 9, 10] (fun (v : Int × Int) => [(5, .d (.int v.1)), (11, .d (.int v.2))]) (fun (v : Int × Int) => []) (.c2 I<|.c I .nil) h ⟨_, Fz8 I trivial⟩ (fun _ v h => ?_)
 obtain ⟨x9, x10⟩ := v
 refine .sr<|.p I (.ls I)<|.nil<|.keep [] [2, 5, 9, 10, 11, 12] (.c4 I<|.c2 I .nil) I<|.seq<|.condS I h (fun h => ?_) fun h => ?_
 ·refine .skip<|.seq<|.block<|.sr<|bK h fun x12 q12 h => .p I (.ix I U31 S41 q12)<|.p I (.ld Y41 I)<|.allocStore I I I I I I I I (by simp) I I Z41<|.nil<|.draw 10 Hm (by kernel_rfl) (by kernel_rfl)<|.m I<|.f I (G41_1 _) Y3 I<|.p I (.ld Y84 I)<|.f I (G41_0 _) Y3 I<|bK h fun x13 q13 h => .p I (.call I (kC I) I (zaJ _ _ _ _ q13))<|.p I (.ml I)<|.p I (.ad I)<|.z I<|.nil<|.nil<|.region<|.p I (.ad I)<|.m I<|.nil ⟨_, h, _, Fz8 I trivial⟩
 ·refine .exit<|.sr<|.m I<|.z I<|.nil<|.ret (rO h I)
theorem zeZ (n : Nat) (t0 : List Int) (t1 : Int) (r : Int) (h : zab n t0 t1 = some r) : Pure pg 111 [eA t0, .int t1] (.int r) := by
 refine Pure.ot Tryz.func111 I Tryz.ntmps111 I fun A w => .sr<|.z I<|.nil<|.seq<|.sr<|.m I<|.p I (.len I U22 I)<|.m I<|.nil<|.block<|.loopS [0, 1, 7] (fun (v : Int) => [(8, .d (.int v))]) (fun (v : Int) => []) (.c2 I<|.c I .nil) h ⟨_, Fz4 I<|Fz2 I<|FzE⟩ (fun _ x5 h => ?_)
 refine .sr<|.p I (.ls I)<|.nil<|.keep [] [0, 1, 7, 8, 9] (.c4 I<|.c I .nil) I<|.seq<|.condS I h (fun h => ?_) fun h => ?_
 ·refine .skip<|.seq<|.block<|.sr<|.m I<|.z I<|.nil<|.sr<|.m I<|.m I<|.m I<|bK h fun x7 q7 h => .p I (.ix I U22 S3 q7)<|.p I (.ld Y3 I)<|.p I (.eq I)<|.nil<|.condS I h (fun h => ?_) fun h => ?_
  ·refine .sr<|.m I<|.z I<|.nil<|.ret (rO h I)
  ·refine .skip<|.region<|.p I (.ad I)<|.m I<|.nil ⟨_, h, _, Fz4 I<|Fz2 I<|FzE⟩
 ·refine .exit<|.sr<|.z I<|.nil<|.ret (rO h I)
theorem zcs (n : Nat) (t0 : List Int) (t1 : Int) (r : Bool) (h : zay n t0 t1 = some r) : Pure pg 49 [eA t0, .int t1] (.bool r) := by
 refine Pure.ot Tryz.func49 I Tryz.ntmps49 I fun A w => .sr<|.z I<|.nil<|.sr<|.m I<|.m I<|bK h fun x1 q1 h => .p I (.call I (kC I) I (zeZ _ _ _ _ q1))<|.p I (.ge I)<|.z I<|.nil<|.ret (rO h I)
theorem zg0 (n : Nat) (t0 : Int) (t1 : Int) (r : Int) (h : zdC n t0 t1 = some r) : Pure pg 112 [.int t0, .ref (.int t1)] (.int r) := by
 refine Pure.ot Tryz.func112 I Tryz.ntmps112 I fun A w => .sr<|.z I<|.nil<|.sr<|.m I<|.p I (.ld Y3 I)<|.p I (.sb I)<|.z I<|.nil<|.ret (rO h I)
theorem zhU (n : Nat) (t0 : Int) : Pure pg 52 [.int t0] (.fn (.func 112) [] [.ref (.int t0)]) := by
 refine Pure.ot Tryz.func52 I Tryz.ntmps52 I fun A w => .sr<|.p I (.bx I)<|.z I<|.nil<|.sr<|.p I (.makeFunc I I)<|.z I<|.nil<|.ret (zbv I (.d _))
theorem zbQ (n : Nat) (t0 : Row) (t1 : Int → Option Int) (t2 : Int → Option Int) (F1 : D) (hF1 : ∀ (q0 : Int) (y : Int), t1 q0 = some y → Dyn pg F1 [.int q0] (.int y)) (F2 : D) (hF2 : ∀ (q0 : Int) (y : Int), t2 q0 = some y → Dyn pg F2 [.int q0] (.int y)) (r : Row) (h : zK n t0 t1 t2 = some r) : Pure pg 50 [Row.enc t0, F1, F2] (Row.enc r) := by
 refine Pure.ot Tryz.func50 I Tryz.ntmps50 I fun A w => .sr<|.p I (.bx I)<|.allocZ I I I I (.agg Zc33 (ds' := [eL [], .int 0]) (.o .e1)) I<|.nil<|.sr<|.m I<|.f I (G33_1 _) Y3 I<|bK h fun x1 q1 h => .p I (.dyn I I I (hF2 _ _ q1))<|.p I (.build I Pl33 (.agg Zc33 (ds' := [.val (.slice none 0 0), _]) (.e .e1)) I I)<|.allocZ I I I I (.agg Zc33 (ds' := [.val (.slice none 0 0), .int 0]) (.e .e1)) I<|.nilCell 1 0 2 41 I I<|.store I I I I I I (.ofD I) C33 I (yd I)<|.nilCell 1 0 2 41 I I<|.nil<|.seq<|.sr<|.f I (G33_0 _) Y31 I<|.p I (.len I U31 I)<|.m I<|.nil<|.block<|.loopS [1, 6, 7, 16, 17] (fun (v : (List Term) × Int) => [(18, .d (.int v.2))]) (fun (v : (List Term) × Int) => [(1, .box 33 [.vec 3 (List.length v.1), .d (.int x1)]), (3, .vec 41 2 (List.map Term.enc v.1))]) (.c4 I<|.c I .nil) h ⟨_, Fz8 I<|FzE⟩ (fun _ v h => ?_)
 obtain ⟨b3_12, x13⟩ := v
 refine .sr<|.p I (.ls I)<|.nil<|.keep [.box 33 [.d (eL []), .d (.int 0)], .box 33 [.vec 3 (List.length b3_12), .d (.int x1)], .vec 41 2 (List.map Term.enc ([] : List Term)), .vec 41 2 (List.map Term.enc b3_12)] [1, 6, 7, 16, 17, 18, 19] (.c4 I<|.c2 I<|.c I .nil) I<|.seq<|.condS I h (fun h => ?_) fun h => ?_
 ·refine .skip<|.seq<|.block<|.sr<|bK h fun x15 q15 h => .p I (.ix I U31 S41 q15)<|.p I (.ld Y41 I)<|.allocStore I I I I I I I I (by simp) I I Z41<|.nil<|.draw 10 Hm (by kernel_rfl) (by kernel_rfl)<|.p I (.fieldAddrLoc I I I F33_0)<|.p I (.loadLoc1 I I I Y31 I)<|.f I (G41_0 _) Y3 I<|.m I<|.f I (G41_1 _) Y3 I<|bK h fun x16 q16 h => .p I (.dyn I I I (hF1 _ _ q16))<|.p I (.castD (Term.enc (⟨x15.cell, x16⟩ : Term)) I (.build I Pl41 (.agg Zc41 (ds' := [_, _]) (.e .e1)) I I))<|.p I (.buildSl [_] I I E31 I (fun _ => I) I (enc := Term.enc))<|.nil<|bK h fun x17 q17 h => .app I I I I I I I I E31 I (fun _ => I) q17<|.p I (.fieldAddrLoc I I I F33_0)<|.store I I I I I I (.cons (.vec I (by simp)) .nil) C31 I (yd I)<|.nil<|.keep [.box 33 [.d (eL []), .d (.int 0)], .box 33 [.vec 3 (List.length x17), .d (.int x1)], .vec 41 2 (List.map Term.enc ([] : List Term)), .vec 41 2 (List.map Term.enc x17)] [1, 6, 7, 16, 17, 18] (.c4 I<|.c2 I .nil) I<|.region<|.p I (.ad I)<|.m I<|.nil ⟨_, h, _, Fz8 I<|FzE⟩
 ·refine .exit<|.sr<|.p I (.loadLoc I I I Y33 (yd I) I)<|.store I I I I I I (.cons (.vec I (by simp)) (.cons (.d I) .nil)) C33 I (yd I)<|.nil<|.ret ?_
  cases h
  exact zh9 I I Y33 (.cons (.vec I (by simp)) .v1)
theorem zdi (n : Nat) (t0 : Int) (r : Int) (h : za8 n t0 = some r) : Pure pg 51 [.int t0] (.int r) := by
 refine Pure.ot Tryz.func51 I Tryz.ntmps51 I fun A w => .sr<|.z I<|.nil<|.sr<|.m I<|.z I<|.nil<|.ret (rO h I)
theorem zc2 (n : Nat) (t0 : Int) (t1 : Int) (r : Int) (h : zaH n t0 t1 = some r) : Pure pg 56 [.int t0, .ref (.int t1)] (.int r) := by
 refine Pure.ot Tryz.func56 I Tryz.ntmps56 I fun A w => .sr<|.z I<|.nil<|.sr<|.m I<|.p I (.neg6 I I)<|.p I (.ld Y3 I)<|.p I (.ad I)<|.p I (.sb I)<|.z I<|.nil<|.ret (rO h I)
theorem zdG (n : Nat) (t0 : Int) (r : Int) (h : za4 n t0 = some r) : Pure pg 55 [.int t0] (.int r) := by
 refine Pure.ot Tryz.func55 I Tryz.ntmps55 I fun A w => .sr<|.z I<|.nil<|.sr<|.m I<|.p I (.neg6 I I)<|.z I<|.nil<|.ret (rO h I)
theorem zc3 (n : Nat) (t0 : Constraint) (t1 : Int → Option Int) (F1 : D) (hF1 : ∀ (q0 : Int) (y : Int), t1 q0 = some y → Dyn pg F1 [.int q0] (.int y)) (r : Graph) (h : zO n t0 t1 = some r) : Pure pg 57 [Constraint.enc t0, F1] (Graph.enc r) := by
 refine Pure.ot Tryz.func57 I Tryz.ntmps57 I fun A w => .sr<|.p I (.bx I)<|.allocZ I I I I (.agg Zc99 (ds' := [.int 0, .int 0, eA []]) (.e (.e .o1))) I<|.nil<|.sr<|.f I (G78_3 _) Y3 I<|.f I (G78_4 _) Y3 I<|.p I (.build I Pl99 (.agg Zc99 (ds' := [_, _, .val (.slice none 0 0)]) (.e (.e .e1))) I I)<|.allocZ I I I I (.agg Zc99 (ds' := [.int 0, .int 0, .val (.slice none 0 0)]) (.e (.e .e1))) I<|.nilCell 1 2 1 3 I I<|.store I I I I I I (.ofD I) C99 I (yd I)<|.nilCell 1 2 1 3 I I<|.nil<|.seq<|.sr<|.f I (G78_4 _) Y3 I<|.f I (G78_4 _) Y3 I<|.p I (.ml I)<|.m I<|.nil<|.block<|.loopS [1, 2, 4, 5, 16] (fun (v : (List Int) × Int) => [(17, .d (.int v.2))]) (fun (v : (List Int) × Int) => [(1, .box 99 [.d (.int t0.first), .d (.int t0.size), .vec 3 (List.length v.1)]), (3, .vec 3 1 (List.map D.int v.1))]) (.c4 I<|.c I .nil) h ⟨_, Fz8 I<|FzE⟩ (fun _ v h => ?_)
 obtain ⟨b3_9, x10⟩ := v
 refine .sr<|.p I (.ls I)<|.nil<|.keep [.box 99 [.d (.int 0), .d (.int 0), .d (eA [])], .box 99 [.d (.int t0.first), .d (.int t0.size), .vec 3 (List.length b3_9)], .vec 3 1 (List.map D.int ([] : List Int)), .vec 3 1 (List.map D.int b3_9)] [1, 2, 4, 5, 16, 17, 18] (.c4 I<|.c2 I<|.c I .nil) I<|.seq<|.condS I h (fun h => ?_) fun h => ?_
 ·refine .skip<|.seq<|.block<|.sr<|.m I<|.z I<|.nil<|.draw 10 Hm (by kernel_rfl) (by kernel_rfl)<|.p I (.fieldAddrLoc I I I F99_2)<|.p I (.loadLoc1 I I I Y22 I)<|.m I<|.f I (G78_3 _) Y3 I<|.m I<|.p I (.ad I)<|bK h fun x12 q12 h => .p I (.dyn I I I (hF1 _ _ q12))<|.p I (.sb I)<|.p I (.buildSl [_] I I E22 I (fun _ => I) I (enc := D.int))<|.nil<|bK h fun x13 q13 h => .app I I I I I I I I E22 I (fun _ => I) q13<|.p I (.fieldAddrLoc I I I F99_2)<|.store I I I I I I (.cons (.vec I (by simp)) .nil) C22 I (yd I)<|.nil<|.region<|.p I (.ad I)<|.m I<|.nil ⟨_, h, _, Fz8 I<|FzE⟩
 ·refine .exit<|.sr<|.p I (.loadLoc I I I Y99 (yd I) I)<|.store I I I I I I (.cons (.d I) (.cons (.d I) (.cons (.vec I (by simp)) .nil))) C99 I (yd I)<|.nil<|.ret ?_
  cases h
  exact zh9 I I Y99 (.v (.v (.cons (.vec I (by simp)) .nil)))
theorem zfI (n : Nat) (t0 : Int) (r : Int) (h : zaW n t0 = some r) : Pure pg 58 [.int t0] (.int r) := by
 refine Pure.ot Tryz.func58 I Tryz.ntmps58 I fun A w => .sr<|.z I<|.nil<|.sr<|.z I<|.nil<|.ret (rO h I)
theorem zb4 (n : Nat) (t0 : Action) (t1 : Constraint) (r : List Int) (h : zz n t0 t1 = some r) : Pure pg 59 [Action.enc t0, Constraint.enc t1] (eA r) := by
 refine Pure.ot Tryz.func59 I Tryz.ntmps59 I fun A w => .sr<|.p I (.bx I)<|.p I (.bx I)<|.p I (.nilS 1 (α := Int) D.int I)<|.nil<|.sr<|.z I<|.nilVec 5 1 3 I<|.nil<|.seq<|.sr<|.f I (G78_4 _) Y3 I<|.f I (G78_4 _) Y3 I<|.p I (.ml I)<|.m I<|.nil<|.block<|.loopS [2, 3, 11] (fun (v : (List Int) × Int) => [(5, .vec 0 (List.length v.1)), (12, .d (.int v.2))]) (fun (v : (List Int) × Int) => [(0, .vec 3 1 (List.map D.int v.1))]) (.c2 I<|.c I .nil) h ⟨_, Fz8 I trivial⟩ (fun _ v h => ?_)
 obtain ⟨b0_13, x14⟩ := v
 refine .sr<|.p I (.ls I)<|.nil<|.keep [.vec 3 1 (List.map D.int b0_13)] [2, 3, 5, 11, 12, 13] (.c4 I<|.c2 I .nil) I<|.seq<|.condS I h (fun h => ?_) fun h => ?_
 ·refine .skip<|.join [2, 3, 11, 12] (fun (v : (List Int)) => [(5, .vec 0 (List.length v))]) (fun (v : (List Int)) => [(0, .vec 3 1 (List.map D.int v))]) (.c4 I .nil) h (fun k_17 h => ?_) (fun b0_16 h => ?_)
  ·refine .block<|.sr<|.m I<|.z I<|.nil<|.sr<|.p I (.ld Y84 I)<|.f I (G78_3 _) Y3 I<|.m I<|.p I (.ad I)<|bK h fun x18 q18 h => .p I (.call I (kC I) I (zaJ _ _ _ _ q18))<|.p I (.gt I)<|.nil<|.condS I h (fun h => ?_) fun h => ?_
   ·refine .region<|.m I<|.m I<|.p I (.buildSl [_] I I E22 I (fun _ => I) I (enc := D.int))<|bK h fun x19 q19 h => .app I I I I I I I I E22 I (fun _ => I) q19<|.z I<|.nil ⟨_, h, _, Fz8 I trivial⟩
   ·refine .skip ⟨_, h, _, Fz8 I trivial⟩
  ·refine .region<|.p I (.ad I)<|.m I<|.nil ⟨_, h, _, Fz8 I trivial⟩
 ·refine .exit<|.sr<|.m I<|.z I<|.nil<|.ret ?_
  cases h
  exact zbv I (.vec I (by simp))
theorem zfJ (n : Nat) (t0 : Int) (t1 : Action) (r : Int) (h : zR n t0 t1 = some r) : Pure pg 60 [.int t0, .ref (Action.enc t1)] (.int r) := by
 refine Pure.ot Tryz.func60 I Tryz.ntmps60 I fun A w => .sr<|.z I<|.nil<|.sr<|.p I (.ld Y84 I)<|.m I<|bK h fun x1 q1 h => .p I (.call I (kC I) I (zaJ _ _ _ _ q1))<|.z I<|.nil<|.ret (rO h I)
theorem zfK (n : Nat) (t0 : Int) (t1 : Action) (r : Int) (h : zah n t0 t1 = some r) : Pure pg 62 [.int t0, .ref (Action.enc t1)] (.int r) := by
 refine Pure.ot Tryz.func62 I Tryz.ntmps62 I fun A w => .sr<|.z I<|.nil<|.sr<|.p I (.ld Y84 I)<|.m I<|bK h fun x1 q1 h => .p I (.call I (kC I) I (zaJ _ _ _ _ q1))<|.z I<|.nil<|.ret (rO h I)
theorem zdF (n : Nat) (t0 : Int) (t1 : Action) (t2 : Constraint) (t3 : Action) (r : Int) (h : zaF n t0 t1 t2 t3 = some r) : Pure pg 113 [.int t0, .ref (Action.enc t1), .ref (Constraint.enc t2), .ref (Action.enc t3)] (.int r) := by
 refine Pure.ot Tryz.func113 I Tryz.ntmps113 I fun A w => .sr<|.z I<|.nil<|.seq<|.draw 14 Hm (by kernel_rfl) (by kernel_rfl)<|.p I (.ld Y84 I)<|.f I (G78_3 _) Y3 I<|.m I<|.p I (.ad I)<|bK h fun x1 q1 h => .p I (.call I (kC I) I (zaJ _ _ _ _ q1))<|.p I (.ld Y84 I)<|.f I (G78_3 _) Y3 I<|.m I<|.p I (.ad I)<|bK h fun x2 q2 h => .p I (.call I (kC I) I (zaJ _ _ _ _ q2))<|.p I (.ad I)<|.z I<|.nil<|.nil<|.ret (rO h I)
theorem zjb (n : Nat) (t0 : Int) (t1 : List Bool) (r : DGraph × Bool) (h : zcV n t0 t1 = some r) : Pure pg 171 [.int t0, eJ t1] (.tup [DGraph.enc r.1, .bool r.2]) := by
 refine Pure.ot Tryz.func171 I Tryz.ntmps171 I fun A w => .sr<|.allocZ I I I I (.agg Zc194 (ds' := [.int 0, eJ []]) (.e .o1)) I<|.z I<|.nil<|.seq<|.plain 17 I<|.m I<|.m I<|.p I (.castD (DGraph.enc (⟨t0, t1⟩ : DGraph)) I (.build I Pl194 (.agg Zc194 (ds' := [_, _]) (.e .e1)) I I))<|.m I<|.p I (.ge I)<|.m I<|.jA 2 (decide (t0 ≤ 6)) I (fun b1 => ?_) ?_
 ·refine .qm I<|.q I (.le I)<|.nil I
 refine .m I<|.jA 6 ((t1.length : Int) == (mul64 t0 t0)) I (fun b2 => ?_) ?_
 ·refine .qm I<|.q I (.len I U144 I)<|.qm I<|.qm I<|.q I (.ml I)<|.q I (.eq I)<|.nil I
 refine .nil<|.store I I I I I I (.ofD I) C194 I (yd I)<|.z I<|.nil<|.keep [.box 194 [.d (.int t0), .d (eJ t1)]] [4, 5] (.c2 I .nil) I<|.ret ?_
 cases h
 exact zcz I I Y194 (.v .v1) I (.d _)
theorem zgs (n : Nat) (t0 : DGraph) (t1 : Int) (t2 : Int) (r : Bool) (h : zaP n t0 t1 t2 = some r) : Pure pg 209 [DGraph.enc t0, .int t1, .int t2] (.bool r) := by
 refine Pure.ot Tryz.func209 I Tryz.ntmps209 I fun A w => .sr<|.p I (.bx I)<|.z I<|.nil<|.sr<|.f I (zoU _) Y144 I<|.m I<|.f I (zm9 _) Y3 I<|.p I (.ml I)<|.m I<|.p I (.ad I)<|bK h fun x1 q1 h => .p I (.ix I U144 S4 q1)<|.p I (.ld Y4 I)<|.z I<|.nil<|.ret (rO h I)
theorem zkS (n : Nat) (t0 : List Int) (r : Int) (h : zct n t0 = some r) : Pure pg 212 [eA t0] (.int r) := by
 refine Pure.ot Tryz.func212 I Tryz.ntmps212 I fun A w => .sr<|.z I<|.nil<|.sr<|.z I<|.nil<|.seq<|.sr<|.m I<|.p I (.len I U22 I)<|.m I<|.nil<|.block<|.loopS [3, 6, 7] (fun (v : Int) => [(8, .d (.int v))]) (fun (v : Int) => []) (.c2 I<|.c I .nil) h ⟨_, Fz4 I<|Fz2 I<|FzE⟩ (fun _ x5 h => ?_)
 refine .sr<|.p I (.ls I)<|.nil<|.keep [] [3, 6, 7, 8, 9] (.c4 I<|.c I .nil) I<|.seq<|.condS I h (fun h => ?_) fun h => ?_
 ·refine .skip<|.seq<|.block<|.sr<|bK h fun x7 q7 h => .p I (.ix I U22 S3 q7)<|.p I (.ld Y3 I)<|.z I<|.nil<|.sr<|.m I<|.m I<|.p I (.ne I)<|.nil<|.condS I h (fun h => ?_) fun h => ?_
  ·refine .sr<|.m I<|.z I<|.nil<|.ret (rO h I)
  ·refine .skip<|.region<|.p I (.ad I)<|.m I<|.nil ⟨_, h, _, Fz4 I<|Fz2 I<|FzE⟩
 ·refine .exit<|.sr<|.m I<|.z I<|.nil<|.ret (rO h I)
theorem zhg (n : Nat) (t0 : List Int) (t1 : List Int) (r : Int) (h : zbU n t0 t1 = some r) : Pure pg 174 [eA t0, eA t1] (.int r) := by
 refine Pure.ot Tryz.func174 I Tryz.ntmps174 I fun A w => .sr<|.z I<|.nil<|.sr<|.m I<|.p I (.len I U22 I)<|.m I<|.p I (.len I U22 I)<|bK h fun x1 q1 h => .p I (.call I (kC I) I (zei _ _ _ _ q1))<|.m I<|.m I<|bK h fun x2 q2 h => .p I (.call I (kC I) I (zcE _ _ _ _ q2))<|.p I (.buildSl [_, _] I I E22 I (fun _ => I) I (enc := D.int))<|bK h fun x3 q3 h => .p I (.call I (kC I) I (zkS _ _ _ q3))<|.z I<|.nil<|.ret (rO h I)
abbrev LI (l : List Int) : D := .sl 1 (l.map D.int)
abbrev yfn (l : Nat) : D := .fn (.yield l) [] []
abbrev HT (out : List (List Int)) : List Blk := [.box 145 [.vec 1 out.length], .vec 22 1 (out.map LI)]
abbrev HH (g : DGraph) (l : Nat) (out : List (List Int)) : List Blk := [.box 145 [.vec 1 out.length], .vec 22 1 (out.map LI), .box 63 [.fn (.func 208) [] [.d (.ref g.enc), .d (.ref (yfn l)), .loc 2 0]]]
theorem dK208 : callable pg 208 = true := by kernel_rfl
theorem dK172 : callable pg 172 = true := by kernel_rfl
theorem dK173 : callable pg 173 = true := by kernel_rfl
theorem dK174 : callable pg 174 = true := by kernel_rfl
theorem dK171 : callable pg 171 = true := by kernel_rfl
theorem dK209 : callable pg 209 = true := by kernel_rfl
theorem dK49 : callable pg 49 = true := by kernel_rfl
theorem dK29 : callable pg 29 = true := by kernel_rfl
theorem dY63 : zE pg 63 = some none := by kernel_rfl
theorem dY145 : zE pg 145 = some none := by kernel_rfl
theorem dC63 : cellsOf pg 63 = some 1 := by kernel_rfl
theorem dC145 : cellsOf pg 145 = some 1 := by kernel_rfl
theorem dZa63 : zbN pg 63 = some .nilFunc := by kernel_rfl
theorem zpb : zbN pg 145 = some (.slice none 0 0) := by kernel_rfl
theorem dZ194 : zaN pg 194 (some 2) = true := by kernel_rfl
def Tryz.sortLL_ren : Go.Shelf.Ren := ⟨fun | 6 => 173 | 15 => 211 | 14 => 210 | 28 => 234 | 29 => 235 | 20 => 226 | 21 => 227 | 22 => 228 | 23 => 229 | 24 => 230 | 25 => 231 | 26 => 232 | 27 => 233 | 46 => 250 | 47 => 251 | 48 => 252 | 49 => 253 | 50 => 254 | 57 => 264 | n => n, fun | 22 => 145 | 24 => 22 | 25 => 165 | 3 => 3 | 39 => 210 | 0 => 0 | 53 => 235 | 55 => 238 | 4 => 4 | 46 => 248 | 45 => 247 | 50 => 71 | 5 => 5 | 9 => 9 | 66 => 263 | 70 => 170 | 76 => 272 | 77 => 261 | n => n, fun | n => n⟩
theorem Tryz.sortLL : Go.Proofs.SlLaysF.n6 Tryz.prog Tryz.sortLL_ren := {
  mixed := by kernel_rfl
  f6 := ⟨Tryz.f173.name, by decide, Tryz.func173.trans (congrArg some (by kernel_rfl))⟩
  f14 := ⟨Tryz.f210.name, by decide, Tryz.func210.trans (congrArg some (by kernel_rfl))⟩
  f15 := Tryz.func211.trans (congrArg some (by kernel_rfl))
  f20 := ⟨Tryz.f226.name, by decide, Tryz.func226.trans (congrArg some (by kernel_rfl))⟩
  f21 := ⟨Tryz.f227.name, by decide, Tryz.func227.trans (congrArg some (by kernel_rfl))⟩
  f22 := ⟨Tryz.f228.name, by decide, Tryz.func228.trans (congrArg some (by kernel_rfl))⟩
  f23 := ⟨Tryz.f229.name, by decide, Tryz.func229.trans (congrArg some (by kernel_rfl))⟩
  f24 := ⟨Tryz.f230.name, by decide, Tryz.func230.trans (congrArg some (by kernel_rfl))⟩
  f25 := ⟨Tryz.f231.name, by decide, Tryz.func231.trans (congrArg some (by kernel_rfl))⟩
  f26 := ⟨Tryz.f232.name, by decide, Tryz.func232.trans (congrArg some (by kernel_rfl))⟩
  f27 := ⟨Tryz.f233.name, by decide, Tryz.func233.trans (congrArg some (by kernel_rfl))⟩
  f28 := Tryz.func234.trans (congrArg some (by kernel_rfl))
  f29 := Tryz.func235.trans (congrArg some (by kernel_rfl))
  f46 := ⟨Tryz.f250.name, by decide, Tryz.func250.trans (congrArg some (by kernel_rfl))⟩
  f47 := Tryz.func251.trans (congrArg some (by kernel_rfl))
  f48 := Tryz.func252.trans (congrArg some (by kernel_rfl))
  f49 := ⟨Tryz.f253.name, by decide, Tryz.func253.trans (congrArg some (by kernel_rfl))⟩
  f50 := ⟨Tryz.f254.name, by decide, Tryz.func254.trans (congrArg some (by kernel_rfl))⟩
  f57 := ⟨Tryz.f264.name, by decide, Tryz.func264.trans (congrArg some (by kernel_rfl))⟩
  t0 := Tryz.underlying0
  a0 := Tryz.isAgg0
  z0 := Tryz.sizeOf0
  v0 := Tryz.zeroValue0
  t3 := Tryz.underlying3
  a3 := Tryz.isAgg3
  z3 := Tryz.sizeOf3
  v3 := Tryz.zeroValue3
  t4 := Tryz.underlying4
  a4 := Tryz.isAgg4
  z4 := Tryz.sizeOf4
  v4 := Tryz.zeroValue4
  t5 := Tryz.underlying5
  a5 := Tryz.isAgg5
  z5 := Tryz.sizeOf5
  v5 := Tryz.zeroValue5
  t9 := Tryz.underlying9
  a9 := Tryz.isAgg9
  z9 := Tryz.sizeOf9
  v9 := Tryz.zeroValue9
  t22 := Tryz.underlying145
  a22 := Tryz.isAgg145
  z22 := Tryz.sizeOf145
  v22 := Tryz.zeroValue145
  a24 := Tryz.isAgg22
  z24 := Tryz.sizeOf22
  t25 := Tryz.underlying165
  a25 := Tryz.isAgg165
  z25 := Tryz.sizeOf165
  v25 := Tryz.zeroValue165
  t39 := Tryz.underlying210
  a39 := Tryz.isAgg210
  z39 := Tryz.sizeOf210
  v39 := Tryz.zeroValue210
  t45 := Tryz.underlying247
  a45 := Tryz.isAgg247
  z45 := Tryz.sizeOf247
  v45 := Tryz.zeroValue247
  t46 := Tryz.underlying248
  a46 := Tryz.isAgg248
  z46 := Tryz.sizeOf248
  v46 := Tryz.zeroValue248
  t50 := Tryz.underlying71
  a50 := Tryz.isAgg71
  z50 := Tryz.sizeOf71
  v50 := Tryz.zeroValue71
  t53 := Tryz.underlying235
  a53 := Tryz.isAgg235
  z53 := Tryz.sizeOf235
  v53 := Tryz.zeroValue235
  t55 := Tryz.underlying238
  a55 := Tryz.isAgg238
  z55 := Tryz.sizeOf238
  v55 := Tryz.zeroValue238
  t66 := Tryz.underlying263
  a66 := Tryz.isAgg263
  z66 := Tryz.sizeOf263
  v66 := Tryz.zeroValue263
  t70 := Tryz.underlying170
  a70 := Tryz.isAgg170
  z70 := Tryz.sizeOf170
  v70 := Tryz.zeroValue170
  t76 := Tryz.underlying272
  a76 := Tryz.isAgg272
  z76 := Tryz.sizeOf272
  v76 := Tryz.zeroValue272
  t77 := Tryz.underlying261
  a77 := Tryz.isAgg261
  z77 := Tryz.sizeOf261
  v77 := Tryz.zeroValue261 }
theorem dE145 : zbq pg 145 22 1 24 = true := by kernel_rfl
theorem Tri.seqJ [Globs] {P : Program} {C : Ctx} {Q : Exit → St → Prop} {s : St} {x y : Code} (J : St → Prop) (hy : ∀ s, J s → Tri P C y Q s) (hx : Tri P C x (thenQ J Q) s) : Tri P C (.seq x y) Q s :=
 .seq (hx.mono fun e s h => by cases e <;> first | exact hy s h | exact h)
theorem TriL.visit {G : Globs} {g : DGraph} {l : Nat} {rec : Loop} {xs : List Int} {out out2 : List (List Int)} {T1 : List (Nat × V)}
  (IH : ∀ (A0 own0 : Nat → Prop) (w0 : World) (gh : List (V × Value)), Serves ⟨A0, own0, w0, 57, fun _ _ => False, gh, 3, []⟩ l rec T1 → Tri pg ⟨A0, own0, w0, 57, fun _ _ => False, gh, 3, []⟩ (zku pg 208) (retV [.tmp 5] fun v H2 => v = .d (.bool true) ∧ ∃ X, H2 = HH g l out2 ++ X)
   ⟨zdD 0 [.d (LI xs), .d (.ref g.enc), .d (.ref (yfn l)), .loc 2 0], HH g l out⟩)
  {C : Ctx} {ops : Array Oper} {o : Oper} {rest : List Oper} {Q : Exit → St → Prop} {T : List (Nat × V)} {d : Nat} (hg : o.guard = none) (hd : o.dst = some d) (hdn : Nat.blt d C.n = true) (hc : CallV pg o (ev T) 208 [.d (LI xs), .d (.ref g.enc), .d (.ref (yfn l)), .loc 2 0])
  (hu : (T.all fun p => p.2.under 3) = true) (hgn : Nat.ble C.gn 3 = true) (hs : Serves C l rec T1) (hT : Sub ((d, .d (.bool true)) :: T) ((d, .d (.bool true)) :: T))
  (kk : TriL pg C ops rest Q ⟨(d, .d (.bool true)) :: T, HH g l out2⟩) : TriL pg C ops (o :: rest) Q ⟨T, HH g l out⟩ := by
 refine TriL.inlineG (rs := [.tmp 5]) hg (by rw [hd]; simpa [dstOK] using hdn) hc Tryz.func208 rfl Tryz.ntmps208 rfl rfl hu hgn fun own0 w gh h1 h2 => ?_
 have ih := IH C.A0 own0 w gh ⟨h1 _ hs.1, fun q hq => h2 _ (hs.2 q hq)⟩
 rw [zeI Tryz.func208 rfl] at ih
 refine ih.mono fun e s ⟨he, vs, hv, hr, X, hX⟩ => ⟨he, vs, hv, ?_⟩
 rw [hr, hX, hd]
 exact TriL.ge (t := ⟨(d, .d (.bool true)) :: T, HH g l out2⟩) ⟨X, rfl, rfl, by simpa [V.under, uw] using hu, hT⟩ hgn kk
set_option maxRecDepth 10000 in
theorem zl5 {G1 : Globs} [G : Globs] {l : Nat} {rec : Loop} {ia ib ic : Nat} {ra rb : List Oper} (hGs : @Globs.gs G = (l, .loop rec) :: @Globs.gs G1) (hGE : ∀ q ∈ @Globs.gs G1, q.1 ≠ l) (hsub : ∀ p ∈ @Globs.gs globs, p ∈ @Globs.gs G)
  (hrec : rec.state = .ready ∧ rec.pending = none ∧ rec.params = #[19] ∧ rec.tmps.size = 27) (hasg : rec.assign = .region ia ra.toArray false) (hbd : rec.body = .block ib (.region ic rb.toArray false)) (hda : (ra.all zd2) = true) (hdb : (rb.all zd2) = true) (n : Nat) (g : DGraph)
  (hY : ∀ (A0 own0 : Nat → Prop) (w : World) (gh : List (V × Value)) (out out' : List (List Int)) (z : List Int), app 24 out [z] = some out' → @TriL G1 pg ⟨A0, own0, w, 27, fun _ _ => False, gh, 3, []⟩ ra.toArray ra (fun e s1 => e = .normal ∧ ∀ (own0 : Nat → Prop) (w : World),
   @TriL G1 pg ⟨A0, own0, w, 27, fun _ _ => False, gh, 3, []⟩ rb.toArray rb (fun e s2 => e = .normal ∧ s2.H = HH g l out') s1) ⟨(19, .d (LI z)) :: [(7, .loc 0 0)], HH g l out⟩) :
  ∀ (k : Nat) (xs : List Int) (out out2 : List (List Int)), zw n g k xs out = some out2 → ∀ (A0 own0 : Nat → Prop) (w0 : World) (gh : List (V × Value)), Serves ⟨A0, own0, w0, 57, fun _ _ => False, gh, 3, []⟩ l rec [(7, .loc 0 0)] →
   Tri pg ⟨A0, own0, w0, 57, fun _ _ => False, gh, 3, []⟩ (zku pg 208) (retV [.tmp 5] fun v H2 => v = .d (.bool true) ∧ ∃ X, H2 = HH g l out2 ++ X) ⟨zdD 0 [.d (LI xs), .d (.ref g.enc), .d (.ref (yfn l)), .loc 2 0], HH g l out⟩
 | 0, xs, out, out2, h, _, _, _, _, _ => by simp [zw] at h
 | k + 1, xs, out, out2, h, A0, own0, w0, gh, hs => by
  have hasP : ∀ n (g : DGraph) a b r, zaP n g a b = some r → Pure pg 209 [DGraph.enc g, .int a, .int b] (.bool r) := fun _ _ _ _ _ h => Pure.widen hsub (zgs _ _ _ _ _ h)
  have hasP : ∀ n a b r, zaP n g a b = some r → Pure pg 209 [DGraph.enc g, .int a, .int b] (.bool r) := fun n a b r h => hasP n g a b r h
  have contP : ∀ n b r, zay n xs b = some r → Pure pg 49 [eA xs, .int b] (.bool r) := fun _ _ _ h => Pure.widen hsub (zcs _ _ _ _ h)
  have cloneP : ∀ ys zs, app 8 [] ys = some zs → Pure pg 29 [eA ys] (eA zs) := fun _ _ h => zmU Tryz.func29 rfl Tryz.ntmps29 rfl E22 rfl (fun _ => rfl) (fun _ => rfl) h
  have hgn3 : Nat.ble (Ctx.gn ⟨A0, own0, w0, 57, fun _ _ => False, gh, 3, []⟩) 3 = true := rfl
  have IH := zl5 hGs hGE hsub hrec hasg hbd hda hdb n g hY k
  rw [zeI Tryz.func208 rfl]
  simp only [zw] at h
  refine .sr <| .z I <| .nil <| .sr <| .m I <| .m I <| .p I (.len I U22 I) <| .p I (.sb I) <| bK h fun last ql h => .p I (.ix I U22 S3 ql) <| .p I (.ld Y3 I) <| .z I <| .nil ?_
  obtain ⟨first, qf, h⟩ := bindS h
  obtain ⟨e, he, h⟩ := bindS h
  refine Tri.seqJ (fun s => ∃ out1, loopF (zw.l1 n g (zw n g k) xs last) n (add64 first 1, out1) = some out2 ∧ s = ⟨[(0, .d (LI xs)), (1, .d (.ref g.enc)), (2, .d (.ref (yfn l))), (3, .loc 2 0), (6, .d (.int last)), (26, .d (.bool false))], HH g l out1⟩) ?_ ?_
  ·rintro s ⟨out1, h, rfl⟩
   refine .seq <| .seq <| .region <| .m I <| .p I (.ix I U22 S3 qf) <| .p I (.ld Y3 I) <| .p I (.ad I) <| .z I <| .nil ?_
   refine .block <| .loopS [0, 1, 2, 3, 6] (fun (v : Int × List (List Int)) => [(7, .d (.int v.1))]) (fun v => [(0, .box 145 [.vec 1 v.2.length]), (1, .vec 22 1 (v.2.map LI))]) (.c4 I <| .c I .nil) h ⟨_, Fz8 I <| FzE⟩ (fun rec' v h => ?_)
   refine .seq <| .seq <| .region <| .m I <| .p I (.fa I (zm9 _)) <| .p I (.ld Y3 I) <| .p I (.ls I) <| .nil <| .keep (HH g l v.2) [0, 1, 2, 3, 6, 7, 34] (.c4 I <| .c2 I <| .c I .nil) I <| .condS I h (fun h => ?_) fun h => ?_
   ·obtain ⟨e2, he2, h⟩ := bindS h
    refine .skip <| Tri.seqJ (fun s => ∃ out1, rec' (add64 v.1 1, out1) = some out2 ∧ s = ⟨[(0, .d (LI xs)), (1, .d (.ref g.enc)), (2, .d (.ref (yfn l))), (3, .loc 2 0), (6, .d (.int last)), (7, .d (.int v.1)), (56, .d (.bool false))], HH g l out1⟩) ?_ ?_
    ·rintro s ⟨out1, h, rfl⟩
     refine .region <| .m I <| .p I (.ad I) <| .z I <| .nil ⟨_, h, ⟨_, Fz8 I <| FzE⟩⟩
    refine .block <| .seq <| .drawI 20 Hm I ?_
    cases e2 with
    | false =>
     rw [if_neg (by simp)] at h
     refine .first 1 rfl (by decide +kernel) rfl (.none rfl) ?_
     refine .first 2 rfl (by decide +kernel) rfl (.none rfl) ?_
     refine .step 0 [] (by decide +kernel) (.cons (i := 0) rfl (OneI.of rfl (.p I (.ld Y194 I) (.nil ⟨rfl, rfl⟩))) ?_ .nil)
     refine .step 3 [] (by decide +kernel) (.cons (i := 3) rfl (OneI.of rfl (.p I (.call I dK209 I (hasP _ _ _ _ he2)) (.nil ⟨rfl, rfl⟩))) ?_ .nil)
     refine .first 4 rfl (by decide +kernel) rfl (.none rfl) ?_
     refine .skip 5 rfl (by decide +kernel) rfl rfl (.some rfl) ?_
     refine .skip 6 rfl (by decide +kernel) rfl rfl (.some rfl) ?_
     refine .step 7 [] (by decide +kernel) (.cons (i := 7) rfl (OneI.no rfl (.some rfl)) ?_ .nil)
     refine .skip 8 rfl (by decide +kernel) rfl rfl (.some rfl) ?_
     refine .step 9 [] (by decide +kernel) (.cons (i := 9) rfl (OneI.of rfl (.p I (.pick (b := false) (v := .d (.bool false)) I I (fun h => by cases h) (fun _ => rfl)) (.nil ⟨rfl, rfl⟩))) ?_ .nil)
     refine .first 10 rfl (by decide +kernel) rfl (.none rfl) ?_
     refine .skip 11 rfl (by decide +kernel) rfl rfl (.some rfl) ?_
     refine .skip 12 rfl (by decide +kernel) rfl rfl (.some rfl) ?_
     refine .skip 14 rfl (by decide +kernel) rfl rfl (.some rfl) ?_
     refine .skip 15 rfl (by decide +kernel) rfl rfl (.some rfl) ?_
     refine .step 13 [] (by decide +kernel) (.cons (i := 13) rfl (OneI.no rfl (.some rfl)) ?_ .nil)
     refine .step 16 [] (by decide +kernel) (.cons (i := 16) rfl (OneI.no rfl (.some rfl)) ?_ .nil)
     refine .step 17 [] (by decide +kernel) (.cons (i := 17) rfl (OneI.no rfl (.some rfl)) ?_ .nil)
     refine .skip 18 rfl (by decide +kernel) rfl rfl (.some rfl) ?_
     refine .step 19 [] (by decide +kernel) (.cons (i := 19) rfl (OneI.of rfl (.p I (.pick (b := false) (v := .d (.bool false)) I I (fun h => by cases h) (fun _ => rfl)) (.nil ⟨rfl, rfl⟩))) ?_ .nil)
     refine .done (by decide +kernel) ?_
     refine .keep (HH g l v.2) [0, 1, 2, 3, 6, 7, 56] (.c4 I <| .c2 I <| .c I .nil) I ?_
     refine .cond (t := false) rfl (fun h => by cases h) (fun _ => .skip ?_)
     exact ⟨_, h, rfl⟩
    | true =>
     rw [if_pos rfl] at h
     obtain ⟨f, hf, h⟩ := bindS h
     cases f with
     | true =>
      rw [if_pos rfl] at h
      refine .first 1 rfl (by decide +kernel) rfl (.none rfl) ?_
      refine .first 2 rfl (by decide +kernel) rfl (.none rfl) ?_
      refine .step 0 [] (by decide +kernel) (.cons (i := 0) rfl (OneI.of rfl (.p I (.ld Y194 I) (.nil ⟨rfl, rfl⟩))) ?_ .nil)
      refine .step 3 [] (by decide +kernel) (.cons (i := 3) rfl (OneI.of rfl (.p I (.call I dK209 I (hasP _ _ _ _ he2)) (.nil ⟨rfl, rfl⟩))) ?_ .nil)
      refine .first 4 rfl (by decide +kernel) rfl (.none rfl) ?_
      refine .first 5 rfl (by decide +kernel) rfl (.some rfl) ?_
      refine .first 6 rfl (by decide +kernel) rfl (.some rfl) ?_
      refine .step 7 [] (by decide +kernel) (.cons (i := 7) rfl (OneI.ofG rfl (.some rfl) (.p I (.call I dK49 I (contP _ _ _ hf)) (.nil ⟨rfl, rfl⟩))) ?_ .nil)
      refine .step 8 [] (by decide +kernel) (.cons (i := 8) rfl (OneI.ofG rfl (.some rfl) (.p I (.nt I) (.nil ⟨rfl, rfl⟩))) ?_ .nil)
      refine .step 9 [] (by decide +kernel) (.cons (i := 9) rfl (OneI.of rfl (.p I (.pick (b := true) (v := .d (.bool false)) I I (fun _ => rfl) (fun h => by cases h)) (.nil ⟨rfl, rfl⟩))) ?_ .nil)
      refine .first 10 rfl (by decide +kernel) rfl (.none rfl) ?_
      refine .skip 11 rfl (by decide +kernel) rfl rfl (.some rfl) ?_
      refine .skip 12 rfl (by decide +kernel) rfl rfl (.some rfl) ?_
      refine .skip 14 rfl (by decide +kernel) rfl rfl (.some rfl) ?_
      refine .skip 15 rfl (by decide +kernel) rfl rfl (.some rfl) ?_
      refine .step 13 [] (by decide +kernel) (.cons (i := 13) rfl (OneI.no rfl (.some rfl)) ?_ .nil)
      refine .step 16 [] (by decide +kernel) (.cons (i := 16) rfl (OneI.no rfl (.some rfl)) ?_ .nil)
      refine .step 17 [] (by decide +kernel) (.cons (i := 17) rfl (OneI.no rfl (.some rfl)) ?_ .nil)
      refine .skip 18 rfl (by decide +kernel) rfl rfl (.some rfl) ?_
      refine .step 19 [] (by decide +kernel) (.cons (i := 19) rfl (OneI.of rfl (.p I (.pick (b := false) (v := .d (.bool false)) I I (fun h => by cases h) (fun _ => rfl)) (.nil ⟨rfl, rfl⟩))) ?_ .nil)
      refine .done (by decide +kernel) ?_
      refine .keep (HH g l v.2) [0, 1, 2, 3, 6, 7, 56] (.c4 I <| .c2 I <| .c I .nil) I ?_
      refine .cond (t := false) rfl (fun h => by cases h) (fun _ => .skip ?_)
      exact ⟨_, h, rfl⟩
     | false =>
      rw [if_neg (by simp)] at h
      obtain ⟨c2, hc2, h⟩ := bindS h
      obtain ⟨l2, hl2, h⟩ := bindS h
      obtain ⟨out3, ho3, h⟩ := bindS h
      refine TriI.via 3 #[true, true, true, true, true, true, true, true, true, true, true, true, true, true, true, true, true, false, false, false] ⟨[(0, .d (LI xs)), (1, .d (.ref g.enc)), (2, .d (.ref (yfn l))), (3, .loc 2 0), (6, .d (.int last)), (7, .d (.int v.1)), (47, .d (.bool true)), (48, .fn (.func 208) [] [.d (.ref g.enc), .d (.ref (yfn l)), .loc 2 0]), (53, .d (LI l2))], HH g l v.2⟩ ?_ fun tail => ?_
      ·have visitCall : ∀ {C : Ctx} {ops : Array Oper} {o : Oper} {rest : List Oper} {Q : Exit → St → Prop} {T : List (Nat × V)} {d : Nat}, o.guard = none → o.dst = some d → Nat.blt d C.n = true → CallV pg o (ev T) 208 [.d (LI l2), .d (.ref g.enc), .d (.ref (yfn l)), .loc 2 0] → (T.all fun p => p.2.under 3) = true → Nat.ble C.gn 3 = true →
         Serves C l rec [(7, .loc 0 0)] → Sub ((d, .d (.bool true)) :: T) ((d, .d (.bool true)) :: T) → TriL pg C ops rest Q ⟨(d, .d (.bool true)) :: T, HH g l out3⟩ → TriL pg C ops (o :: rest) Q ⟨T, HH g l v.2⟩ := fun a1 a2 a3 a4 a5 a6 a7 a8 a9 => TriL.visit (IH _ _ _ ho3) a1 a2 a3 a4 a5 a6 a7 a8 a9
       refine .step 17 [] (by decide +kernel) (.cons (i := 17) rfl (OneI.ofG rfl (.some rfl) (visitCall rfl rfl rfl (CallV.clos (xs := [.d (LI l2)]) (caps := [.d (.ref g.enc), .d (.ref (yfn l)), .loc 2 0]) rfl rfl dK208 rfl) rfl rfl hs (Fz8 I <| Fz2 I trivial) (.nil ⟨rfl, rfl⟩))) ?_ .nil)
       refine .step 18 [] (by decide +kernel) (.cons (i := 18) rfl (OneI.ofG rfl (.some rfl) (.p I (.nt I) (.nil ⟨rfl, rfl⟩))) ?_ .nil)
       refine .step 19 [] (by decide +kernel) (.cons (i := 19) rfl (OneI.of rfl (.p I (.pick (b := true) (v := .d (.bool false)) I I (fun _ => rfl) (fun h => by cases h)) (.nil ⟨rfl, rfl⟩))) ?_ .nil)
       refine .done (by decide +kernel) ?_
       refine .keep (HH g l out3) [0, 1, 2, 3, 6, 7, 56] (.c4 I <| .c2 I <| .c I .nil) I ?_
       refine .cond (t := false) rfl (fun h => by cases h) (fun _ => .skip ?_)
       exact ⟨_, h, rfl⟩
      refine .first 1 rfl (by decide +kernel) rfl (.none rfl) ?_
      refine .first 2 rfl (by decide +kernel) rfl (.none rfl) ?_
      refine .step 0 [] (by decide +kernel) (.cons (i := 0) rfl (OneI.of rfl (.p I (.ld Y194 I) (.nil ⟨rfl, rfl⟩))) ?_ .nil)
      refine .step 3 [] (by decide +kernel) (.cons (i := 3) rfl (OneI.of rfl (.p I (.call I dK209 I (hasP _ _ _ _ he2)) (.nil ⟨rfl, rfl⟩))) ?_ .nil)
      refine .first 4 rfl (by decide +kernel) rfl (.none rfl) ?_
      refine .first 5 rfl (by decide +kernel) rfl (.some rfl) ?_
      refine .first 6 rfl (by decide +kernel) rfl (.some rfl) ?_
      refine .step 7 [] (by decide +kernel) (.cons (i := 7) rfl (OneI.ofG rfl (.some rfl) (.p I (.call I dK49 I (contP _ _ _ hf)) (.nil ⟨rfl, rfl⟩))) ?_ .nil)
      refine .step 8 [] (by decide +kernel) (.cons (i := 8) rfl (OneI.ofG rfl (.some rfl) (.p I (.nt I) (.nil ⟨rfl, rfl⟩))) ?_ .nil)
      refine .step 9 [] (by decide +kernel) (.cons (i := 9) rfl (OneI.of rfl (.p I (.pick (b := true) (v := .d (.bool true)) I I (fun _ => rfl) (fun h => by cases h)) (.nil ⟨rfl, rfl⟩))) ?_ .nil)
      refine .first 10 rfl (by decide +kernel) rfl (.none rfl) ?_
      refine .first 12 rfl (by decide +kernel) rfl (.some rfl) ?_
      refine .first 14 rfl (by decide +kernel) rfl (.some rfl) ?_
      refine .step 11 [13, 15] (by decide +kernel) (.cons (i := 11) rfl (OneI.ofG rfl (.some rfl) (.p I (.loadLoc1 I I I dY63 I) (.nil ⟨rfl, rfl⟩))) ?_ (.cons (i := 13) rfl (OneI.ofG rfl (.some rfl) (.clone I I I I dK29 Tryz.func29 I Tryz.ntmps29 I I E22 I (fun _ => I) (fun _ => I) hc2 I hgn3 (.nil ⟨rfl, rfl⟩))) ?_ (.cons (i := 15) rfl (OneI.ofG rfl (.some rfl) (.p I (.buildSl [_] I I E22 I (fun _ => I) I (enc := D.int)) (.nil ⟨rfl, rfl⟩))) ?_ .nil)))
      ·refine .step 13 [15] (by decide +kernel) (.cons (i := 13) rfl (OneI.ofG rfl (.some rfl) (.clone I I I I dK29 Tryz.func29 I Tryz.ntmps29 I I E22 I (fun _ => I) (fun _ => I) hc2 I hgn3 (.nil ⟨rfl, rfl⟩))) ?_ (.cons (i := 15) rfl (OneI.ofG rfl (.some rfl) (.p I (.buildSl [_] I I E22 I (fun _ => I) I (enc := D.int)) (.nil ⟨rfl, rfl⟩))) ?_ .nil))
       ·refine .step 15 [] (by decide +kernel) (.cons (i := 15) rfl (OneI.ofG rfl (.some rfl) (.p I (.buildSl [_] I I E22 I (fun _ => I) I (enc := D.int)) (.nil ⟨rfl, rfl⟩))) ?_ .nil)
        refine .step 16 [] (by decide +kernel) (.cons (i := 16) rfl (OneI.ofG rfl (.some rfl) (.app I I I I I I I I E22 I (fun _ => I) hl2 (.freezes [3] (.cons (t := 53) rfl (.vec (inIds rfl) rfl (by simp)) .nil) (.nil ⟨rfl, rfl⟩)))) ?_ .nil)
        exact .keepT [0, 1, 2, 3, 6, 7, 47, 48, 53] (.c8 I <| .c I .nil) (.cut (HH g l v.2) ⟨_, rfl⟩ rfl rfl (Fz8 I <| FzE) hgn3 (.to _ (by decide +kernel) tail))
       ·refine .step 13 [] (by decide +kernel) (.cons (i := 13) rfl (OneI.ofG rfl (.some rfl) (.clone I I I I dK29 Tryz.func29 I Tryz.ntmps29 I I E22 I (fun _ => I) (fun _ => I) hc2 I hgn3 (.nil ⟨rfl, rfl⟩))) ?_ .nil)
        refine .step 16 [] (by decide +kernel) (.cons (i := 16) rfl (OneI.ofG rfl (.some rfl) (.app I I I I I I I I E22 I (fun _ => I) hl2 (.freezes [3] (.cons (t := 53) rfl (.vec (inIds rfl) rfl (by simp)) .nil) (.nil ⟨rfl, rfl⟩)))) ?_ .nil)
        exact .keepT [0, 1, 2, 3, 6, 7, 47, 48, 53] (.c8 I <| .c I .nil) (.cut (HH g l v.2) ⟨_, rfl⟩ rfl rfl (Fz8 I <| FzE) hgn3 (.to _ (by decide +kernel) tail))
      ·refine .step 11 [15] (by decide +kernel) (.cons (i := 11) rfl (OneI.ofG rfl (.some rfl) (.p I (.loadLoc1 I I I dY63 I) (.nil ⟨rfl, rfl⟩))) ?_ (.cons (i := 15) rfl (OneI.ofG rfl (.some rfl) (.p I (.buildSl [_] I I E22 I (fun _ => I) I (enc := D.int)) (.nil ⟨rfl, rfl⟩))) ?_ .nil))
       ·refine .step 15 [] (by decide +kernel) (.cons (i := 15) rfl (OneI.ofG rfl (.some rfl) (.p I (.buildSl [_] I I E22 I (fun _ => I) I (enc := D.int)) (.nil ⟨rfl, rfl⟩))) ?_ .nil)
        refine .step 16 [] (by decide +kernel) (.cons (i := 16) rfl (OneI.ofG rfl (.some rfl) (.app I I I I I I I I E22 I (fun _ => I) hl2 (.freezes [3] (.cons (t := 53) rfl (.vec (inIds rfl) rfl (by simp)) .nil) (.nil ⟨rfl, rfl⟩)))) ?_ .nil)
        exact .keepT [0, 1, 2, 3, 6, 7, 47, 48, 53] (.c8 I <| .c I .nil) (.cut (HH g l v.2) ⟨_, rfl⟩ rfl rfl (Fz8 I <| FzE) hgn3 (.to _ (by decide +kernel) tail))
       ·refine .step 11 [16] (by decide +kernel) (.cons (i := 11) rfl (OneI.ofG rfl (.some rfl) (.p I (.loadLoc1 I I I dY63 I) (.nil ⟨rfl, rfl⟩))) ?_ (.cons (i := 16) rfl (OneI.ofG rfl (.some rfl) (.app I I I I I I I I E22 I (fun _ => I) hl2 (.freezes [3] (.cons (t := 53) rfl (.vec (inIds rfl) rfl (by simp)) .nil) (.nil ⟨rfl, rfl⟩)))) ?_ .nil))
        ·refine .step 16 [] (by decide +kernel) (.cons (i := 16) rfl (OneI.ofG rfl (.some rfl) (.app I I I I I I I I E22 I (fun _ => I) hl2 (.freezes [3] (.cons (t := 53) rfl (.vec (inIds rfl) rfl (by simp)) .nil) (.nil ⟨rfl, rfl⟩)))) ?_ .nil)
         exact .keepT [0, 1, 2, 3, 6, 7, 47, 48, 53] (.c8 I <| .c I .nil) (.cut (HH g l v.2) ⟨_, rfl⟩ rfl rfl (Fz8 I <| FzE) hgn3 (.to _ (by decide +kernel) tail))
        ·refine .step 11 [] (by decide +kernel) (.cons (i := 11) rfl (OneI.ofG rfl (.some rfl) (.p I (.loadLoc1 I I I dY63 I) (.nil ⟨rfl, rfl⟩))) ?_ .nil)
         exact .keepT [0, 1, 2, 3, 6, 7, 47, 48, 53] (.c8 I <| .c I .nil) (.cut (HH g l v.2) ⟨_, rfl⟩ rfl rfl (Fz8 I <| FzE) hgn3 (.to _ (by decide +kernel) tail))
      ·refine .step 11 [13] (by decide +kernel) (.cons (i := 11) rfl (OneI.ofG rfl (.some rfl) (.p I (.loadLoc1 I I I dY63 I) (.nil ⟨rfl, rfl⟩))) ?_ (.cons (i := 13) rfl (OneI.ofG rfl (.some rfl) (.clone I I I I dK29 Tryz.func29 I Tryz.ntmps29 I I E22 I (fun _ => I) (fun _ => I) hc2 I hgn3 (.nil ⟨rfl, rfl⟩))) ?_ .nil))
       ·refine .step 13 [] (by decide +kernel) (.cons (i := 13) rfl (OneI.ofG rfl (.some rfl) (.clone I I I I dK29 Tryz.func29 I Tryz.ntmps29 I I E22 I (fun _ => I) (fun _ => I) hc2 I hgn3 (.nil ⟨rfl, rfl⟩))) ?_ .nil)
        refine .step 16 [] (by decide +kernel) (.cons (i := 16) rfl (OneI.ofG rfl (.some rfl) (.app I I I I I I I I E22 I (fun _ => I) hl2 (.freezes [3] (.cons (t := 53) rfl (.vec (inIds rfl) rfl (by simp)) .nil) (.nil ⟨rfl, rfl⟩)))) ?_ .nil)
        exact .keepT [0, 1, 2, 3, 6, 7, 47, 48, 53] (.c8 I <| .c I .nil) (.cut (HH g l v.2) ⟨_, rfl⟩ rfl rfl (Fz8 I <| FzE) hgn3 (.to _ (by decide +kernel) tail))
       ·refine .step 11 [16] (by decide +kernel) (.cons (i := 11) rfl (OneI.ofG rfl (.some rfl) (.p I (.loadLoc1 I I I dY63 I) (.nil ⟨rfl, rfl⟩))) ?_ (.cons (i := 16) rfl (OneI.ofG rfl (.some rfl) (.app I I I I I I I I E22 I (fun _ => I) hl2 (.freezes [3] (.cons (t := 53) rfl (.vec (inIds rfl) rfl (by simp)) .nil) (.nil ⟨rfl, rfl⟩)))) ?_ .nil))
        ·refine .step 16 [] (by decide +kernel) (.cons (i := 16) rfl (OneI.ofG rfl (.some rfl) (.app I I I I I I I I E22 I (fun _ => I) hl2 (.freezes [3] (.cons (t := 53) rfl (.vec (inIds rfl) rfl (by simp)) .nil) (.nil ⟨rfl, rfl⟩)))) ?_ .nil)
         exact .keepT [0, 1, 2, 3, 6, 7, 47, 48, 53] (.c8 I <| .c I .nil) (.cut (HH g l v.2) ⟨_, rfl⟩ rfl rfl (Fz8 I <| FzE) hgn3 (.to _ (by decide +kernel) tail))
        ·refine .step 11 [] (by decide +kernel) (.cons (i := 11) rfl (OneI.ofG rfl (.some rfl) (.p I (.loadLoc1 I I I dY63 I) (.nil ⟨rfl, rfl⟩))) ?_ .nil)
         exact .keepT [0, 1, 2, 3, 6, 7, 47, 48, 53] (.c8 I <| .c I .nil) (.cut (HH g l v.2) ⟨_, rfl⟩ rfl rfl (Fz8 I <| FzE) hgn3 (.to _ (by decide +kernel) tail))
   ·cases h
    refine .exit <| .sr <| .z I <| .nil <| .ret ⟨.inl rfl, [.d (.bool true)], ⟨_, [], rfl, rfl, rfl⟩, rfl, [], rfl⟩
  ·refine .seq <| .drawI 13 Hm I ?_
   refine TriI.via 8 #[true, true, true, true, true, false, false, false, false, false, false, false, false] ⟨[(0, .d (LI xs)), (1, .d (.ref g.enc)), (2, .d (.ref (yfn l))), (3, .loc 2 0), (6, .d (.int last)), (14, .d g.enc), (15, .d (.int last)), (18, .d (.int first))], HH g l out⟩ ?_ fun tail => ?_
   ·cases e with
    | false =>
     rw [if_neg (by simp)] at h
     refine .step 5 [] (by decide +kernel) (.cons (i := 5) rfl (OneI.of rfl (.p I (.call I dK209 I (hasP _ _ _ _ he)) (.nil ⟨rfl, rfl⟩))) ?_ .nil)
     refine .first 6 rfl (by decide +kernel) rfl (.none rfl) ?_
     refine .skip 7 rfl (by decide +kernel) rfl rfl (.some rfl) ?_
     refine .skip 8 rfl (by decide +kernel) rfl rfl (.some rfl) ?_
     refine .step 9 [] (by decide +kernel) (.cons (i := 9) rfl (OneI.no rfl (.some rfl)) ?_ .nil)
     refine .step 10 [] (by decide +kernel) (.cons (i := 10) rfl (OneI.no rfl (.some rfl)) ?_ .nil)
     refine .skip 11 rfl (by decide +kernel) rfl rfl (.some rfl) ?_
     refine .step 12 [] (by decide +kernel) (.cons (i := 12) rfl (OneI.of rfl (.p I (.pick (b := false) (v := .d (.bool false)) I I (fun h => by cases h) (fun _ => rfl)) (.nil ⟨rfl, rfl⟩))) ?_ .nil)
     refine .done (by decide +kernel) ?_
     refine .keep (HH g l out) [0, 1, 2, 3, 6, 26] (.c4 I <| .c2 I .nil) I ?_
     refine .cond (t := false) rfl (fun h => by cases h) (fun _ => .skip ?_)
     exact ⟨_, h, rfl⟩
    | true =>
     rw [if_pos rfl] at h
     obtain ⟨c, hc, h⟩ := bindS h
     obtain ⟨out1, ho1, h⟩ := bindS h
     refine TriI.via 3 #[true, true, true, true, true, true, true, true, true, true, false, false, false] ⟨[(0, .d (LI xs)), (1, .d (.ref g.enc)), (2, .d (.ref (yfn l))), (3, .loc 2 0), (6, .d (.int last)), (20, .d (.bool true)), (21, .d (yfn l)), (23, .d (LI c))], HH g l out⟩ ?_ fun tail2 => ?_
     ·have yieldBody := fun own0 w gh => hY A0 own0 w gh out out1 c ho1
      refine .step 10 [] (by decide +kernel) (.cons (i := 10) rfl (OneI.yield (G1 := G1) hGs hGE hrec hasg hbd hda hdb hs rfl rfl rfl rfl rfl rfl rfl (.some rfl) rfl rfl fun own0 w gh => yieldBody own0 w gh) ?_ .nil)
      refine .step 11 [] (by decide +kernel) (.cons (i := 11) rfl (OneI.ofG rfl (.some rfl) (.p I (.nt I) (.nil ⟨rfl, rfl⟩))) ?_ .nil)
      refine .step 12 [] (by decide +kernel) (.cons (i := 12) rfl (OneI.of rfl (.p I (.pick (b := true) (v := .d (.bool false)) I I (fun _ => rfl) (fun h => by cases h)) (.nil ⟨rfl, rfl⟩))) ?_ .nil)
      refine .done (by decide +kernel) ?_
      refine .keep (HH g l out1) [0, 1, 2, 3, 6, 26] (.c4 I <| .c2 I .nil) I ?_
      refine .cond (t := false) rfl (fun h => by cases h) (fun _ => .skip ?_)
      exact ⟨_, h, rfl⟩
     refine .step 5 [] (by decide +kernel) (.cons (i := 5) rfl (OneI.of rfl (.p I (.call I dK209 I (hasP _ _ _ _ he)) (.nil ⟨rfl, rfl⟩))) ?_ .nil)
     refine .first 6 rfl (by decide +kernel) rfl (.none rfl) ?_
     refine .first 8 rfl (by decide +kernel) rfl (.some rfl) ?_
     refine .step 7 [9] (by decide +kernel) (.cons (i := 7) rfl (OneI.ofG rfl (.some rfl) (.p I (.ld dY63 I) (.nil ⟨rfl, rfl⟩))) ?_ (.cons (i := 9) rfl (OneI.ofG rfl (.some rfl) (.p I (.call I dK29 I (cloneP _ _ hc)) (.nil ⟨rfl, rfl⟩))) ?_ .nil))
     ·refine .step 9 [] (by decide +kernel) (.cons (i := 9) rfl (OneI.ofG rfl (.some rfl) (.p I (.call I dK29 I (cloneP _ _ hc)) (.nil ⟨rfl, rfl⟩))) ?_ .nil)
      exact .keepT [0, 1, 2, 3, 6, 20, 21, 23] (.c8 I .nil) (.to _ (by decide +kernel) tail2)
     ·refine .step 7 [] (by decide +kernel) (.cons (i := 7) rfl (OneI.ofG rfl (.some rfl) (.p I (.ld dY63 I) (.nil ⟨rfl, rfl⟩))) ?_ .nil)
      exact .keepT [0, 1, 2, 3, 6, 20, 21, 23] (.c8 I .nil) (.to _ (by decide +kernel) tail2)
   refine .first 1 rfl (by decide +kernel) rfl (.none rfl) ?_
   refine .first 2 rfl (by decide +kernel) rfl (.none rfl) ?_
   refine .step 0 [3] (by decide +kernel) (.cons (i := 0) rfl (OneI.of rfl (.p I (.ld Y194 I) (.nil ⟨rfl, rfl⟩))) ?_ (.cons (i := 3) rfl (OneI.of rfl (.p I (.ix I U22 S3 qf) (.nil ⟨rfl, rfl⟩))) ?_ .nil))
   ·refine .step 3 [] (by decide +kernel) (.cons (i := 3) rfl (OneI.of rfl (.p I (.ix I U22 S3 qf) (.nil ⟨rfl, rfl⟩))) ?_ .nil)
    refine .step 4 [] (by decide +kernel) (.cons (i := 4) rfl (OneI.of rfl (.p I (.ld Y3 I) (.nil ⟨rfl, rfl⟩))) ?_ .nil)
    exact .keepT [0, 1, 2, 3, 6, 14, 15, 18] (.c8 I .nil) (.to _ (by decide +kernel) tail)
   ·refine .step 0 [4] (by decide +kernel) (.cons (i := 0) rfl (OneI.of rfl (.p I (.ld Y194 I) (.nil ⟨rfl, rfl⟩))) ?_ (.cons (i := 4) rfl (OneI.of rfl (.p I (.ld Y3 I) (.nil ⟨rfl, rfl⟩))) ?_ .nil))
    ·refine .step 4 [] (by decide +kernel) (.cons (i := 4) rfl (OneI.of rfl (.p I (.ld Y3 I) (.nil ⟨rfl, rfl⟩))) ?_ .nil)
     exact .keepT [0, 1, 2, 3, 6, 14, 15, 18] (.c8 I .nil) (.to _ (by decide +kernel) tail)
    ·refine .step 0 [] (by decide +kernel) (.cons (i := 0) rfl (OneI.of rfl (.p I (.ld Y194 I) (.nil ⟨rfl, rfl⟩))) ?_ .nil)
     exact .keepT [0, 1, 2, 3, 6, 14, 15, 18] (.c8 I .nil) (.to _ (by decide +kernel) tail)
theorem zmW {G1 : Globs} [G : Globs] {l : Nat} {rec : Loop} {ia ib ic : Nat} {ra rb : List Oper} (hGs : @Globs.gs G = (l, .loop rec) :: @Globs.gs G1) (hGE : ∀ q ∈ @Globs.gs G1, q.1 ≠ l) (hsub : ∀ p ∈ @Globs.gs globs, p ∈ @Globs.gs G)
  (hrec : rec.state = .ready ∧ rec.pending = none ∧ rec.params = #[19] ∧ rec.tmps.size = 27) (hasg : rec.assign = .region ia ra.toArray false) (hbd : rec.body = .block ib (.region ic rb.toArray false)) (hda : (ra.all zd2) = true) (hdb : (rb.all zd2) = true) (n : Nat) (g : DGraph)
  (hY : ∀ (A0 own0 : Nat → Prop) (w : World) (gh : List (V × Value)) (out out' : List (List Int)) (z : List Int), app 24 out [z] = some out' → @TriL G1 pg ⟨A0, own0, w, 27, fun _ _ => False, gh, 3, []⟩ ra.toArray ra (fun e s1 => e = .normal ∧ ∀ (own0 : Nat → Prop) (w : World),
   @TriL G1 pg ⟨A0, own0, w, 27, fun _ _ => False, gh, 3, []⟩ rb.toArray rb (fun e s2 => e = .normal ∧ s2.H = HH g l out') s1) ⟨(19, .d (LI z)) :: [(7, .loc 0 0)], HH g l out⟩)
  (out : List (List Int)) (h : loopF (digraph_cycles.l1 n g) n (0, []) = some out) (A0 own0 : Nat → Prop) (w0 : World) (gh : List (V × Value)) (hs : Serves ⟨A0, own0, w0, 18, fun _ _ => False, gh, 2, []⟩ l rec [(7, .loc 0 0)]) :
  Tri pg ⟨A0, own0, w0, 18, fun _ _ => False, gh, 2, []⟩ (zku pg 172) (retV [] fun _ H2 => ∃ X, H2 = HT out ++ X) ⟨zdD 0 [.d g.enc, .d (yfn l)], HT []⟩ := by
 rw [zeI Tryz.func172 rfl]
 refine .sr <| .p I (.bx I) <| .p I (.bx I) <| .nil <| .sr <| .alloc I I I I dZa63 <| .nil <| .sr <| .p I (.makeFuncV I I) <| .store I I I I I I (.cons .fn .nil) dC63 I (yd I) <| .nil <| .sr <| .p I (.fa I (zm9 _)) <| .p I (.ld Y3 I) <| .m I <| .nil ?_
 refine .block <| .loopS [2, 3, 4, 8] (fun (v : Int × List (List Int)) => [(9, .d (.int v.1))]) (fun v => [(0, .box 145 [.vec 1 v.2.length]), (1, .vec 22 1 (v.2.map LI))]) (.c4 I .nil) h ⟨_, Fz8 I trivial⟩ (fun rec' v h => ?_)
 refine .sr <| .p I (.ls I) <| .nil <| .keep (HH g l v.2) [2, 3, 4, 8, 9, 10] (.c4 I <| .c2 I .nil) I <| .seq <| .condS I h (fun h => ?_) fun h => ?_
 ·obtain ⟨out3, ho3, h⟩ := bindS h
  refine .skip <| .seq <| .block <| .sr <| .m I <| .z I <| .nil <| .sr <| .p I (.loadLoc1 I I I dY63 I) <| .m I <| .p I (.buildSl [_] I I E22 I (fun _ => I) I (enc := D.int)) <| TriL.visit (zl5 hGs hGE hsub hrec hasg hbd hda hdb n g hY n _ _ _ ho3) I I I (CallV.clos (xs := [.d (LI [v.1])]) (caps := [.d (.ref g.enc), .d (.ref (yfn l)), .loc 2 0]) I I dK208 I) I I hs (by repeat (first | exact trivial | refine ⟨rfl, ?_⟩)) <| .p I (.nt I) <| .nil ?_
  refine .cond (t := false) rfl (fun h => by cases h) (fun _ => .skip ?_)
  refine .region <| .p I (.ad I) <| .m I <| .nil ⟨_, h, ⟨_, Fz8 I trivial⟩⟩
 ·cases h
  refine .exit ?_
  exact ⟨.inr rfl, [], rfl, _, rfl⟩
theorem zhW (n : Nat) (t0 : Int) (t1 : List Bool) (r : List (List Int)) (h : zbl n t0 t1 = some r) : Pure pg 114 [.int t0, eJ t1] (eN r) := by
 unfold zbl at h
 obtain ⟨o, ho, h⟩ := bindS h
 refine Pure.of_triM Tryz.func114 rfl (by rw [Tryz.ntmps114]; simp) fun A w => ?_
 rw [Tryz.ntmps114]
 refine .sr <| .p I (.nilS 1 (α := List Int) LI I) <| .nil <| .sr <| .m I <| .m I <| .p I (.call I dK171 I (zjb _ _ _ _ ho)) <| .m I <| .p I (.extract I I I) <| .p I (.extract I I I) <| .allocStore I I I I I I I I (by simp) I I dZ194 <| .z I <| .nil ?_
 refine .seq <| .sr <| .m I <| .p I (.nt I) <| .nil <| .condS I h (fun h => ?_) fun h => ?_
 ·refine .sr <| .p I (.nilS 1 (α := List Int) LI I) <| .nil <| .ret ?_
  cases h
  exact zbv I (.d _)
 obtain ⟨out, ho2, hsort⟩ := bindS h
 refine .skip <| .sr <| .alloc I I I I zpb <| .nilCell 0 0 1 22 rfl rfl <| .nil <| .keep (HT []) [5, 7] (.c2 I .nil) I ?_
 refine Tri.rangeFunc (K := fun H2 => ∃ X, H2 = HT out ++ X) (.region <| .p I (.ld Y194 I) <| .p I (.makeFunc1 I I) <| .nil ⟨rfl, rfl⟩) rfl dK172 Tryz.func172 rfl Tryz.ntmps172 rfl rfl rfl ?_ ?_
 ·intro l Dd rec own0 w1 gh G' hne hG' hGl hrec hasg hbd hown hgh
  obtain ⟨G1, hG1⟩ : ∃ G1 : Globs, @Globs.gs G1 = (Dd, .deferred (some [])) :: @Globs.gs globs := ⟨⟨_⟩, rfl⟩
  have hGs : @Globs.gs G' = (l, .loop rec) :: @Globs.gs G1 := by rw [hG', hG1]
  have ct := @zmW G1 G' l rec _ _ _ _ _ hGs (fun q hq => by
   rw [hG1] at hq
   rcases yM.1 hq with rfl | hq
   ·exact fun e => hne e.symm
   ·exact hGl q hq) (fun p hp => by rw [hG']; exact uq _ (uq _ hp)) hrec hasg hbd rfl rfl n o.1 (fun A0 own0 w gh out out' z hz => ?_) out ho2 A own0 w1 gh ⟨hown, fun q hq => by
    have : q = (7, .loc 0 0) := by simpa using hq
    subst this
    exact hgh 7 _ rfl⟩
  ·rw [zeI Tryz.func172 rfl] at ct
   exact ct
  ·refine .z I <| .nil ⟨rfl, fun own0 w => ?_⟩
   refine .p I (.loadLoc1 I I I dY145 I) <| .m I <| .p I (.buildSl [_] I I dE145 I (fun _ => I) I (enc := LI)) <| .app I I I I I I I I dE145 I (fun _ => I) hz <| .store I I I I I I (.cons (.vec I ?_) .nil) dC145 I (yd I) <| .nil ⟨rfl, rfl⟩
   simp
 ·intro Dd H2 G' hG' ⟨X, hX⟩
  subst hX
  have hsub : ∀ p ∈ @Globs.gs globs, p ∈ @Globs.gs G' := fun p hp => by rw [hG']; exact uq _ hp
  refine Tri.ge (t := ⟨[(7, .loc 0 0)], HT out⟩) ⟨X, rfl, rfl, rfl, rfl, trivial⟩ ?_ rfl
  refine .sr <| .p I (.loadLoc1 I I I dY145 I) <| .sort1 (enc := LI) (l := out) Tryz.sortLL I I I I dK173 dK174 I I I I (fun _ => I) (fun _ => I) hsort (fun a b v hv => Pure.widen hsub (zhg _ _ _ _ hv)) <| .nil <| .sr <| .p I (.loadLoc1 I I I dY145 I) <| .z I <| .nil <| .ret ⟨rfl, zbv I (.vec I ?_)⟩
  simp [zl1 hsort]
theorem zhf (n : Nat) (t0 : List Range) (t1 : Constraint) (t2 : Action) (t3 : Action) (r : List (List Row)) (h : zf n t0 t1 t2 t3 = some r) : Pure pg 63 [eK t0, Constraint.enc t1, Action.enc t2, Action.enc t3] (eR r) := by
 refine Pure.ot Tryz.func63 I Tryz.ntmps63 I fun A w => .sr<|.p I (.bx I)<|.p I (.bx I)<|.p I (.bx I)<|.p I (.nilS 1 (α := List Row) eH I)<|.nil<|.sr<|.p I (.makeFunc I I)<|.z I<|.nil<|.sr<|.f I (G78_4 _) Y3 I<|.f I (G78_4 _) Y3 I<|.p I (.ml I)<|bK h fun x1 q1 h => .makeVec (enc := D.bool) (z := (false : Bool)) I I I I E144 I I I (.val Zv4) q1<|.z I<|.nil<|.seq<|.sr<|.m I<|.p I (.lenV I U144 I I I)<|.m I<|.nil<|.keep [.vec 4 1 (List.map D.bool x1)] [0, 5, 6, 7, 9, 10, 29, 30] (.c8 I .nil) I<|.block<|.loopS [0, 5, 6, 7, 9, 29] (fun (v : (List Bool) × Int) => [(10, .vec 0 (List.length v.1)), (30, .d (.int v.2))]) (fun (v : (List Bool) × Int) => [(0, .vec 4 1 (List.map D.bool v.1))]) (.c4 I<|.c2 I .nil) h ⟨_, Fz8 I<|Fz2 I<|FzE⟩ (fun _ v h => ?_)
 obtain ⟨b0_14, x15⟩ := v
 refine .sr<|.p I (.ls I)<|.nil<|.keep [.vec 4 1 (List.map D.bool b0_14)] [0, 5, 6, 7, 9, 10, 29, 30, 31] (.c8 I<|.c I .nil) I<|.seq<|.condS I h (fun h => ?_) fun h => ?_
 ·refine .skip<|.seq<|.block<|.sr<|.m I<|.z I<|.nil<|.draw 16 Hm (by kernel_rfl) (by kernel_rfl)<|.m I<|.m I<|.m I<|.f I (G78_3 _) Y3 I<|.m I<|.p I (.ad I)<|bK h fun x17 q17 h => .p I (.ix I U48 S87 q17)<|.f I (G87_1 _) Y3 I<|.m I<|.m I<|bK h fun x18 q18 h => .p I (.dyn I I I ⟨_, _, I, K113, zdF _ _ _ _ _ _ q18⟩)<|.p I (.ad I)<|.p I (.ge I)<|bK h fun x19 q19 h => .p I (.idxV I I I I I U144 S4 q19)<|.nil<|bK h fun b0_20 hb0_20 h => .storeEl (enc := D.bool) I I I I I I I I I C4 hb0_20<|.relen 10 I (zdk hb0_20)<|.relen 33 I (zdk hb0_20)<|.nil<|.keep [.vec 4 1 (List.map D.bool b0_20)] [0, 5, 6, 7, 9, 10, 29, 30] (.c8 I .nil) I<|.region<|.p I (.ad I)<|.m I<|.nil ⟨_, h, _, Fz8 I<|Fz2 I<|FzE⟩
 ·refine .exit<|.sr<|.z I<|.nilVec 12 1 49 I<|.nil<|.seq<|.seq<|.freezes [0] (.cons (t := 10) I (.vec (inIds I) I (by simp)) .nil)<|.region<|.f I (G78_4 _) Y3 I<|.m I<|bK h fun x22 q22 h => .p I (.call I (kC I) I (zhW _ _ _ _ q22))<|.p I (.len I U145 I)<|.m I<|.nil<|.block<|.loopS [5, 6, 7, 9, 53, 54] (fun (v : (List (List Row)) × Int) => [(12, .vec 1 (List.length v.1)), (55, .d (.int v.2))]) (fun (v : (List (List Row)) × Int) => [(1, .vec 49 1 (List.map eH v.1))]) (.c4 I<|.c2 I .nil) h ⟨_, Fz8 I<|Fz2 I<|FzE⟩ (fun _ v h => ?_)
  obtain ⟨b1_117, x118⟩ := v
  refine .sr<|.p I (.ls I)<|.nil<|.keep [.dead, .vec 49 1 (List.map eH b1_117)] [5, 6, 7, 9, 12, 53, 54, 55, 56] (.c8 I<|.c I .nil) I<|.seq<|.condS I h (fun h => ?_) fun h => ?_
  ·refine .skip<|.join [5, 6, 7, 9, 53, 54, 55] (fun (v : (List (List Row))) => [(12, .vec 1 (List.length v))]) (fun (v : (List (List Row))) => [(1, .vec 49 1 (List.map eH v))]) (.c4 I<|.c2 I<|.c I .nil) h (fun k_121 h => ?_) (fun b1_120 h => ?_)
   ·refine .block<|.sr<|bK h fun x122 q122 h => .p I (.ix I U145 S22 q122)<|.p I (.ld Y22 I)<|.z I<|.nil<|.sr<|.z I<|.nilVec 15 2 33 I<|.nil<|.sr<|.z I<|.z I<|.nil<|.seq<|.sr<|.m I<|.p I (.len I U22 I)<|.m I<|.nil<|.block<|.loopS [5, 6, 7, 9, 12, 14, 53, 54, 55, 59, 60] (fun (v : (List Row) × Bool × Bool × Int) => [(15, .vec 2 (List.length v.1)), (16, .d (.bool v.2.1)), (17, .d (.bool v.2.2.1)), (61, .d (.int v.2.2.2))]) (fun (v : (List Row) × Bool × Bool × Int) => [(2, .vec 33 2 (List.map Row.enc v.1))]) (.c8 I<|.c2 I<|.c I .nil) h ⟨_, Fz8 I<|Fz8 I<|Fz2 I trivial⟩ (fun _ v h => ?_)
    obtain ⟨b2_149, x150, x151, x152⟩ := v
    refine .sr<|.p I (.ls I)<|.nil<|.keep [.dead, .vec 49 1 (List.map eH b1_117), .vec 33 2 (List.map Row.enc b2_149)] [5, 6, 7, 9, 12, 14, 15, 16, 17, 53, 54, 55, 59, 60, 61, 62] (.c8 I<|.c8 I .nil) I<|.seq<|.condS I h (fun h => ?_) fun h => ?_
    ·refine .skip<|.seq<|.block<|.sr<|.m I<|bK h fun x154 q154 h => .p I (.ix I U22 S3 q154)<|.p I (.ld Y3 I)<|.z I<|.z I<|.nil<|.seq<|.draw 14 Hm (by kernel_rfl) (by kernel_rfl)<|.m I<|.f I (G78_4 _) Y3 I<|.p I (.ml I)<|.m I<|.m I<|.p I (.ad I)<|.m I<|.p I (.len I U22 I)<|bK h fun x155 q155 h => .p I (.rem6 I I I q155)<|bK h fun x156 q156 h => .p I (.ix I U22 S3 q156)<|.p I (.ld Y3 I)<|.p I (.ad I)<|.z I<|.nil<|.nil<|.keep [.dead, .vec 49 1 (List.map eH b1_117), .vec 33 2 (List.map Row.enc b2_149)] [5, 6, 7, 9, 12, 14, 15, 16, 17, 20, 53, 54, 55, 59, 60, 61] (.c8 I<|.c8 I .nil) I<|.seq<|.plain 20 I<|.m I<|.m I<|gK h fun c158 h => .jO 7 (decide (0 < ((zC n t2 (add64 t1.first (add64 (mul64 x154 t1.size) x156))).getD default))) I (fun b157 => ?_) ?_
     ·refine .q I (.ld Y84 I)<|.qf I (G78_3 _) Y3 I<|.qm I<|.q I (.ad I)<|.q I (.call I (kC I) I (zaJ _ _ _ _ (someD (impF c158 b157))))<|.q I (.gt I)<|.nil I
     refine .m I<|.m I<|gK h fun c160 h => .jO 7 (decide (0 < ((zC n t3 (add64 t1.first (add64 (mul64 x154 t1.size) x156))).getD default))) I (fun b159 => ?_) ?_
     ·refine .q I (.ld Y84 I)<|.qf I (G78_3 _) Y3 I<|.qm I<|.q I (.ad I)<|.q I (.call I (kC I) I (zaJ _ _ _ _ (someD (impF c160 b159))))<|.q I (.gt I)<|.nil I
     refine .nil<|.z I<|.z I<|.nil<|.keep [.dead, .vec 49 1 (List.map eH b1_117), .vec 33 2 (List.map Row.enc b2_149)] [5, 6, 7, 9, 12, 14, 15, 16, 17, 20, 53, 54, 55, 59, 60, 61] (.c8 I<|.c8 I .nil) I<|.draw 13 Hm (by kernel_rfl) (by kernel_rfl)<|.m I<|.f I (G78_3 _) Y3 I<|.m I<|.p I (.ad I)<|.p I (.castD (Term.enc (⟨add64 t1.first (add64 (mul64 x154 t1.size) x156), (-1)⟩ : Term)) I (.build I Pl41 (.agg Zc41 (ds' := [_, _]) (.e .e1)) I I))<|.p I (.buildSl [_] I I E31 I (fun _ => I) I (enc := Term.enc))<|.m I<|.m I<|bK h fun x161 q161 h => .p I (.dyn I I I ⟨_, _, I, K113, zdF _ _ _ _ _ _ q161⟩)<|.p I (.sb I)<|.p I (.castD (Row.enc (⟨[(⟨add64 t1.first (add64 (mul64 x154 t1.size) x156), (-1)⟩ : Term)], sub64 x161 1⟩ : Row)) I (.build I Pl33 (.agg Zc33 (ds' := [_, _]) (.e .e1)) I I))<|.p I (.buildSl [_] I I E49 I (fun _ => I) I (enc := Row.enc))<|.nil<|bK h fun x162 q162 h => .app I I I I I I I I E49 I (fun _ => I) q162<|.z I<|.nil<|.region<|.p I (.ad I)<|.m I<|.nil ⟨_, h, _, Fz8 I<|Fz8 I<|Fz2 I trivial⟩
    ·refine .exit<|.seq<|.plain 4 I<|.m I<|.m I<|.jA 1 (x151) I (fun b163 => ?_) ?_
     ·refine .qm I<|.nil I
     refine .nil<|.nil<|.condS I h (fun h => ?_) fun h => ?_
     ·refine .freezes [2] (.cons (t := 15) I (.vec (inIds I) I (by simp)) .nil)<|.region<|.m I<|.m I<|.p I (.buildSl [_] I I E51 I (fun _ => I) I (enc := eH))<|bK h fun x164 q164 h => .app I I I I I I I I E51 I (fun _ => I) q164<|.z I<|.nil ⟨_, h, _, Fz8 I<|Fz2 I<|FzE⟩
     ·refine .skip ⟨_, h, _, Fz8 I<|Fz2 I<|FzE⟩
   ·refine .region<|.p I (.ad I)<|.m I<|.nil ⟨_, h, _, Fz8 I<|Fz2 I<|FzE⟩
  ·refine .exit<|.sr<|.m I<|.z I<|.nil<|.ret ?_
   cases h
   exact zbv I (.vec I (by simp))
theorem zjg (n : Nat) (t0 : List Range) (r : Bool) (h : zbD n t0 = some r) : Pure pg 175 [eK t0] (.bool r) := by
 refine Pure.ot Tryz.func175 I Tryz.ntmps175 I fun A w => .sr<|.z I<|.nil<|.seq<|.sr<|.m I<|.p I (.len I U48 I)<|.m I<|.nil<|.block<|.loopS [0, 5, 6] (fun (v : Int) => [(7, .d (.int v))]) (fun (v : Int) => []) (.c2 I<|.c I .nil) h ⟨_, Fz4 I<|Fz2 I<|FzE⟩ (fun _ x11 h => ?_)
 refine .sr<|.p I (.ls I)<|.nil<|.keep [] [0, 5, 6, 7, 8] (.c4 I<|.c I .nil) I<|.seq<|.condS I h (fun h => ?_) fun h => ?_
 ·refine .skip<|.seq<|.block<|.sr<|bK h fun x13 q13 h => .p I (.ix I U48 S87 q13)<|.p I (.ld Y87 I)<|.allocStore I I I I I I I I (by simp) I I Z87<|.nil<|.seq<|.plain 18 I<|.f I (G87_0 _) Y3 I<|.p I (.ls I)<|.m I<|.jO 3 (decide (1000000 < x13.lo)) I (fun b14 => ?_) ?_
  ·refine .qf I (G87_0 _) Y3 I<|.q I (.gt I)<|.nil I
  refine .m I<|.jO 3 (decide (x13.hi < (-1000000))) I (fun b15 => ?_) ?_
  ·refine .qf I (G87_1 _) Y3 I<|.q I (.ls I)<|.nil I
  refine .m I<|.jO 3 (decide (1000000 < x13.hi)) I (fun b16 => ?_) ?_
  ·refine .qf I (G87_1 _) Y3 I<|.q I (.gt I)<|.nil I
  refine .nil<|.nil<|.keep [] [0, 5, 6, 7, 28] (.c4 I<|.c I .nil) I<|.condS I h (fun h => ?_) fun h => ?_
  ·refine .sr<|.z I<|.nil<|.ret (rO h I)
  ·refine .skip<|.region<|.p I (.ad I)<|.m I<|.nil ⟨_, h, _, Fz4 I<|Fz2 I<|FzE⟩
 ·refine .exit<|.sr<|.m I<|.p I (.len I U48 I)<|.p I (.le I)<|.z I<|.nil<|.ret (rO h I)
theorem ziF (n : Nat) (t0 : Int) (t1 : Row) (r : Bool) (h : zbj n t0 t1 = some r) : Pure pg 178 [.int t0, Row.enc t1] (.bool r) := by
 refine Pure.ot Tryz.func178 I Tryz.ntmps178 I fun A w => .sr<|.p I (.bx I)<|.z I<|.nil<|.sr<|.z I<|.nil<|.seq<|.sr<|.f I (G33_0 _) Y31 I<|.p I (.len I U31 I)<|.m I<|.nil<|.block<|.loopS [0, 3, 9, 10] (fun (v : Int × Int) => [(5, .d (.int v.1)), (11, .d (.int v.2))]) (fun (v : Int × Int) => []) (.c4 I .nil) h ⟨_, Fz8 I<|FzE⟩ (fun _ v h => ?_)
 obtain ⟨x15, x16⟩ := v
 refine .sr<|.p I (.ls I)<|.nil<|.keep [] [0, 3, 5, 9, 10, 11, 12] (.c4 I<|.c2 I<|.c I .nil) I<|.seq<|.condS I h (fun h => ?_) fun h => ?_
 ·refine .skip<|.seq<|.block<|.sr<|bK h fun x18 q18 h => .p I (.ix I U31 S41 q18)<|.p I (.ld Y41 I)<|.allocStore I I I I I I I I (by simp) I I Z41<|.nil<|.seq<|.seq<|.plain 25 I<|.f I (G41_0 _) Y3 I<|.m I<|.p I (.le I)<|.m I<|.jO 4 (decide (t0 ≤ x18.cell)) I (fun b19 => ?_) ?_
  ·refine .qf I (G41_0 _) Y3 I<|.qm I<|.q I (.ge I)<|.nil I
  refine .m I<|.jO 3 (x18.factor == 0) I (fun b20 => ?_) ?_
  ·refine .qf I (G41_1 _) Y3 I<|.q I (.eq I)<|.nil I
  refine .m I<|.jO 3 (decide (x18.factor < (-1000))) I (fun b21 => ?_) ?_
  ·refine .qf I (G41_1 _) Y3 I<|.q I (.ls I)<|.nil I
  refine .m I<|.jO 3 (decide (1000 < x18.factor)) I (fun b22 => ?_) ?_
  ·refine .qf I (G41_1 _) Y3 I<|.q I (.gt I)<|.nil I
  refine .nil<|.nil<|.keep [] [0, 3, 7, 9, 10, 11, 39] (.c4 I<|.c2 I<|.c I .nil) I<|.condS I h (fun h => ?_) fun h => ?_
  ·refine .sr<|.z I<|.nil<|.ret (rO h I)
  ·refine .skip<|.region<|.f I (G41_0 _) Y3 I<|.z I<|.nil<|.region<|.p I (.ad I)<|.m I<|.nil ⟨_, h, _, Fz8 I<|FzE⟩
 ·refine .exit<|.seq<|.plain 8 I<|.f I (G33_1 _) Y3 I<|.p I (.ge I)<|.m I<|.jA 3 (decide (t1.bound ≤ 1000000000)) I (fun b23 => ?_) ?_
  ·refine .qf I (G33_1 _) Y3 I<|.q I (.le I)<|.nil I
  refine .nil<|.z I<|.nil<|.ret (rO h I)
theorem zg1 (n : Nat) (t0 : Row) (t1 : List Range) (r : Bool) (h : zbA n t0 t1 = some r) : Pure pg 177 [Row.enc t0, .ref (eK t1)] (.bool r) := by
 refine Pure.ot Tryz.func177 I Tryz.ntmps177 I fun A w => .sr<|.p I (.bx I)<|.z I<|.nil<|.sr<|.p I (.ld Y48 I)<|.p I (.len I U48 I)<|.p I (.ld Y33 I)<|bK h fun x1 q1 h => .p I (.call I (kC I) I (ziF _ _ _ _ q1))<|.p I (.nt I)<|.z I<|.nil<|.ret (rO h I)
theorem zeP (n : Nat) (t0 : List Range) (t1 : List Row) (r : Bool) (h : zbm n t0 t1 = some r) : Pure pg 115 [eK t0, eH t1] (.bool r) := by
 refine Pure.ot Tryz.func115 I Tryz.ntmps115 I fun A w => .sr<|.p I (.bx I)<|.z I<|.nil<|.seq<|.plain 8 I<|.p I (.ld Y48 I)<|bK h fun x1 q1 h => .p I (.call I (kC I) I (zjg _ _ _ q1))<|.m I<|gK h fun c3 h => .jA 4 (!((zl n t1 (fun q0 => zbA n q0 t0)).getD default)) I (fun b2 => ?_) ?_
 ·refine .qm I<|.q I (.makeFunc I I)<|.q I (.call I (kC I) I (zbw _ _ _ _ (fun q0 y hq => ⟨_, _, I, K177, zg1 _ q0 _ _ hq⟩) _ (someD (impT c3 b2))))<|.q I (.nt I)<|.nil I
 refine .nil<|.z I<|.nil<|.ret (rO h I)
theorem zcI (n : Nat) (t0 : List Range) (t1 : Range → Option Bool) (F1 : D) (hF1 : ∀ (q0 : Range) (y : Bool), t1 q0 = some y → Dyn pg F1 [Range.enc q0] (.bool y)) (r : Int) (h : zA n t0 t1 = some r) : Pure pg 214 [eK t0, F1] (.int r) := by
 refine Pure.ot Tryz.func214 I Tryz.ntmps214 I fun A w => .sr<|.z I<|.nil<|.seq<|.sr<|.m I<|.p I (.len I U48 I)<|.m I<|.nil<|.block<|.loopS [0, 1, 7] (fun (v : Int) => [(8, .d (.int v))]) (fun (v : Int) => []) (.c2 I<|.c I .nil) h ⟨_, Fz4 I<|Fz2 I<|FzE⟩ (fun _ x7 h => ?_)
 refine .sr<|.p I (.ls I)<|.nil<|.keep [] [0, 1, 7, 8, 9] (.c4 I<|.c I .nil) I<|.seq<|.condS I h (fun h => ?_) fun h => ?_
 ·refine .skip<|.seq<|.block<|.sr<|.m I<|.z I<|.nil<|.sr<|.m I<|.m I<|.m I<|bK h fun x9 q9 h => .p I (.ix I U48 S87 q9)<|.p I (.ld Y87 I)<|bK h fun x10 q10 h => .p I (.dyn I I I (hF1 _ _ q10))<|.nil<|.condS I h (fun h => ?_) fun h => ?_
  ·refine .sr<|.m I<|.z I<|.nil<|.ret (rO h I)
  ·refine .skip<|.region<|.p I (.ad I)<|.m I<|.nil ⟨_, h, _, Fz4 I<|Fz2 I<|FzE⟩
 ·refine .exit<|.sr<|.z I<|.nil<|.ret (rO h I)
theorem zcq (n : Nat) (t0 : List Range) (t1 : Range → Option Bool) (F1 : D) (hF1 : ∀ (q0 : Range) (y : Bool), t1 q0 = some y → Dyn pg F1 [Range.enc q0] (.bool y)) (r : Bool) (h : zak n t0 t1 = some r) : Pure pg 179 [eK t0, F1] (.bool r) := by
 refine Pure.ot Tryz.func179 I Tryz.ntmps179 I fun A w => .sr<|.z I<|.nil<|.sr<|.m I<|.m I<|bK h fun x1 q1 h => .p I (.call I (kC I) I (zcI _ _ _ _ hF1 _ q1))<|.p I (.ge I)<|.z I<|.nil<|.ret (rO h I)
theorem zh1 (n : Nat) (t0 : Range) (r : Bool) (h : zey n t0 = some r) : Pure pg 180 [Range.enc t0] (.bool r) := by
 refine Pure.ot Tryz.func180 I Tryz.ntmps180 I fun A w => .sr<|.p I (.bx I)<|.z I<|.nil<|.sr<|.f I (G87_0 _) Y3 I<|.f I (G87_1 _) Y3 I<|.p I (.gt I)<|.z I<|.nil<|.ret (rO h I)
theorem zh0 (n : Nat) (t0 : List Range) (r : Bool) (h : zbK n t0 = some r) : Pure pg 116 [eK t0] (.bool r) := by
 refine Pure.ot Tryz.func116 I Tryz.ntmps116 I fun A w => .sr<|.z I<|.nil<|.sr<|.m I<|bK h fun x1 q1 h => .p I (.call I (kC I) I (zcq _ _ _ _ (fun q0 y hq => ⟨_, _, I, K180, zh1 _ q0 _ hq⟩) _ q1))<|.z I<|.nil<|.ret (rO h I)
theorem zgS (n : Nat) (t0 : System) (t1 : List Row) (t2 : Int) (r : Bool) (h : zcT n t0 t1 t2 = some r) : Pure pg 117 [System.enc t0, eH t1, .int t2] (.bool r) := by
 refine Pure.ot Tryz.func117 I Tryz.ntmps117 I fun A w => .sr<|.p I (.bx I)<|.z I<|.nil<|.seq<|.plain 10 I<|.m I<|.p I (.len I U49 I)<|.m I<|.p I (.le I)<|.m I<|gK h fun c2 h => .jA 4 (((zbm n t0.box t1).getD default)) I (fun b1 => ?_) ?_
 ·refine .qf I (G53_0 _) Y48 I<|.qm I<|.q I (.call I (kC I) I (zeP _ _ _ _ (someD (impT c2 b1))))<|.nil I
 refine .nil<|.z I<|.nil<|.ret (rO h I)
theorem zie (n : Nat) (t0 : Int) (r : Bool) (h : zeG n t0 = some r) : Pure pg 181 [.int t0] (.bool r) := by
 refine Pure.ot Tryz.func181 I Tryz.ntmps181 I fun A w => .sr<|.z I<|.nil<|.seq<|.plain 6 I<|.m I<|.p I (.ls I)<|.m I<|.jO 2 (decide (4000000 < t0)) I (fun b1 => ?_) ?_
 ·refine .qm I<|.q I (.gt I)<|.nil I
 refine .nil<|.z I<|.nil<|.ret (rO h I)
theorem zjR (n : Nat) (t0 : Int) (t1 : Graph) (r : Bool) (h : zet n t0 t1 = some r) : Pure pg 118 [.int t0, Graph.enc t1] (.bool r) := by
 refine Pure.ot Tryz.func118 I Tryz.ntmps118 I fun A w => .sr<|.p I (.bx I)<|.z I<|.nil<|.seq<|.seq<|.plain 36 I<|.f I (G99_1 _) Y3 I<|.p I (.ls I)<|.m I<|.jO 3 (decide (6 < t1.size)) I (fun b1 => ?_) ?_
 ·refine .qf I (G99_1 _) Y3 I<|.q I (.gt I)<|.nil I
 refine .m I<|.jO 3 (decide (t1.first < 0)) I (fun b2 => ?_) ?_
 ·refine .qf I (G99_0 _) Y3 I<|.q I (.ls I)<|.nil I
 refine .m I<|.jO 10 (decide (sub64 t0 (mul64 t1.size t1.size) < t1.first)) I (fun b3 => ?_) ?_
 ·refine .qf I (G99_0 _) Y3 I<|.qm I<|.qf I (G99_1 _) Y3 I<|.qf I (G99_1 _) Y3 I<|.q I (.ml I)<|.q I (.sb I)<|.q I (.gt I)<|.nil I
 refine .m I<|.jO 9 ((t1.least.length : Int) != (mul64 t1.size t1.size)) I (fun b4 => ?_) ?_
 ·refine .qf I (G99_2 _) Y22 I<|.q I (.len I U22 I)<|.qf I (G99_1 _) Y3 I<|.qf I (G99_1 _) Y3 I<|.q I (.ml I)<|.q I (.ne I)<|.nil I
 refine .nil<|.nil<|.keep [] [3, 40] (.c2 I .nil) I<|.condS I h (fun h => ?_) fun h => ?_
 ·refine .sr<|.z I<|.nil<|.ret (rO h I)
 ·refine .skip<|.sr<|.f I (G99_2 _) Y22 I<|bK h fun x5 q5 h => .p I (.call I (kC I) I (zaG _ _ _ _ (fun q0 y hq => ⟨_, _, I, K181, zie _ q0 _ hq⟩) _ q5))<|.p I (.nt I)<|.z I<|.nil<|.ret (rO h I)
theorem zid (n : Nat) (t0 : List Row) (t1 : System) (r : Bool) (h : zeF n t0 t1 = some r) : Pure pg 120 [eH t0, .ref (System.enc t1)] (.bool r) := by
 refine Pure.ot Tryz.func120 I Tryz.ntmps120 I fun A w => .sr<|.z I<|.nil<|.sr<|.p I (.ld Y53 I)<|.m I<|bK h fun x1 q1 h => .p I (.call I (kC I) I (zgS _ _ _ _ _ q1))<|.p I (.nt I)<|.z I<|.nil<|.ret (rO h I)
theorem zdy (n : Nat) (t0 : List (List Row)) (t1 : (List Row) → Option Bool) (F1 : D) (hF1 : ∀ (q0 : List Row) (y : Bool), t1 q0 = some y → Dyn pg F1 [eH q0] (.bool y)) (r : Int) (h : zP n t0 t1 = some r) : Pure pg 182 [eR t0, F1] (.int r) := by
 refine Pure.ot Tryz.func182 I Tryz.ntmps182 I fun A w => .sr<|.z I<|.nil<|.seq<|.sr<|.m I<|.p I (.len I U51 I)<|.m I<|.nil<|.block<|.loopS [0, 1, 7] (fun (v : Int) => [(8, .d (.int v))]) (fun (v : Int) => []) (.c2 I<|.c I .nil) h ⟨_, Fz4 I<|Fz2 I<|FzE⟩ (fun _ x7 h => ?_)
 refine .sr<|.p I (.ls I)<|.nil<|.keep [] [0, 1, 7, 8, 9] (.c4 I<|.c I .nil) I<|.seq<|.condS I h (fun h => ?_) fun h => ?_
 ·refine .skip<|.seq<|.block<|.sr<|.m I<|.z I<|.nil<|.sr<|.m I<|.m I<|.m I<|bK h fun x9 q9 h => .p I (.ix I U51 S49 q9)<|.p I (.ld Y49 I)<|bK h fun x10 q10 h => .p I (.dyn I I I (hF1 _ _ q10))<|.nil<|.condS I h (fun h => ?_) fun h => ?_
  ·refine .sr<|.m I<|.z I<|.nil<|.ret (rO h I)
  ·refine .skip<|.region<|.p I (.ad I)<|.m I<|.nil ⟨_, h, _, Fz4 I<|Fz2 I<|FzE⟩
 ·refine .exit<|.sr<|.z I<|.nil<|.ret (rO h I)
theorem zdb (n : Nat) (t0 : List (List Row)) (t1 : (List Row) → Option Bool) (F1 : D) (hF1 : ∀ (q0 : List Row) (y : Bool), t1 q0 = some y → Dyn pg F1 [eH q0] (.bool y)) (r : Bool) (h : zaL n t0 t1 = some r) : Pure pg 119 [eR t0, F1] (.bool r) := by
 refine Pure.ot Tryz.func119 I Tryz.ntmps119 I fun A w => .sr<|.z I<|.nil<|.sr<|.m I<|.m I<|bK h fun x1 q1 h => .p I (.call I (kC I) I (zdy _ _ _ _ hF1 _ q1))<|.p I (.ge I)<|.z I<|.nil<|.ret (rO h I)
theorem zjP (n : Nat) (t0 : System) (r : Bool) (h : zaS n t0 = some r) : Pure pg 64 [System.enc t0] (.bool r) := by
 refine Pure.ot Tryz.func64 I Tryz.ntmps64 I fun A w => .sr<|.p I (.bx I)<|.z I<|.nil<|.seq<|.seq<|.plain 28 I<|.f I (G53_0 _) Y48 I<|bK h fun x1 q1 h => .p I (.callLe I (kC I) I (.e .o1) (zeP _ _ _ _ q1))<|.p I (.nt I)<|.m I<|gK h fun c3 h => .jO 3 (((zbK n t0.box).getD default)) I (fun b2 => ?_) ?_
 ·refine .qf I (G53_0 _) Y48 I<|.q I (.call I (kC I) I (zh0 _ _ _ (someD (impF c3 b2))))<|.nil I
 refine .m I<|gK h fun c5 h => .jO 5 (!((zcT n t0 t0.rows 1024).getD default)) I (fun b4 => ?_) ?_
 ·refine .q I (.ld Y53 I)<|.qf I (G53_1 _) Y49 I<|.q I (.call I (kC I) I (zgS _ _ _ _ _ (someD (impF c5 b4))))<|.q I (.nt I)<|.nil I
 refine .m I<|.jO 4 (decide (64 < (t0.graphs.length : Int))) I (fun b6 => ?_) ?_
 ·refine .qf I (G53_2 _) Y50 I<|.q I (.len I U50 I)<|.q I (.gt I)<|.nil I
 refine .m I<|.jO 4 (decide (1024 < (t0.cases.length : Int))) I (fun b7 => ?_) ?_
 ·refine .qf I (G53_3 _) Y51 I<|.q I (.len I U51 I)<|.q I (.gt I)<|.nil I
 refine .nil<|.nil<|.keep [] [1, 32] (.c2 I .nil) I<|.condS I h (fun h => ?_) fun h => ?_
 ·refine .sr<|.z I<|.nil<|.ret (rO h I)
 ·refine .skip<|.seq<|.sr<|.f I (G53_2 _) Y50 I<|.p I (.len I U50 I)<|.m I<|.nil<|.block<|.loopS [1, 34, 35] (fun (v : Int) => [(36, .d (.int v))]) (fun (v : Int) => []) (.c2 I<|.c I .nil) h ⟨_, Fz4 I<|Fz2 I<|FzE⟩ (fun _ x14 h => ?_)
  refine .sr<|.p I (.ls I)<|.nil<|.keep [] [1, 34, 35, 36, 37] (.c4 I<|.c I .nil) I<|.seq<|.condS I h (fun h => ?_) fun h => ?_
  ·refine .skip<|.seq<|.block<|.sr<|bK h fun x16 q16 h => .p I (.ix I U50 S99 q16)<|.p I (.ld Y99 I)<|.allocStore I I I I I I I I (by simp) I I Z99<|.nil<|.sr<|.f I (G53_0 _) Y48 I<|.p I (.len I U48 I)<|.p I (.ld Y99 I)<|bK h fun x17 q17 h => .p I (.call I (kC I) I (zjR _ _ _ _ q17))<|.p I (.nt I)<|.nil<|.condS I h (fun h => ?_) fun h => ?_
   ·refine .sr<|.z I<|.nil<|.ret (rO h I)
   ·refine .skip<|.region<|.p I (.ad I)<|.m I<|.nil ⟨_, h, _, Fz4 I<|Fz2 I<|FzE⟩
  ·refine .exit<|.sr<|.f I (G53_3 _) Y51 I<|.p I (.makeFunc I I)<|bK h fun x18 q18 h => .p I (.call I (kC I) I (zdb _ _ _ _ (fun q0 y hq => ⟨_, _, I, K120, zid _ q0 _ _ hq⟩) _ q18))<|.p I (.nt I)<|.z I<|.nil<|.ret (rO h I)
theorem zdR (n : Nat) (t0 : Model) (t1 : Question) (t2 : List Int) (r : System × Int) (h : ze n t0 t1 t2 = some r) : Pure pg 19 [Model.enc t0, Question.enc t1, eA t2] (.tup [System.enc r.1, .int r.2]) := by
 refine Pure.ot Tryz.func19 I Tryz.ntmps19 I fun A w => .sr<|.p I (.bx I)<|.p I (.bx I)<|.allocZ I I I I (.agg Zc53 (ds' := [eK [], eH [], eO [], eR []]) (.o (.o (.o .o1)))) I<|.z I<|.nil<|.seq<|.sr<|.p I (.ld Y30 I)<|.p I (.ld Y37 I)<|bK h fun x1 q1 h => .p I (.call I (kC I) I (ze1 _ _ _ _ q1))<|.p I (.nt I)<|.nil<|.condS I h (fun h => ?_) fun h => ?_
 ·refine .sr<|.p I (.castD (System.enc (⟨[], [], [], []⟩ : System)) I (.build I Pl53 (.agg Zc53 (ds' := [eK [], eH [], eO [], eR []]) (.o (.o (.o .o1)))) I I))<|.store I I I I I I (.ofD I) C53 I (yd I)<|.z I<|.nil<|.ret ?_
  cases h
  exact zcz I I Y53 (.v (.v (.v .v1))) I (.d _)
 ·refine .skip<|.seq<|.sr<|.m I<|.p I (.len I U22 I)<|.m I<|.nil<|.block<|.loopS [2, 3, 4, 6, 31, 32] (fun (v : Int) => [(33, .d (.int v))]) (fun (v : Int) => []) (.c4 I<|.c2 I .nil) h ⟨_, Fz8 I<|Fz2 I trivial⟩ (fun _ x12 h => ?_)
  refine .sr<|.p I (.ls I)<|.nil<|.keep [.box 53 [.d (eK []), .d (eH []), .d (eO []), .d (eR [])]] [2, 3, 4, 6, 31, 32, 33, 34] (.c8 I .nil) I<|.seq<|.condS I h (fun h => ?_) fun h => ?_
  ·refine .skip<|.seq<|.block<|.sr<|bK h fun x14 q14 h => .p I (.ix I U22 S3 q14)<|.p I (.ld Y3 I)<|.z I<|.nil<|.seq<|.plain 18 I<|.m I<|.p I (.ls I)<|.m I<|.jO 5 (decide ((t0.constraints.length : Int) ≤ x14)) I (fun b15 => ?_) ?_
   ·refine .qm I<|.qf I (G30_3 _) Y25 I<|.q I (.len I U25 I)<|.q I (.ge I)<|.nil I
   refine .m I<|gK h fun c17 h => .jO 7 ((((idx t0.constraints x14).getD default).kind) != 0) I (fun b16 => ?_) ?_
   ·refine .qf I (G30_3 _) Y25 I<|.qm I<|.q I (.ix I U25 S78 (someD (impF c17 b16)))<|.qf I (G78_0 _) Y3 I<|.q I (.ne I)<|.nil I
   refine .nil<|.nil<|.keep [.box 53 [.d (eK []), .d (eH []), .d (eO []), .d (eR [])]] [2, 3, 4, 6, 31, 32, 33, 54] (.c8 I .nil) I<|.condS I h (fun h => ?_) fun h => ?_
   ·refine .sr<|.p I (.castD (System.enc (⟨[], [], [], []⟩ : System)) I (.build I Pl53 (.agg Zc53 (ds' := [eK [], eH [], eO [], eR []]) (.o (.o (.o .o1)))) I I))<|.store I I I I I I (.ofD I) C53 I (yd I)<|.z I<|.nil<|.ret ?_
    cases h
    exact zcz I I Y53 (.v (.v (.v .v1))) I (.d _)
   ·refine .skip<|.region<|.p I (.ad I)<|.m I<|.nil ⟨_, h, _, Fz8 I<|Fz2 I trivial⟩
  ·refine .exit<|.seq<|.draw 16 Hm (by kernel_rfl) (by kernel_rfl)<|.f I (G30_5 _) Y27 I<|.f I (G37_0 _) Y3 I<|bK h fun x18 q18 h => .p I (.ix I U27 S84 q18)<|.p I (.ld Y84 I)<|.f I (G30_5 _) Y27 I<|.f I (G37_1 _) Y3 I<|bK h fun x19 q19 h => .p I (.ix I U27 S84 q19)<|.p I (.ld Y84 I)<|.alloc I I I I ZZ84<|.alloc I I I I ZZ84<|.store I I I I I I Z84<|.store I I I I I I Z84<|.nil<|.freezes [1, 2] (.cons (t := 10) (d := .ref (Action.enc x18)) I (.loc (inIds I) I (.v (.v (.v (.v .v1))))) (.cons (t := 11) (d := .ref (Action.enc x19)) I (.loc (inIds I) I (.v (.v (.v (.v .v1))))) .nil))<|.nil<|.keep [.box 53 [.d (eK []), .d (eH []), .d (eO []), .d (eR [])], .dead, .dead] [2, 3, 4, 6, 10, 11] (.c4 I<|.c2 I .nil) I<|.sr<|.p I (.ld Y30 I)<|bK h fun x20 q20 h => .p I (.call I (kC I) I (zjt _ _ _ q20))<|.p I (.build I Pl53 (.agg Zc53 (ds' := [_, .val (.slice none 0 0), .val (.slice none 0 0), eR []]) (.e (.e (.e .o1)))) I I)<|.allocZ I I I I (.agg Zc53 (ds' := [eK [], .val (.slice none 0 0), .val (.slice none 0 0), eR []]) (.o (.e (.e .o1)))) I<|.nilCell 3 1 2 33 I I<|.nilCell 3 2 3 99 I I<|.store I I I I I I (.ofD I) C53 I (yd I)<|.nilCell 3 1 2 33 I I<|.nilCell 3 2 3 99 I I ?_
   refine .nil<|.seq<|.sr<|.f I (G30_3 _) Y25 I<|.p I (.len I U25 I)<|.m I<|.nil<|.block<|.loopS [2, 3, 4, 6, 10, 11, 12, 73, 74] (fun (v : (List Row) × Int) => [(75, .d (.int v.2))]) (fun (v : (List Row) × Int) => [(3, .box 53 [.d (eK x20), .vec 6 (List.length v.1), .vec 7 (List.length ([] : List Graph)), .d (eR [])]), (6, .vec 33 2 (List.map Row.enc v.1))]) (.c8 I<|.c I .nil) h ⟨_, Fz8 I<|Fz4 I<|FzE⟩ (fun _ v h => ?_)
   obtain ⟨b6_49, x50⟩ := v
   refine .sr<|.p I (.ls I)<|.nil<|.keep [.box 53 [.d (eK []), .d (eH []), .d (eO []), .d (eR [])], .dead, .dead, .box 53 [.d (eK x20), .vec 6 (List.length b6_49), .vec 7 (List.length ([] : List Graph)), .d (eR [])], .vec 33 2 (List.map Row.enc ([] : List Row)), .vec 99 3 (List.map Graph.enc ([] : List Graph)), .vec 33 2 (List.map Row.enc b6_49), .vec 99 3 (List.map Graph.enc ([] : List Graph))] [2, 3, 4, 6, 10, 11, 12, 73, 74, 75, 76] (.c8 I<|.c2 I<|.c I .nil) I<|.seq<|.condS I h (fun h => ?_) fun h => ?_
   ·refine .skip<|.join [2, 3, 4, 6, 10, 11, 12, 73, 74, 75] (fun (v : (List Row)) => []) (fun (v : (List Row)) => [(3, .box 53 [.d (eK x20), .vec 6 (List.length v), .vec 7 (List.length ([] : List Graph)), .d (eR [])]), (6, .vec 33 2 (List.map Row.enc v))]) (.c8 I<|.c2 I .nil) h (fun k_53 h => ?_) (fun b6_52 h => ?_)
    ·refine .block<|.sr<|.m I<|bK h fun x54 q54 h => .p I (.ix I U25 S78 q54)<|.p I (.ld Y78 I)<|.allocZ I I I I (.agg Zc78 (ds' := [.int 0, .int 0, eL [], .int 0, .int 0, .int 0]) (.e (.e (.o (.e (.e .e1)))))) I<|.z I<|.store I I I I I I (.ofD I) C78 I (yd I)<|.nil<|.seq<|.sr<|.p I (.fieldAddrLoc I I I F78_0)<|.p I (.loadLoc1 I I I Y3 I)<|.p I (.ne I)<|.nil<|.condS I h (fun h => ?_) fun h => ?_
     ·refine .exit ⟨_, h, _, Fz8 I<|Fz4 I<|FzE⟩
     ·refine .skip<|.seq<|.draw 10 Hm (by kernel_rfl) (by kernel_rfl)<|.p I (.ld Y84 I)<|.p I (.fieldAddrLoc I I I F78_2)<|.p I (.loadLoc I I I Y33 (yd I) (v := .d (Row.enc x54.row)) I)<|bK h fun x55 q55 h => .p I (.call I (kC I) I (zan _ _ _ _ q55))<|.p I (.ld Y84 I)<|.p I (.fieldAddrLoc I I I F78_2)<|.p I (.loadLoc I I I Y33 (yd I) (v := .d (Row.enc x54.row)) I)<|bK h fun x56 q56 h => .p I (.call I (kC I) I (zan _ _ _ _ q56))<|.z I<|.z I<|.nil<|.nil<|.keep [.box 53 [.d (eK []), .d (eH []), .d (eO []), .d (eR [])], .dead, .dead, .box 53 [.d (eK x20), .vec 6 (List.length b6_49), .vec 7 (List.length ([] : List Graph)), .d (eR [])], .vec 33 2 (List.map Row.enc ([] : List Row)), .vec 99 3 (List.map Graph.enc ([] : List Graph)), .vec 33 2 (List.map Row.enc b6_49), .vec 99 3 (List.map Graph.enc ([] : List Graph)), .box 78 [.d (.int x54.kind), .d (.int x54.family), .d (eL x54.row.terms), .d (.int x54.row.bound), .d (.int x54.first), .d (.int x54.size)]] [2, 3, 4, 6, 10, 11, 12, 13, 14, 15, 16, 73, 74, 75] (.c8 I<|.c4 I<|.c2 I .nil) I<|.sr<|.m I<|.m I<|.p I (.max3 I I I I)<|.z I<|.nil<|.join [2, 3, 4, 6, 10, 11, 12, 14, 73, 74, 75] (fun (v : Int) => [(17, .d (.int v))]) (fun (v : Int) => []) (.c8 I<|.c2 I<|.c I .nil) h (fun k_58 h => ?_) (fun x57 h => ?_)
      ·refine .seq<|.plain 15 I<|.m I<|.m I<|bK h fun x59 q59 h => .p I (.call I (kC I) I (zcs _ _ _ _ q59))<|.m I<|.jA 10 (t1.target.hold || (t1.target.index != x50)) I (fun b60 => ?_) ?_
       ·refine .q I (.fa I (G37_2 _))<|.qf I (G35_0 _) Y4 I<|.qm I<|.jOr 5 (b2 := t1.target.index != x50) I I I I (.inr ⟨_, _, _, I, I, I⟩) (fun _ _ _ h1 h2 => by cases h1; cases h2; decide) I I (fun b61 => ?_) ?_
        ·refine .q I (.fa I (G37_2 _))<|.qf I (G35_1 _) Y3 I<|.qm I<|.q I (.ne I)<|.nil I
        exact .nil I
       refine .nil<|.nil<|.keep [.box 53 [.d (eK []), .d (eH []), .d (eO []), .d (eR [])], .dead, .dead, .box 53 [.d (eK x20), .vec 6 (List.length b6_49), .vec 7 (List.length ([] : List Graph)), .d (eR [])], .vec 33 2 (List.map Row.enc ([] : List Row)), .vec 99 3 (List.map Graph.enc ([] : List Graph)), .vec 33 2 (List.map Row.enc b6_49), .vec 99 3 (List.map Graph.enc ([] : List Graph)), .box 78 [.d (.int x54.kind), .d (.int x54.family), .d (eL x54.row.terms), .d (.int x54.row.bound), .d (.int x54.first), .d (.int x54.size)]] [2, 3, 4, 6, 10, 11, 12, 14, 15, 16, 17, 73, 74, 75, 108] (.c8 I<|.c4 I<|.c2 I<|.c I .nil) I<|.condS I h (fun h => ?_) fun h => ?_
       ·refine .region<|.m I<|.m I<|.m I<|.p I (.ad I)<|.p I (.max2 I I I)<|.z I<|.nil ⟨_, h, _, Fz8 I<|Fz4 I<|Fz2 I<|FzE⟩
       ·refine .skip ⟨_, h, _, Fz8 I<|Fz4 I<|Fz2 I<|FzE⟩
      ·refine .draw 8 Hm (by kernel_rfl) (by kernel_rfl)<|.p I (.fieldAddrLoc I I I F53_1)<|.p I (.loadLoc1 I I I Y49 I)<|.p I (.fieldAddrLoc I I I F78_2)<|.p I (.loadLoc I I I Y33 (yd I) (v := .d (Row.enc x54.row)) I)<|.m I<|.p I (.call I (kC I) I (zhU n x57))<|bK h fun x62 q62 h => .p I (.call I (kC I) I (zbQ _ _ _ _ _ (fun q0 y hq => ⟨_, _, I, K51, zdi _ q0 _ hq⟩) _ (fun q0 y hq => ⟨_, _, I, K112, zg0 _ q0 _ _ hq⟩) _ q62))<|.p I (.buildSl [_] I I E49 I (fun _ => I) I (enc := Row.enc))<|.nil<|bK h fun x63 q63 h => .app I I I I I I I I E49 I (fun _ => I) q63<|.p I (.fieldAddrLoc I I I F53_1)<|.store I I I I I I (.cons (.vec I (by simp)) .nil) C49 I (yd I)<|.nil ⟨_, h, _, Fz8 I<|Fz4 I<|FzE⟩
    ·refine .region<|.p I (.ad I)<|.m I<|.nil ⟨_, h, _, Fz8 I<|Fz4 I<|FzE⟩
   ·refine .exit<|.sr<|.p I (.fa I (G84_2 _))<|.f I (G82_1 _) Y49 I<|bK h fun x64 q64 h => .clone (enc := Row.enc) I I I I K53 Tryz.func53 I I I I E49 I (fun _ => I) (fun _ => I) q64 I I<|.z I<|.nil<|.join [3, 4, 6, 10, 11, 12] (fun (v : (List Row)) => [(18, .vec 8 (List.length v))]) (fun (v : (List Row)) => [(8, .vec 33 2 (List.map Row.enc v))]) (.c4 I<|.c2 I .nil) h (fun k_66 h => ?_) (fun b8_65 h => ?_)
    ·refine .sr<|.f I (G37_0 _) Y3 I<|.f I (G37_1 _) Y3 I<|.p I (.ne I)<|.nil<|.condS I h (fun h => ?_) fun h => ?_
     ·refine .region<|.m I<|.p I (.fa I (G84_2 _))<|.f I (G82_1 _) Y49 I<|bK h fun x67 q67 h => .app I I I I I I I I E49 I (fun _ => I) q67<|.z I<|.nil ⟨_, h, _, Fz8 I<|Fz2 I trivial⟩
     ·refine .skip ⟨_, h, _, Fz8 I<|Fz2 I trivial⟩
    ·refine .seq<|.sr<|.m I<|.p I (.lenV I U49 I I I)<|.m I<|.nil<|.keep [.box 53 [.d (eK []), .d (eH []), .d (eO []), .d (eR [])], .dead, .dead, .box 53 [.d (eK x20), .vec 6 (List.length b6_49), .vec 7 (List.length ([] : List Graph)), .d (eR [])], .vec 33 2 (List.map Row.enc ([] : List Row)), .vec 99 3 (List.map Graph.enc ([] : List Graph)), .vec 33 2 (List.map Row.enc b6_49), .vec 99 3 (List.map Graph.enc ([] : List Graph)), .vec 33 2 (List.map Row.enc b8_65)] [3, 4, 6, 10, 11, 12, 139, 140, 141] (.c8 I<|.c I .nil) I<|.block<|.loopS [3, 4, 6, 10, 11, 12, 139, 140] (fun (v : (List Row) × Int) => [(141, .d (.int v.2))]) (fun (v : (List Row) × Int) => [(3, .box 53 [.d (eK x20), .vec 6 (List.length v.1), .vec 7 (List.length ([] : List Graph)), .d (eR [])]), (6, .vec 33 2 (List.map Row.enc v.1))]) (.c8 I .nil) h ⟨_, Fz8 I<|Fz4 I trivial⟩ (fun _ v h => ?_)
     obtain ⟨b6_78, x79⟩ := v
     refine .sr<|.p I (.ls I)<|.nil<|.keep [.box 53 [.d (eK []), .d (eH []), .d (eO []), .d (eR [])], .dead, .dead, .box 53 [.d (eK x20), .vec 6 (List.length b6_78), .vec 7 (List.length ([] : List Graph)), .d (eR [])], .vec 33 2 (List.map Row.enc ([] : List Row)), .vec 99 3 (List.map Graph.enc ([] : List Graph)), .vec 33 2 (List.map Row.enc b6_78), .vec 99 3 (List.map Graph.enc ([] : List Graph)), .vec 33 2 (List.map Row.enc b8_65)] [3, 4, 6, 10, 11, 12, 139, 140, 141, 142] (.c8 I<|.c2 I .nil) I<|.seq<|.condS I h (fun h => ?_) fun h => ?_
     ·refine .skip<|.seq<|.block<|.sr<|bK h fun x81 q81 h => .p I (.idxV I I I I I U49 S33 q81)<|.p I (.loadEl I I I I q81 Y33 I)<|.allocStore I I I I I I I I (by simp) I I Z33<|.nil<|.draw 5 Hm (by kernel_rfl) (by kernel_rfl)<|.p I (.fieldAddrLoc I I I F53_1)<|.p I (.loadLoc1 I I I Y49 I)<|.p I (.ld Y33 I)<|bK h fun x82 q82 h => .p I (.call I (kC I) I (zbQ _ _ _ _ _ (fun q0 y hq => ⟨_, _, I, K51, zdi _ q0 _ hq⟩) _ (fun q0 y hq => ⟨_, _, I, K51, zdi _ q0 _ hq⟩) _ q82))<|.p I (.buildSl [_] I I E49 I (fun _ => I) I (enc := Row.enc))<|.nil<|bK h fun x83 q83 h => .app I I I I I I I I E49 I (fun _ => I) q83<|.p I (.fieldAddrLoc I I I F53_1)<|.store I I I I I I (.cons (.vec I (by simp)) .nil) C49 I (yd I)<|.nil<|.region<|.p I (.ad I)<|.m I<|.nil ⟨_, h, _, Fz8 I<|Fz4 I trivial⟩
     ·refine .exit<|.sr<|.p I (.makeFuncV I I)<|.z I<|.nil<|.sr<|.p I (.castD (Constraint.enc (⟨0, 0, (⟨[], 0⟩ : Row), 0, 0⟩ : Constraint)) I (.build I Pl78 (.agg Zc78 (ds' := [_, _, eL [], _, _, _]) (.e (.e (.o (.e (.e .e1)))))) I I))<|.allocZ I I I I (.agg Zc78 (ds' := [.int 0, .int 0, eL [], .int 0, .int 0, .int 0]) (.e (.e (.o (.e (.e .e1)))))) I<|.store I I I I I I (.ofD I) C78 I (yd I)<|.nil<|.join [3, 4, 6, 10, 11, 12, 22] (fun (v : (List Row) × Int × Int × (List Term) × Int × Int × Int) => []) (fun (v : (List Row) × Int × Int × (List Term) × Int × Int × Int) => [(3, .box 53 [.d (eK x20), .vec 6 (List.length v.1), .vec 7 (List.length ([] : List Graph)), .d (eR [])]), (6, .vec 33 2 (List.map Row.enc v.1)), (9, .box 78 [.d (.int v.2.1), .d (.int v.2.2.1), .d (eL v.2.2.2.1), .d (.int v.2.2.2.2.1), .d (.int v.2.2.2.2.2.1), .d (.int v.2.2.2.2.2.2)])]) (.c4 I<|.c2 I<|.c I .nil) h (fun k_91 h => ?_) (fun v h => ?_)
      ·refine .sr<|.p I (.fa I (G37_2 _))<|.f I (G35_0 _) Y4 I<|.nil<|.condS I h (fun h => ?_) fun h => ?_
       ·refine .sr<|.p I (.fa I (G84_2 _))<|.f I (G82_1 _) Y49 I<|.p I (.fa I (G37_2 _))<|.f I (G35_1 _) Y3 I<|bK h fun x92 q92 h => .p I (.ix I U49 S33 q92)<|.p I (.ld Y33 I)<|.allocStore I I I I I I I I (by simp) I I Z33<|.nil<|.keep [.box 53 [.d (eK []), .d (eH []), .d (eO []), .d (eR [])], .dead, .dead, .box 53 [.d (eK x20), .vec 6 (List.length b6_78), .vec 7 (List.length ([] : List Graph)), .d (eR [])], .vec 33 2 (List.map Row.enc ([] : List Row)), .vec 99 3 (List.map Graph.enc ([] : List Graph)), .vec 33 2 (List.map Row.enc b6_78), .vec 99 3 (List.map Graph.enc ([] : List Graph)), .vec 33 2 (List.map Row.enc b8_65), .box 78 [.d (.int 0), .d (.int 0), .d (eL []), .d (.int 0), .d (.int 0), .d (.int 0)]] [3, 4, 6, 10, 11, 12, 21, 22, 23] (.c8 I<|.c I .nil) I<|.draw 5 Hm (by kernel_rfl) (by kernel_rfl)<|.m I<|.p I (.ld Y33 I)<|.p I (.ld Y84 I)<|.p I (.ld Y33 I)<|bK h fun x93 q93 h => .p I (.call I (kC I) I (zan _ _ _ _ q93))<|.nil<|.inline (rs := []) I I (.clos I I K54 I) Tryz.func54 I Tryz.ntmps54 I I I I (fun own0 w gh => ?_)
        refine .sr<|.p I (.bx I)<|.p I (.bx I)<|.nil<|.keep [.box 53 [.d (eK []), .d (eH []), .d (eO []), .d (eR [])], .dead, .dead, .box 53 [.d (eK x20), .vec 6 (List.length b6_78), .vec 7 (List.length ([] : List Graph)), .d (eR [])], .vec 33 2 (List.map Row.enc ([] : List Row)), .vec 99 3 (List.map Graph.enc ([] : List Graph)), .vec 33 2 (List.map Row.enc b6_78), .vec 99 3 (List.map Graph.enc ([] : List Graph)), .vec 33 2 (List.map Row.enc b8_65), .box 78 [.d (.int 0), .d (.int 0), .d (eL []), .d (.int 0), .d (.int 0), .d (.int 0)]] [2, 3, 4] (.c2 I<|.c I .nil) I<|.draw 6 Hm (by kernel_rfl) (by kernel_rfl)<|.p I (.fieldAddrLoc I I I F53_1)<|.p I (.loadLoc1 I I I Y49 I)<|.p I (.ld Y33 I)<|.p I (.makeFunc I I)<|bK h fun x94 q94 h => .p I (.call I (kC I) I (zbQ _ _ _ _ _ (fun q0 y hq => ⟨_, _, I, K55, zdG _ q0 _ hq⟩) _ (fun q0 y hq => ⟨_, _, I, K56, zc2 _ q0 _ _ hq⟩) _ q94))<|.p I (.buildSl [_] I I E49 I (fun _ => I) I (enc := Row.enc))<|.nil<|bK h fun x95 q95 h => .app I I I I I I I I E49 I (fun _ => I) q95<|.p I (.fieldAddrLoc I I I F53_1)<|.store I I I I I I (.cons (.vec I (by simp)) .nil) C49 I (yd I)<|.nil <| ⟨.inr I, _, I, ?_⟩
        refine .nil ⟨_, h, _, Fz8 I<|Fz2 I trivial⟩
       ·refine .sr<|.f I (G30_3 _) Y25 I<|.p I (.fa I (G37_2 _))<|.f I (G35_1 _) Y3 I<|bK h fun x96 q96 h => .p I (.ix I U25 S78 q96)<|.p I (.ld Y78 I)<|.store I I I I I I (.ofD I) C78 I (yd I)<|.nil<|.keep [.box 53 [.d (eK []), .d (eH []), .d (eO []), .d (eR [])], .dead, .dead, .box 53 [.d (eK x20), .vec 6 (List.length b6_78), .vec 7 (List.length ([] : List Graph)), .d (eR [])], .vec 33 2 (List.map Row.enc ([] : List Row)), .vec 99 3 (List.map Graph.enc ([] : List Graph)), .vec 33 2 (List.map Row.enc b6_78), .vec 99 3 (List.map Graph.enc ([] : List Graph)), .vec 33 2 (List.map Row.enc b8_65), .box 78 [.d (.int x96.kind), .d (.int x96.family), .d (eL x96.row.terms), .d (.int x96.row.bound), .d (.int x96.first), .d (.int x96.size)]] [3, 4, 6, 10, 11, 12, 21, 22] (.c8 I .nil) I<|.sr<|.p I (.fieldAddrLoc I I I F78_0)<|.p I (.loadLoc1 I I I Y3 I)<|.p I (.eq I)<|.nil<|.condS I h (fun h => ?_) fun h => ?_
        ·refine .draw 12 Hm (by kernel_rfl) (by kernel_rfl)<|.m I<|.p I (.fieldAddrLoc I I I F78_2)<|.p I (.loadLoc I I I Y33 (yd I) (v := .d (Row.enc x96.row)) I)<|.p I (.ld Y84 I)<|.p I (.fieldAddrLoc I I I F78_2)<|.p I (.loadLoc I I I Y33 (yd I) (v := .d (Row.enc x96.row)) I)<|bK h fun x97 q97 h => .p I (.call I (kC I) I (zan _ _ _ _ q97))<|.p I (.ld Y84 I)<|.p I (.fieldAddrLoc I I I F78_2)<|.p I (.loadLoc I I I Y33 (yd I) (v := .d (Row.enc x96.row)) I)<|bK h fun x98 q98 h => .p I (.call I (kC I) I (zan _ _ _ _ q98))<|.p I (.ad I)<|.nil<|.inline (rs := []) I I (.clos I I K54 I) Tryz.func54 I Tryz.ntmps54 I I I I (fun own0 w gh => ?_)
         refine .sr<|.p I (.bx I)<|.p I (.bx I)<|.nil<|.keep [.box 53 [.d (eK []), .d (eH []), .d (eO []), .d (eR [])], .dead, .dead, .box 53 [.d (eK x20), .vec 6 (List.length b6_78), .vec 7 (List.length ([] : List Graph)), .d (eR [])], .vec 33 2 (List.map Row.enc ([] : List Row)), .vec 99 3 (List.map Graph.enc ([] : List Graph)), .vec 33 2 (List.map Row.enc b6_78), .vec 99 3 (List.map Graph.enc ([] : List Graph)), .vec 33 2 (List.map Row.enc b8_65), .box 78 [.d (.int x96.kind), .d (.int x96.family), .d (eL x96.row.terms), .d (.int x96.row.bound), .d (.int x96.first), .d (.int x96.size)]] [2, 3, 4] (.c2 I<|.c I .nil) I<|.draw 6 Hm (by kernel_rfl) (by kernel_rfl)<|.p I (.fieldAddrLoc I I I F53_1)<|.p I (.loadLoc1 I I I Y49 I)<|.p I (.ld Y33 I)<|.p I (.makeFunc I I)<|bK h fun x99 q99 h => .p I (.call I (kC I) I (zbQ _ _ _ _ _ (fun q0 y hq => ⟨_, _, I, K55, zdG _ q0 _ hq⟩) _ (fun q0 y hq => ⟨_, _, I, K56, zc2 _ q0 _ _ hq⟩) _ q99))<|.p I (.buildSl [_] I I E49 I (fun _ => I) I (enc := Row.enc))<|.nil<|bK h fun x100 q100 h => .app I I I I I I I I E49 I (fun _ => I) q100<|.p I (.fieldAddrLoc I I I F53_1)<|.store I I I I I I (.cons (.vec I (by simp)) .nil) C49 I (yd I)<|.nil <| ⟨.inr I, _, I, ?_⟩
         refine .nil ⟨_, h, _, Fz8 I<|Fz2 I trivial⟩
        ·refine .skip ⟨_, h, _, Fz8 I<|Fz2 I trivial⟩
      ·obtain ⟨b6_84, c9_0_85, c9_1_86, c9_2_87, c9_3_88, c9_4_89, c9_5_90⟩ := v
       refine .seq<|.sr<|.f I (G30_3 _) Y25 I<|.p I (.len I U25 I)<|.m I<|.nil<|.keep [.box 53 [.d (eK []), .d (eH []), .d (eO []), .d (eR [])], .dead, .dead, .box 53 [.d (eK x20), .vec 6 (List.length b6_84), .vec 7 (List.length ([] : List Graph)), .d (eR [])], .vec 33 2 (List.map Row.enc ([] : List Row)), .vec 99 3 (List.map Graph.enc ([] : List Graph)), .vec 33 2 (List.map Row.enc b6_84), .vec 99 3 (List.map Graph.enc ([] : List Graph)), .vec 33 2 (List.map Row.enc b8_65), .box 78 [.d (.int c9_0_85), .d (.int c9_1_86), .d (eL c9_2_87), .d (.int c9_3_88), .d (.int c9_4_89), .d (.int c9_5_90)]] [4, 6, 10, 11, 12, 22, 196, 197, 198] (.c8 I<|.c I .nil) I<|.block<|.loopS [4, 6, 10, 11, 12, 22, 196, 197] (fun (v : (List Graph) × Int) => [(198, .d (.int v.2))]) (fun (v : (List Graph) × Int) => [(3, .box 53 [.d (eK x20), .vec 6 (List.length b6_84), .vec 7 (List.length v.1), .d (eR [])]), (7, .vec 99 3 (List.map Graph.enc v.1))]) (.c8 I .nil) h ⟨_, Fz8 I<|Fz4 I trivial⟩ (fun _ v h => ?_)
       obtain ⟨b7_133, x134⟩ := v
       refine .sr<|.p I (.ls I)<|.nil<|.keep [.box 53 [.d (eK []), .d (eH []), .d (eO []), .d (eR [])], .dead, .dead, .box 53 [.d (eK x20), .vec 6 (List.length b6_84), .vec 7 (List.length b7_133), .d (eR [])], .vec 33 2 (List.map Row.enc ([] : List Row)), .vec 99 3 (List.map Graph.enc ([] : List Graph)), .vec 33 2 (List.map Row.enc b6_84), .vec 99 3 (List.map Graph.enc b7_133), .vec 33 2 (List.map Row.enc b8_65), .box 78 [.d (.int c9_0_85), .d (.int c9_1_86), .d (eL c9_2_87), .d (.int c9_3_88), .d (.int c9_4_89), .d (.int c9_5_90)]] [4, 6, 10, 11, 12, 22, 196, 197, 198, 199] (.c8 I<|.c2 I .nil) I<|.seq<|.condS I h (fun h => ?_) fun h => ?_
       ·refine .skip<|.join [4, 6, 10, 11, 12, 22, 196, 197, 198] (fun (v : (List Graph)) => []) (fun (v : (List Graph)) => [(3, .box 53 [.d (eK x20), .vec 6 (List.length b6_84), .vec 7 (List.length v), .d (eR [])]), (7, .vec 99 3 (List.map Graph.enc v))]) (.c8 I<|.c I .nil) h (fun k_137 h => ?_) (fun b7_136 h => ?_)
        ·refine .block<|.sr<|bK h fun x138 q138 h => .p I (.ix I U25 S78 q138)<|.p I (.ld Y78 I)<|.allocStore I I I I I I I I (by simp) I I Z78<|.nil<|.seq<|.sr<|.f I (G78_0 _) Y3 I<|.p I (.ne I)<|.nil<|.condS I h (fun h => ?_) fun h => ?_
         ·refine .exit ⟨_, h, _, Fz8 I<|Fz4 I trivial⟩
         ·refine .skip<|.seq<|.draw 5 Hm (by kernel_rfl) (by kernel_rfl)<|.p I (.fieldAddrLoc I I I F53_2)<|.p I (.loadLoc1 I I I Y50 I)<|.p I (.ld Y78 I)<|bK h fun x139 q139 h => .p I (.call I (kC I) I (zc3 _ _ _ _ (fun q0 y hq => ⟨_, _, I, K58, zfI _ q0 _ hq⟩) _ q139))<|.p I (.buildSl [_] I I E50 I (fun _ => I) I (enc := Graph.enc))<|.nil<|bK h fun x140 q140 h => .app I I I I I I I I E50 I (fun _ => I) q140<|.p I (.fieldAddrLoc I I I F53_2)<|.store I I I I I I (.cons (.vec I (by simp)) .nil) C50 I (yd I)<|.nil<|.join [4, 6, 10, 11, 12, 22, 25, 196, 197, 198] (fun (v : (List Graph)) => []) (fun (v : (List Graph)) => [(3, .box 53 [.d (eK x20), .vec 6 (List.length b6_84), .vec 7 (List.length v), .d (eR [])]), (7, .vec 99 3 (List.map Graph.enc v))]) (.c8 I<|.c2 I .nil) h (fun k_142 h => ?_) (fun b7_141 h => ?_)
          ·refine .sr<|.p I (.ld Y84 I)<|.p I (.ld Y78 I)<|bK h fun x143 q143 h => .p I (.call I (kC I) I (zb4 _ _ _ _ q143))<|.p I (.len I U22 I)<|.p I (.gt I)<|.nil<|.keep [.box 53 [.d (eK []), .d (eH []), .d (eO []), .d (eR [])], .dead, .dead, .box 53 [.d (eK x20), .vec 6 (List.length b6_84), .vec 7 (List.length x140), .d (eR [])], .vec 33 2 (List.map Row.enc ([] : List Row)), .vec 99 3 (List.map Graph.enc ([] : List Graph)), .vec 33 2 (List.map Row.enc b6_84), .vec 99 3 (List.map Graph.enc x140), .vec 33 2 (List.map Row.enc b8_65), .box 78 [.d (.int c9_0_85), .d (.int c9_1_86), .d (eL c9_2_87), .d (.int c9_3_88), .d (.int c9_4_89), .d (.int c9_5_90)]] [4, 6, 10, 11, 12, 22, 25, 196, 197, 198, 216] (.c8 I<|.c2 I<|.c I .nil) I<|.condS I h (fun h => ?_) fun h => ?_
           ·refine .draw 6 Hm (by kernel_rfl) (by kernel_rfl)<|.p I (.fieldAddrLoc I I I F53_2)<|.p I (.loadLoc1 I I I Y50 I)<|.p I (.ld Y78 I)<|.p I (.makeFunc I I)<|bK h fun x144 q144 h => .p I (.call I (kC I) I (zc3 _ _ _ _ (fun q0 y hq => ⟨_, _, I, K60, zfJ _ q0 _ _ hq⟩) _ q144))<|.p I (.buildSl [_] I I E50 I (fun _ => I) I (enc := Graph.enc))<|.nil<|bK h fun x145 q145 h => .app I I I I I I I I E50 I (fun _ => I) q145<|.p I (.fieldAddrLoc I I I F53_2)<|.store I I I I I I (.cons (.vec I (by simp)) .nil) C50 I (yd I)<|.nil ⟨_, h, _, Fz8 I<|Fz4 I<|FzE⟩
           ·refine .skip ⟨_, h, _, Fz8 I<|Fz4 I<|FzE⟩
          ·refine .seq<|.plain 12 I<|.f I (G37_0 _) Y3 I<|.f I (G37_1 _) Y3 I<|.p I (.ne I)<|.m I<|gK h fun c147 h => .jA 5 (decide (0 < (((zz n x19 x138).getD default).length : Int))) I (fun b146 => ?_) ?_
           ·refine .q I (.ld Y84 I)<|.q I (.ld Y78 I)<|.q I (.call I (kC I) I (zb4 _ _ _ _ (someD (impT c147 b146))))<|.q I (.len I U22 I)<|.q I (.gt I)<|.nil I
           refine .nil<|.nil<|.keep [.box 53 [.d (eK []), .d (eH []), .d (eO []), .d (eR [])], .dead, .dead, .box 53 [.d (eK x20), .vec 6 (List.length b6_84), .vec 7 (List.length b7_141), .d (eR [])], .vec 33 2 (List.map Row.enc ([] : List Row)), .vec 99 3 (List.map Graph.enc ([] : List Graph)), .vec 33 2 (List.map Row.enc b6_84), .vec 99 3 (List.map Graph.enc b7_141), .vec 33 2 (List.map Row.enc b8_65), .box 78 [.d (.int c9_0_85), .d (.int c9_1_86), .d (eL c9_2_87), .d (.int c9_3_88), .d (.int c9_4_89), .d (.int c9_5_90)]] [4, 6, 10, 11, 12, 22, 25, 196, 197, 198, 236] (.c8 I<|.c2 I<|.c I .nil) I<|.condS I h (fun h => ?_) fun h => ?_
           ·refine .draw 6 Hm (by kernel_rfl) (by kernel_rfl)<|.p I (.fieldAddrLoc I I I F53_2)<|.p I (.loadLoc1 I I I Y50 I)<|.p I (.ld Y78 I)<|.p I (.makeFunc I I)<|bK h fun x148 q148 h => .p I (.call I (kC I) I (zc3 _ _ _ _ (fun q0 y hq => ⟨_, _, I, K62, zfK _ q0 _ _ hq⟩) _ q148))<|.p I (.buildSl [_] I I E50 I (fun _ => I) I (enc := Graph.enc))<|.nil<|bK h fun x149 q149 h => .app I I I I I I I I E50 I (fun _ => I) q149<|.p I (.fieldAddrLoc I I I F53_2)<|.store I I I I I I (.cons (.vec I (by simp)) .nil) C50 I (yd I)<|.nil ⟨_, h, _, Fz8 I<|Fz4 I trivial⟩
           ·refine .skip ⟨_, h, _, Fz8 I<|Fz4 I trivial⟩
        ·refine .region<|.p I (.ad I)<|.m I<|.nil ⟨_, h, _, Fz8 I<|Fz4 I trivial⟩
       ·refine .exit<|.join [6, 12] (fun (v : (List Row) × (List (List Row))) => []) (fun (v : (List Row) × (List (List Row))) => [(3, .box 53 [.d (eK x20), .vec 6 (List.length v.1), .vec 7 (List.length b7_133), .d (eR v.2)]), (6, .vec 33 2 (List.map Row.enc v.1))]) (.c2 I .nil) h (fun k_152 h => ?_) (fun v h => ?_)
        ·refine .sr<|.p I (.fieldAddrLoc I I I F78_0)<|.p I (.loadLoc1 I I I Y3 I)<|.p I (.eq I)<|.nil<|.condS I h (fun h => ?_) fun h => ?_
         ·refine .sr<|.p I (.fieldAddrLoc I I I F53_0)<|.p I (.loadLoc1 I I I Y48 I)<|.p I (.loadLoc I I I Y78 (yd I) (v := .d (Constraint.enc (⟨c9_0_85, c9_1_86, (⟨c9_2_87, c9_3_88⟩ : Row), c9_4_89, c9_5_90⟩ : Constraint))) I)<|.p I (.ld Y84 I)<|.p I (.ld Y84 I)<|bK h fun x153 q153 h => .p I (.call I (kC I) I (zhf _ _ _ _ _ _ q153))<|.p I (.fieldAddrLoc I I I F53_3)<|.store I I I I I I (.ofD I) C51 I (yd I)<|.nil<|.sr<|.p I (.fieldAddrLoc I I I F53_3)<|.p I (.loadLoc1 I I I Y51 I)<|.p I (.len I U51 I)<|.p I (.eq I)<|.nil<|.condS I h (fun h => ?_) fun h => ?_
          ·refine .region<|.p I (.fieldAddrLoc I I I F53_1)<|.p I (.loadLoc1 I I I Y49 I)<|.p I (.castD (Row.enc (⟨[], (-1)⟩ : Row)) I (.build I Pl33 (.agg Zc33 (ds' := [eL [], _]) (.o .e1)) I I))<|.p I (.buildSl [_] I I E49 I (fun _ => I) I (enc := Row.enc))<|bK h fun x154 q154 h => .app I I I I I I I I E49 I (fun _ => I) q154<|.p I (.fieldAddrLoc I I I F53_1)<|.store I I I I I I (.cons (.vec I (by simp)) .nil) C49 I (yd I)<|.nil ⟨_, h, _, Fz4 I<|FzE⟩
          ·refine .skip ⟨_, h, _, Fz4 I<|FzE⟩
         ·refine .skip ⟨_, h, _, Fz4 I<|FzE⟩
        ·obtain ⟨b6_150, c3_3_151⟩ := v
         refine .seq<|.sr<|.p I (.loadLoc I I I Y53 (yd I) I)<|bK h fun x155 q155 h => .p I (.callB I (kC I) (.cons I (.agg (.v (.cons (.vec I (by simp)) (.cons (.vec I (by simp)) .v1)))) .nil) I (zjP _ _ _ q155))<|.p I (.nt I)<|.nil<|.keep [.box 53 [.d (eK []), .d (eH []), .d (eO []), .d (eR [])], .dead, .dead, .box 53 [.d (eK x20), .vec 6 (List.length b6_150), .vec 7 (List.length b7_133), .d (eR c3_3_151)], .vec 33 2 (List.map Row.enc ([] : List Row)), .vec 99 3 (List.map Graph.enc ([] : List Graph)), .vec 33 2 (List.map Row.enc b6_150), .vec 99 3 (List.map Graph.enc b7_133), .vec 33 2 (List.map Row.enc b8_65), .box 78 [.d (.int c9_0_85), .d (.int c9_1_86), .d (eL c9_2_87), .d (.int c9_3_88), .d (.int c9_4_89), .d (.int c9_5_90)]] [6, 12, 268] (.c2 I<|.c I .nil) I<|.condS I h (fun h => ?_) fun h => ?_
         ·refine .sr<|.p I (.castD (System.enc (⟨[], [], [], []⟩ : System)) I (.build I Pl53 (.agg Zc53 (ds' := [eK [], eH [], eO [], eR []]) (.o (.o (.o .o1)))) I I))<|.store I I I I I I (.ofD I) C53 I (yd I)<|.z I<|.nil<|.ret ?_
          cases h
          exact zcz I I Y53 (.v (.v (.v .v1))) I (.d _)
         ·refine .skip<|.sr<|.p I (.loadLoc I I I Y53 (yd I) I)<|.store I I I I I I (.cons (.d I) (.cons (.vec I (by simp)) (.cons (.vec I (by simp)) (.cons (.d I) .nil)))) C53 I (yd I)<|.z I<|.nil<|.ret ?_
          cases h
          exact zcz I I Y53 (.v (.cons (.vec I (by simp)) (.cons (.vec I (by simp)) .v1))) I (.d _)
theorem zeL (n : Nat) (t0 : Model) (t1 : Question) (r : Bool) (h : zcH n t0 t1 = some r) : Pure pg 44 [Model.enc t0, Question.enc t1] (.bool r) := by
 refine Pure.ot Tryz.func44 I Tryz.ntmps44 I fun A w => .sr<|.p I (.bx I)<|.p I (.bx I)<|.z I<|.nil<|.seq<|.draw 16 Hm (by kernel_rfl) (by kernel_rfl)<|.f I (G30_5 _) Y27 I<|.f I (G37_0 _) Y3 I<|bK h fun x1 q1 h => .p I (.ix I U27 S84 q1)<|.p I (.ld Y84 I)<|.f I (G30_5 _) Y27 I<|.f I (G37_1 _) Y3 I<|bK h fun x2 q2 h => .p I (.ix I U27 S84 q2)<|.p I (.ld Y84 I)<|.alloc I I I I ZZ84<|.alloc I I I I ZZ84<|.store I I I I I I Z84<|.store I I I I I I Z84<|.nil<|.freezes [0, 1] (.cons (t := 5) (d := .ref (Action.enc x1)) I (.loc (inIds I) I (.v (.v (.v (.v .v1))))) (.cons (t := 6) (d := .ref (Action.enc x2)) I (.loc (inIds I) I (.v (.v (.v (.v .v1))))) .nil))<|.nil<|.keep [.dead, .dead] [2, 3, 5, 6] (.c4 I .nil) I<|.seq<|.sr<|.p I (.fa I (G37_2 _))<|.f I (G35_0 _) Y4 I<|.nil<|.condS I h (fun h => ?_) fun h => ?_
 ·refine .seq<|.draw 12 Hm (by kernel_rfl) (by kernel_rfl)<|.p I (.ld Y84 I)<|.p I (.fa I (G84_2 _))<|.f I (G82_1 _) Y49 I<|.p I (.fa I (G37_2 _))<|.f I (G35_1 _) Y3 I<|bK h fun x3 q3 h => .p I (.ix I U49 S33 q3)<|.p I (.ld Y33 I)<|bK h fun x4 q4 h => .p I (.call I (kC I) I (zan _ _ _ _ q4))<|.p I (.gt I)<|.z I<|.nil<|.nil<|.ret (rO h I)
 ·refine .skip<|.sr<|.f I (G30_3 _) Y25 I<|.p I (.fa I (G37_2 _))<|.f I (G35_1 _) Y3 I<|bK h fun x5 q5 h => .p I (.ix I U25 S78 q5)<|.p I (.ld Y78 I)<|.allocStore I I I I I I I I (by simp) I I Z78<|.nil<|.seq<|.sr<|.f I (G78_0 _) Y3 I<|.p I (.eq I)<|.nil<|.condS I h (fun h => ?_) fun h => ?_
  ·refine .seq<|.plain 12 I<|.p I (.ld Y84 I)<|.f I (G78_2 _) Y33 I<|bK h fun x6 q6 h => .p I (.call I (kC I) I (zan _ _ _ _ q6))<|.p I (.gt I)<|.m I<|gK h fun c8 h => .jA 5 (decide (0 < ((zj n x2 x5.row).getD default))) I (fun b7 => ?_) ?_
   ·refine .q I (.ld Y84 I)<|.qf I (G78_2 _) Y33 I<|.q I (.call I (kC I) I (zan _ _ _ _ (someD (impT c8 b7))))<|.q I (.gt I)<|.nil I
   refine .nil<|.z I<|.nil<|.keep [.dead, .dead] [4] (.c I .nil) I<|.ret (rO h I)
  ·refine .skip<|.seq<|.plain 12 I<|.p I (.ld Y84 I)<|.p I (.ld Y78 I)<|bK h fun x9 q9 h => .p I (.call I (kC I) I (zb4 _ _ _ _ q9))<|.p I (.len I U22 I)<|.p I (.gt I)<|.m I<|gK h fun c11 h => .jA 5 (decide (0 < (((zz n x2 x5).getD default).length : Int))) I (fun b10 => ?_) ?_
   ·refine .q I (.ld Y84 I)<|.q I (.ld Y78 I)<|.q I (.call I (kC I) I (zb4 _ _ _ _ (someD (impT c11 b10))))<|.q I (.len I U22 I)<|.q I (.gt I)<|.nil I
   refine .nil<|.z I<|.nil<|.keep [.dead, .dead] [4] (.c I .nil) I<|.ret (rO h I)
theorem zcU (n : Nat) (t0 : Question) (t1 : Model) (r : Bool) (h : zci n t0 t1 = some r) : Pure pg 47 [Question.enc t0, .ref (Model.enc t1)] (.bool r) := by
 refine Pure.ot Tryz.func47 I Tryz.ntmps47 I fun A w => .sr<|.p I (.bx I)<|.z I<|.nil<|.sr<|.p I (.ld Y30 I)<|.p I (.ld Y37 I)<|bK h fun x1 q1 h => .p I (.call I (kC I) I (zeL _ _ _ _ q1))<|.p I (.nt I)<|.z I<|.nil<|.ret (rO h I)
theorem zcd (n : Nat) (t0 : List Question) (t1 : Question → Option Bool) (F1 : D) (hF1 : ∀ (q0 : Question) (y : Bool), t1 q0 = some y → Dyn pg F1 [Question.enc q0] (.bool y)) (r : Int) (h : zaa n t0 t1 = some r) : Pure pg 109 [eP t0, F1] (.int r) := by
 refine Pure.ot Tryz.func109 I Tryz.ntmps109 I fun A w => .sr<|.z I<|.nil<|.seq<|.sr<|.m I<|.p I (.len I U46 I)<|.m I<|.nil<|.block<|.loopS [0, 1, 7] (fun (v : Int) => [(8, .d (.int v))]) (fun (v : Int) => []) (.c2 I<|.c I .nil) h ⟨_, Fz4 I<|Fz2 I<|FzE⟩ (fun _ x7 h => ?_)
 refine .sr<|.p I (.ls I)<|.nil<|.keep [] [0, 1, 7, 8, 9] (.c4 I<|.c I .nil) I<|.seq<|.condS I h (fun h => ?_) fun h => ?_
 ·refine .skip<|.seq<|.block<|.sr<|.m I<|.z I<|.nil<|.sr<|.m I<|.m I<|.m I<|bK h fun x9 q9 h => .p I (.ix I U46 S37 q9)<|.p I (.ld Y37 I)<|bK h fun x10 q10 h => .p I (.dyn I I I (hF1 _ _ q10))<|.nil<|.condS I h (fun h => ?_) fun h => ?_
  ·refine .sr<|.m I<|.z I<|.nil<|.ret (rO h I)
  ·refine .skip<|.region<|.p I (.ad I)<|.m I<|.nil ⟨_, h, _, Fz4 I<|Fz2 I<|FzE⟩
 ·refine .exit<|.sr<|.z I<|.nil<|.ret (rO h I)
theorem zfx (n : Nat) (t0 : Model) (r : List Question) (h : zS n t0 = some r) : Pure pg 17 [Model.enc t0] (eP r) := by
 refine Pure.ot Tryz.func17 I Tryz.ntmps17 I fun A w => .sr<|.p I (.bx I)<|.p I (.nilS 4 (α := Question) Question.enc I)<|.nil<|.seq<|.sr<|.p I (.ld Y30 I)<|bK h fun x1 q1 h => .p I (.call I (kC I) I (zdp _ _ _ q1))<|.p I (.nt I)<|.nil<|.condS I h (fun h => ?_) fun h => ?_
 ·refine .sr<|.p I (.nilS 4 (α := Question) Question.enc I)<|.nil<|.ret ?_
  cases h
  exact zbv I (.d _)
 ·refine .skip<|.sr<|.z I<|.nilVec 3 4 37 I<|.nil<|.seq<|.sr<|.f I (G30_5 _) Y27 I<|.p I (.len I U27 I)<|.m I<|.nil<|.block<|.loopS [1, 14] (fun (v : (List Question) × Int) => [(3, .vec 0 (List.length v.1)), (15, .d (.int v.2))]) (fun (v : (List Question) × Int) => [(0, .vec 37 4 (List.map Question.enc v.1))]) (.c2 I .nil) h ⟨_, Fz4 I<|Fz2 I<|FzE⟩ (fun _ v h => ?_)
  obtain ⟨b0_980, x981⟩ := v
  refine .sr<|.p I (.ls I)<|.nil<|.keep [.vec 37 4 (List.map Question.enc b0_980)] [1, 3, 14, 15, 16] (.c4 I<|.c I .nil) I<|.seq<|.condS I h (fun h => ?_) fun h => ?_
  ·refine .skip<|.seq<|.block<|.sr<|.m I<|.z I<|.nil<|.sr<|.f I (G30_5 _) Y27 I<|.p I (.len I U27 I)<|.m I<|.nil<|.block<|.loopS [1, 4, 14, 15, 20] (fun (v : (List Question) × Int) => [(3, .vec 0 (List.length v.1)), (21, .d (.int v.2))]) (fun (v : (List Question) × Int) => [(0, .vec 37 4 (List.map Question.enc v.1))]) (.c4 I<|.c I .nil) h ⟨_, Fz8 I<|Fz2 I trivial⟩ (fun _ v h => ?_)
   obtain ⟨b0_1307, x1308⟩ := v
   refine .sr<|.p I (.ls I)<|.nil<|.keep [.vec 37 4 (List.map Question.enc b0_1307)] [1, 3, 4, 14, 15, 20, 21, 22] (.c8 I .nil) I<|.seq<|.condS I h (fun h => ?_) fun h => ?_
   ·refine .skip<|.join [1, 4, 14, 15, 20, 21] (fun (v : (List Question)) => [(3, .vec 0 (List.length v))]) (fun (v : (List Question)) => [(0, .vec 37 4 (List.map Question.enc v))]) (.c4 I<|.c2 I .nil) h (fun k_1311 h => ?_) (fun b0_1310 h => ?_)
    ·refine .block<|.sr<|.m I<|.z I<|.nil<|.sr<|.z I<|.nilVec 6 4 37 I<|.nil<|.seq<|.sr<|.f I (G30_3 _) Y25 I<|.p I (.len I U25 I)<|.m I<|.nil<|.block<|.loopS [1, 3, 4, 5, 14, 15, 20, 21, 26] (fun (v : (List Question) × Int) => [(6, .vec 1 (List.length v.1)), (27, .d (.int v.2))]) (fun (v : (List Question) × Int) => [(1, .vec 37 4 (List.map Question.enc v.1))]) (.c8 I<|.c I .nil) h ⟨_, Fz8 I<|Fz4 I<|Fz2 I trivial⟩ (fun _ v h => ?_)
     obtain ⟨b1_1322, x1323⟩ := v
     refine .sr<|.p I (.ls I)<|.nil<|.keep [.vec 37 4 (List.map Question.enc b0_1307), .vec 37 4 (List.map Question.enc b1_1322)] [1, 3, 4, 5, 6, 14, 15, 20, 21, 26, 27, 28] (.c8 I<|.c4 I .nil) I<|.seq<|.condS I h (fun h => ?_) fun h => ?_
     ·refine .skip<|.join [1, 3, 4, 5, 14, 15, 20, 21, 26, 27] (fun (v : (List Question)) => [(6, .vec 1 (List.length v))]) (fun (v : (List Question)) => [(1, .vec 37 4 (List.map Question.enc v))]) (.c8 I<|.c2 I .nil) h (fun k_1326 h => ?_) (fun b1_1325 h => ?_)
      ·refine .block<|.sr<|.m I<|.z I<|.nil<|.sr<|.m I<|.m I<|.p I (.le I)<|.nil<|.condS I h (fun h => ?_) fun h => ?_
       ·refine .region<|.m I<|.m I<|.m I<|.m I<|.p I (.castD (Target.enc (⟨false, x1323⟩ : Target)) I (.build I Pl35 (.agg Zc35 (ds' := [_, _]) (.e .e1)) I I))<|.p I (.castD (Question.enc (⟨x981, x1308, (⟨false, x1323⟩ : Target)⟩ : Question)) I (.build I Pl37 (.agg Zc37 (ds' := [_, _, _, _]) (.e (.e (.e .e1)))) I I))<|.p I (.buildSl [_] I I E46 I (fun _ => I) I (enc := Question.enc))<|bK h fun x1327 q1327 h => .app I I I I I I I I E46 I (fun _ => I) q1327<|.z I<|.nil ⟨_, h, _, Fz8 I<|Fz4 I<|Fz2 I trivial⟩
       ·refine .skip ⟨_, h, _, Fz8 I<|Fz4 I<|Fz2 I trivial⟩
      ·refine .region<|.p I (.ad I)<|.m I<|.nil ⟨_, h, _, Fz8 I<|Fz4 I<|Fz2 I trivial⟩
     ·refine .exit<|.seq<|.sr<|.f I (G30_5 _) Y27 I<|.m I<|bK h fun x1328 q1328 h => .p I (.ix I U27 S84 q1328)<|.p I (.fa I (G84_2 _))<|.f I (G82_1 _) Y49 I<|.p I (.len I U49 I)<|.m I<|.nil<|.block<|.loopS [1, 3, 4, 5, 14, 15, 20, 21, 49] (fun (v : (List Question) × Int) => [(6, .vec 1 (List.length v.1)), (50, .d (.int v.2))]) (fun (v : (List Question) × Int) => [(1, .vec 37 4 (List.map Question.enc v.1))]) (.c8 I<|.c I .nil) h ⟨_, Fz8 I<|Fz4 I<|Fz2 I trivial⟩ (fun _ v h => ?_)
      obtain ⟨b1_1335, x1336⟩ := v
      refine .sr<|.p I (.ls I)<|.nil<|.keep [.vec 37 4 (List.map Question.enc b0_1307), .vec 37 4 (List.map Question.enc b1_1335)] [1, 3, 4, 5, 6, 14, 15, 20, 21, 49, 50, 51] (.c8 I<|.c4 I .nil) I<|.seq<|.condS I h (fun h => ?_) fun h => ?_
      ·refine .skip<|.seq<|.block<|.sr<|.m I<|.z I<|.nil<|.region<|.m I<|.m I<|.m I<|.m I<|.p I (.castD (Target.enc (⟨true, x1336⟩ : Target)) I (.build I Pl35 (.agg Zc35 (ds' := [_, _]) (.e .e1)) I I))<|.p I (.castD (Question.enc (⟨x981, x1308, (⟨true, x1336⟩ : Target)⟩ : Question)) I (.build I Pl37 (.agg Zc37 (ds' := [_, _, _, _]) (.e (.e (.e .e1)))) I I))<|.p I (.buildSl [_] I I E46 I (fun _ => I) I (enc := Question.enc))<|bK h fun x1338 q1338 h => .app I I I I I I I I E46 I (fun _ => I) q1338<|.z I<|.nil<|.region<|.p I (.ad I)<|.m I<|.nil ⟨_, h, _, Fz8 I<|Fz4 I<|Fz2 I trivial⟩
      ·refine .exit<|.region<|.m I<|.m I<|.p I (.makeFunc I I)<|.inline (rs := [.tmp 4]) I I (.stat I K46 I) Tryz.func46 I Tryz.ntmps46 I I I I (fun own0 w gh => ?_)
       refine .sr<|.p I (.nilS 4 (α := Question) Question.enc I)<|.nil<|.keep [.vec 37 4 (List.map Question.enc b0_1307), .vec 37 4 (List.map Question.enc b1_1335)] [0, 1] (.c2 I .nil) I<|.sr<|.m I<|.m I<|bK h fun x1340 q1340 h => .p I (.callB I (kC I) (.cons I (.vec I (by simp)) (.cons I (.d _) .nil)) I (zcd _ _ _ _ (fun q0 y hq => ⟨_, _, I, K47, zcU _ q0 _ _ hq⟩) _ q1340))<|.z I<|.nil<|.seq<|.sr<|.m I<|.p I (.eq I)<|.nil<|.condS I h (fun h => ?_) fun h => ?_
       ·refine .sr<|.m I<|.z I<|.nil<|.ret <| ⟨.inl I, _, ⟨_, _, I, I, I⟩, ?_⟩
        refine .freezes [1] (.cons (t := 65) I (.vec (inIds I) I (by simp)) .nil)<|bK h fun x1342 q1342 h => .app I I I I I I I I E46 I (fun _ => I) q1342<|.z I<|.nil ⟨_, h, _, Fz8 I<|Fz2 I trivial⟩
       ·refine .skip<|.seq<|.sr<|.m I<|.p I (.ad I)<|.z I<|.nil<|.block<|.loopS [1] (fun (v : (List Question) × Int × Int) => [(0, .vec 1 (List.length v.1)), (5, .d (.int v.2.1)), (6, .d (.int v.2.2))]) (fun (v : (List Question) × Int × Int) => [(1, .vec 37 4 (List.map Question.enc v.1))]) (.c I .nil) h ⟨_, Fz4 I<|Fz2 I<|FzE⟩ (fun _ v h => ?_)
        obtain ⟨b1_1444, x1445, x1446⟩ := v
        refine .seq<|.sr<|.m I<|.m I<|.p I (.lenV I U46 I I I)<|.p I (.ls I)<|.nil<|.keep [.vec 37 4 (List.map Question.enc b0_1307), .vec 37 4 (List.map Question.enc b1_1444)] [0, 1, 5, 6, 19] (.c4 I<|.c I .nil) I<|.condS I h (fun h => ?_) fun h => ?_
        ·refine .skip<|.join [1, 6] (fun (v : (List Question) × Int) => [(0, .vec 1 (List.length v.1)), (5, .d (.int v.2))]) (fun (v : (List Question) × Int) => [(1, .vec 37 4 (List.map Question.enc v.1))]) (.c2 I .nil) h (fun k_1457 h => ?_) (fun v h => ?_)
         ·refine .block<|.sr<|.m I<|.m I<|bK h fun x1459 q1459 h => .p I (.idxV I I I I I U46 S37 q1459)<|.p I (.loadEl I I I I q1459 Y37 I)<|.allocStore I I I I I I I I (by simp) I I Z37<|.nil<|.sr<|.m I<|.p I (.ld Y37 I)<|bK h fun x1461 q1461 h => .p I (.dyn I I I ⟨_, _, I, K47, zcU _ _ _ _ q1461⟩)<|.p I (.nt I)<|.nil<|.condS I h (fun h => ?_) fun h => ?_
          ·refine .sr<|.m I<|.m I<|.p I (.ld Y37 I)<|bK h fun x1463 q1463 h => .p I (.idxV I I I I I U46 S37 q1463)<|bK h fun b1_1464 hb1_1464 h => .storeEl (enc := Question.enc) I I I I I I I I I C37 hb1_1464<|.relen 0 I (zdk hb1_1464)<|.relen 22 I (zdk hb1_1464)<|.relen 30 I (zdk hb1_1464)<|.nil<|.region<|.m I<|.p I (.ad I)<|.z I<|.nil ⟨_, h, _, Fz4 I<|Fz2 I<|FzE⟩
          ·refine .skip ⟨_, h, _, Fz4 I<|Fz2 I<|FzE⟩
         ·obtain ⟨b1_1455, x1456⟩ := v
          refine .region<|.m I<|.p I (.ad I)<|.z I<|.nil ⟨_, h, _, Fz4 I<|Fz2 I<|FzE⟩
        ·refine .exit<|.sr<|.m I<|.m I<|bK h fun x1466 q1466 h => .p I (.subL I I I I I U46 S37 q1466)<|.clearSub (enc := Question.enc) (l := b1_1444) (⟨0, 0, ⟨false, 0⟩⟩ : Question) I I I E46 I I I (fun _ => I) (.agg Zc37 (ds' := [.int 0, .int 0, .bool false, .int 0]) (.e (.e (.e .e1))))<|.relen 0 I (zdU q1466 (List.replicate (b1_1444.length - x1445.toNat) (⟨0, 0, ⟨false, 0⟩⟩ : Question))).symm<|.relen 36 I (zdU q1466 (List.replicate (b1_1444.length - x1445.toNat) (⟨0, 0, ⟨false, 0⟩⟩ : Question))).symm<|.nil<|.sr<|.m I<|.m I<|bK h fun x1468 q1468 h => .p I (.subH I I I I I U46 S37 q1468)<|.z I<|.nil<|.ret <| ⟨.inl I, _, ⟨_, _, I, I, I⟩, ?_⟩
         refine .freezes [1] (.cons (t := 65) I (.subM (inIds I) I I) .nil)<|bK h fun x1469 q1469 h => .app I I I I I I I I E46 I (fun _ => I) q1469<|.z I<|.nil ⟨_, h, _, Fz8 I<|Fz2 I trivial⟩
    ·refine .region<|.p I (.ad I)<|.m I<|.nil ⟨_, h, _, Fz8 I<|Fz2 I trivial⟩
   ·refine .exit<|.region<|.p I (.ad I)<|.m I<|.nil ⟨_, h, _, Fz4 I<|Fz2 I<|FzE⟩
  ·refine .exit<|.sr<|.m I<|.z I<|.nil<|.ret ?_
   cases h
   exact zbv I (.vec I (by simp))
theorem zeK (n : Nat) (t0 : Model) (t1 : Question) (r : Bool) (h : zag n t0 t1 = some r) : Pure pg 14 [Model.enc t0, Question.enc t1] (.bool r) := by
 refine Pure.ot Tryz.func14 I Tryz.ntmps14 I fun A w => .sr<|.p I (.bx I)<|.p I (.bx I)<|.z I<|.nil<|.seq<|.plain 8 I<|.p I (.ld Y30 I)<|.p I (.ld Y37 I)<|bK h fun x1 q1 h => .p I (.call I (kC I) I (ze1 _ _ _ _ q1))<|.m I<|gK h fun c3 h => .jA 3 (((zcH n t0 t1).getD default)) I (fun b2 => ?_) ?_
 ·refine .q I (.ld Y30 I)<|.q I (.ld Y37 I)<|.q I (.call I (kC I) I (zeL _ _ _ _ (someD (impT c3 b2))))<|.nil I
 refine .nil<|.z I<|.nil<|.ret (rO h I)
theorem zgZ (n : Nat) (t0 : Model) (t1 : Int) (t2 : Row) (r : Int) (h : zca n t0 t1 t2 = some r) : Pure pg 12 [Model.enc t0, .int t1, Row.enc t2] (.int r) := by
 refine Pure.ot Tryz.func12 I Tryz.ntmps12 I fun A w => .sr<|.p I (.bx I)<|.p I (.bx I)<|.z I<|.nil<|.seq<|.seq<|.plain 14 I<|.p I (.ld Y30 I)<|bK h fun x1 q1 h => .p I (.call I (kC I) I (zdp _ _ _ q1))<|.p I (.nt I)<|.m I<|.jO 2 (decide (t1 < 0)) I (fun b2 => ?_) ?_
 ·refine .qm I<|.q I (.ls I)<|.nil I
 refine .m I<|.jO 5 (decide ((t0.actions.length : Int) ≤ t1)) I (fun b3 => ?_) ?_
 ·refine .qm I<|.qf I (G30_5 _) Y27 I<|.q I (.len I U27 I)<|.q I (.ge I)<|.nil I
 refine .nil<|.nil<|.keep [] [1, 3, 5, 20] (.c4 I .nil) I<|.condS I h (fun h => ?_) fun h => ?_
 ·refine .sr<|.z I<|.nil<|.ret (rO h I)
 ·refine .skip<|.seq<|.draw 8 Hm (by kernel_rfl) (by kernel_rfl)<|.f I (G30_5 _) Y27 I<|.m I<|bK h fun x4 q4 h => .p I (.ix I U27 S84 q4)<|.p I (.ld Y84 I)<|.p I (.ld Y33 I)<|bK h fun x5 q5 h => .p I (.call I (kC I) I (zan _ _ _ _ q5))<|.z I<|.nil<|.nil<|.ret (rO h I)
theorem zcA (n : Nat) (t0 : List Question) (t1 : List Question) (r : Bool) (h : zM n t0 t1 = some r) : Pure pg 16 [eP t0, eP t1] (.bool r) := by
 refine Pure.ot Tryz.func16 I Tryz.ntmps16 I fun A w => .sr<|.z I<|.nil<|.seq<|.sr<|.m I<|.p I (.len I U46 I)<|.m I<|.p I (.len I U46 I)<|.p I (.ne I)<|.nil<|.condS I h (fun h => ?_) fun h => ?_
 ·refine .sr<|.z I<|.nil<|.ret (rO h I)
 ·refine .skip<|.seq<|.sr<|.m I<|.p I (.len I U46 I)<|.m I<|.nil<|.block<|.loopS [0, 1, 12] (fun (v : Int) => [(13, .d (.int v))]) (fun (v : Int) => []) (.c2 I<|.c I .nil) h ⟨_, Fz4 I<|Fz2 I<|FzE⟩ (fun _ x7 h => ?_)
  refine .sr<|.p I (.ls I)<|.nil<|.keep [] [0, 1, 12, 13, 14] (.c4 I<|.c I .nil) I<|.seq<|.condS I h (fun h => ?_) fun h => ?_
  ·refine .skip<|.seq<|.block<|.sr<|.m I<|.z I<|.nil<|.seq<|.draw 9 Hm (by kernel_rfl) (by kernel_rfl)<|.m I<|.m I<|bK h fun x9 q9 h => .p I (.ix I U46 S37 q9)<|.p I (.ld Y37 I)<|.m I<|.m I<|bK h fun x10 q10 h => .p I (.ix I U46 S37 q10)<|.p I (.ld Y37 I)<|.p I (.sneq I SE37 I I (xs := Question.vals _) (ys := Question.vals _) I I I I (SQ37 _ _))<|.nil<|.nil<|.condS I h (fun h => ?_) fun h => ?_
   ·refine .sr<|.z I<|.nil<|.ret (rO h I)
   ·refine .skip<|.region<|.p I (.ad I)<|.m I<|.nil ⟨_, h, _, Fz4 I<|Fz2 I<|FzE⟩
  ·refine .exit<|.sr<|.z I<|.nil<|.ret (rO h I)
theorem zjW (n : Nat) (r : Bool) (h : zg2 n = some r) : Pure pg 10 [] (.bool r) := by
 refine Pure.ot Tryz.func10 I Tryz.ntmps10 I fun A w => .sr<|.z I<|.nil<|.sr<|bK h fun x1 q1 h => .p I (.call I (kC I) I (ziG _  _ q1))<|.allocStore I I I I I I I I (by simp) I I Z30<|.nil<|.sr<|.p I (.castD (Target.enc (⟨false, 1⟩ : Target)) I (.build I Pl35 (.agg Zc35 (ds' := [_, _]) (.e .e1)) I I))<|.p I (.castD (Question.enc (⟨0, 0, (⟨false, 1⟩ : Target)⟩ : Question)) I (.build I Pl37 (.agg Zc37 (ds' := [_, _, _, _]) (.e (.e (.e .e1)))) I I))<|.allocStore I I I I I I I I (by simp) I I Z37<|.nil<|.sr<|.p I (.ld Y30 I)<|.p I (.ld Y37 I)<|bK h fun x2 q2 h => .p I (.callLe I (kC I) I (.e (.e .o1)) (zdR _ _ _ _ _ q2))<|.m I<|.p I (.extract I I I)<|.p I (.extract I I I)<|.allocStore I I I I I I I I (by simp) I I Z53<|.z I<|.nil<|.keep [] [1, 2, 3, 4] (.c4 I .nil) I<|.sr<|.p I (.ld Y30 I)<|bK h fun x3 q3 h => .p I (.call I (kC I) I (zfx _ _ _ q3))<|.z I<|.nil<|.seq<|.draw 72 Hm (by kernel_rfl) (by kernel_rfl)<|.m I ?_
 refine .p I (.eq I)<|.m I<|.jA 4 ((x2.1.rows.length : Int) == 3) I (fun b4 => ?_) ?_
 ·refine .qf I (G53_1 _) Y49 I<|.q I (.len I U49 I)<|.q I (.eq I)<|.nil I
 refine .m I<|gK h fun c6 h => .jA 6 ((((idx x2.1.rows 1).getD default).bound) == 1) I (fun b5 => ?_) ?_
 ·refine .qf I (G53_1 _) Y49 I<|.q I (.ix I U49 S33 (someD (impT c6 b5)))<|.qf I (G33_1 _) Y3 I<|.q I (.eq I)<|.nil I
 refine .m I<|gK h fun c8 h => .jA 6 ((((idx x2.1.rows 2).getD default).bound) == 0) I (fun b7 => ?_) ?_
 ·refine .qf I (G53_1 _) Y49 I<|.q I (.ix I U49 S33 (someD (impT c8 b7)))<|.qf I (G33_1 _) Y3 I<|.q I (.eq I)<|.nil I
 refine .m I<|gK h fun c10 h => .jA 7 (((((idx x2.1.rows 2).getD default).terms).length : Int) == 1) I (fun b9 => ?_) ?_
 ·refine .qf I (G53_1 _) Y49 I<|.q I (.ix I U49 S33 (someD (impT c10 b9)))<|.qf I (G33_0 _) Y31 I<|.q I (.len I U31 I)<|.q I (.eq I)<|.nil I
 refine .m I<|gK h fun c12 h => gK h fun c13 h => .jA 9 ((((idx (((idx x2.1.rows 2).getD default).terms) 0).getD default).factor) == (-1)) I (fun b11 => ?_) ?_
 ·refine .qf I (G53_1 _) Y49 I<|.q I (.ix I U49 S33 (someD (impT c12 b11)))<|.qf I (G33_0 _) Y31 I<|.q I (.ix I U31 S41 (someD (impT c13 b11)))<|.qf I (G41_1 _) Y3 I<|.q I (.eq I)<|.nil I
 refine .m I<|gK h fun c15 h => .jA 3 (((zag n x1 (⟨0, 0, (⟨false, 1⟩ : Target)⟩ : Question)).getD default)) I (fun b14 => ?_) ?_
 ·refine .q I (.ld Y30 I)<|.q I (.ld Y37 I)<|.q I (.call I (kC I) I (zeK _ _ _ _ (someD (impT c15 b14))))<|.nil I
 refine .m I<|gK h fun c17 h => .jA 4 (!((zag n x1 (⟨0, 0, (⟨false, 0⟩ : Target)⟩ : Question)).getD default)) I (fun b16 => ?_) ?_
 ·refine .q I (.ld Y30 I)<|.q I (.castD (Question.enc (⟨0, 0, (⟨false, 0⟩ : Target)⟩ : Question)) I (.build I Pl37 (.agg Zc37 (ds' := [_, _, _, _]) (.e (.e (.e .e1)))) I I))<|.q I (.call I (kC I) I (zeK _ _ _ _ (someD (impT c17 b16))))<|.q I (.nt I)<|.nil I
 refine .m I<|gK h fun c19 h => gK h fun c20 h => .jA 8 (((zca n x1 0 (((idx x1.constraints 0).getD default).row)).getD default) == (-2)) I (fun b18 => ?_) ?_
 ·refine .q I (.ld Y30 I)<|.qf I (G30_3 _) Y25 I<|.q I (.ix I U25 S78 (someD (impT c19 b18)))<|.qf I (G78_2 _) Y33 I<|.q I (.call I (kC I) I (zgZ _ _ _ _ _ (someD (impT c20 b18))))<|.q I (.eq I)<|.nil I
 refine .m I<|gK h fun c22 h => .jA 4 (((zM n x3 [(⟨0, 0, (⟨false, 1⟩ : Target)⟩ : Question)]).getD default)) I (fun b21 => ?_) ?_
 ·refine .qm I<|.q I (.ld Y37 I)<|.q I (.buildSl [_] I I E46 I (fun _ => I) I (enc := Question.enc))<|.q I (.call I (kC I) I (zcA _ _ _ _ (someD (impT c22 b21))))<|.nil I
 refine .z I<|.nil<|.nil<|.keep [] [0] (.c I .nil) I<|.ret (rO h I)
theorem zlG (n : Nat) (t0 : List Int) (t1 : List Table) (r : Bool) (h : zco n t0 t1 = some r) : Pure pg 92 [eA t0, eB t1] (.bool r) := by
 refine Pure.ot Tryz.func92 I Tryz.ntmps92 I fun A w => .sr<|.z I<|.nil<|.seq<|.sr<|.z I<|.nil<|.block<|.loopS [0, 1] (fun (v : Int) => [(5, .d (.int v))]) (fun (v : Int) => []) (.c2 I .nil) h ⟨_, Fz4 I<|Fz2 I trivial⟩ (fun _ x9 h => ?_)
 refine .seq<|.sr<|.m I<|.m I<|.p I (.len I U23 I)<|.p I (.ls I)<|.nil<|.keep [] [0, 1, 5, 9] (.c4 I .nil) I<|.condS I h (fun h => ?_) fun h => ?_
 ·refine .skip<|.seq<|.block<|.seq<|.plain 16 I<|.m I<|.m I<|bK h fun x11 q11 h => .p I (.ix I U23 S127 q11)<|.f I (ziV _) Y9 I<|.p I (.len_str I U9 I)<|.p I (.gt I)<|.m I<|gK h fun c13 h => .jO 7 (decide (12 < ((((idx t1 x9).getD default).columns).length : Int))) I (fun b12 => ?_) ?_
  ·refine .qm I<|.qm I<|.q I (.ix I U23 S127 (someD (impF c13 b12)))<|.qf I (zbR _) Y22 I<|.q I (.len I U22 I)<|.q I (.gt I)<|.nil I
  refine .nil<|.nil<|.keep [] [0, 1, 5, 27] (.c4 I .nil) I<|.condS I h (fun h => ?_) fun h => ?_
  ·refine .sr<|.z I<|.nil<|.ret (rO h I)
  ·refine .skip<|.region<|.m I<|.p I (.ad I)<|.z I<|.nil ⟨_, h, _, Fz4 I<|Fz2 I trivial⟩
 ·refine .exit<|.seq<|.plain 8 I<|.m I<|.p I (.len I U22 I)<|.p I (.le I)<|.m I<|.jA 3 (decide ((t1.length : Int) ≤ 20)) I (fun b14 => ?_) ?_
  ·refine .qm I<|.q I (.len I U23 I)<|.q I (.le I)<|.nil I
  refine .nil<|.z I<|.nil<|.ret (rO h I)
theorem ziL (n : Nat) (t0 : Model) (r : Bool) (h : zm n t0 = some r) : Pure pg 37 [Model.enc t0] (.bool r) := by
 refine Pure.ot Tryz.func37 I Tryz.ntmps37 I fun A w => .sr<|.p I (.bx I)<|.z I<|.nil<|.seq<|.seq<|.plain 48 I<|.f I (G30_0 _) Y22 I<|.p I (.len I U22 I)<|.p I (.gt I)<|.m I<|.jO 4 (decide (6 < (t0.tables.length : Int))) I (fun b1 => ?_) ?_
 ·refine .qf I (G30_1 _) Y23 I<|.q I (.len I U23 I)<|.q I (.gt I)<|.nil I
 refine .m I<|.jO 4 (decide (20 < (t0.families.length : Int))) I (fun b2 => ?_) ?_
 ·refine .qf I (G30_2 _) Y24 I<|.q I (.len I U24 I)<|.q I (.gt I)<|.nil I
 refine .m I<|.jO 4 (decide (60 < (t0.constraints.length : Int))) I (fun b3 => ?_) ?_
 ·refine .qf I (G30_3 _) Y25 I<|.q I (.len I U25 I)<|.q I (.gt I)<|.nil I
 refine .m I<|.jO 4 (decide (8 < (t0.operations.length : Int))) I (fun b4 => ?_) ?_
 ·refine .qf I (G30_4 _) Y26 I<|.q I (.len I U26 I)<|.q I (.gt I)<|.nil I
 refine .m I<|.jO 4 (decide (30 < (t0.actions.length : Int))) I (fun b5 => ?_) ?_
 ·refine .qf I (G30_5 _) Y27 I<|.q I (.len I U27 I)<|.q I (.gt I)<|.nil I
 refine .m I<|.jO 4 (decide (12 < (t0.hides.length : Int))) I (fun b6 => ?_) ?_
 ·refine .qf I (G30_6 _) Y28 I<|.q I (.len I U28 I)<|.q I (.gt I)<|.nil I
 refine .m I<|gK h fun c8 h => .jO 6 (!((zco n t0.sorts t0.tables).getD default)) I (fun b7 => ?_) ?_
 ·refine .qf I (G30_0 _) Y22 I<|.qf I (G30_1 _) Y23 I<|.q I (.call I (kC I) I (zlG _ _ _ _ (someD (impF c8 b7))))<|.q I (.nt I)<|.nil I
 refine .nil<|.nil<|.keep [] [1, 56] (.c2 I .nil) I<|.condS I h (fun h => ?_) fun h => ?_
 ·refine .sr<|.z I<|.nil<|.ret (rO h I)
 ·refine .skip<|.seq<|.sr<|.z I<|.nil<|.block<|.loopS [1] (fun (v : Int) => [(3, .d (.int v))]) (fun (v : Int) => []) (.c I .nil) h ⟨_, Fz4 I<|FzE⟩ (fun _ x13 h => ?_)
  refine .seq<|.sr<|.m I<|.f I (G30_2 _) Y24 I<|.p I (.len I U24 I)<|.p I (.ls I)<|.nil<|.keep [] [1, 3, 61] (.c2 I<|.c I .nil) I<|.condS I h (fun h => ?_) fun h => ?_
  ·refine .skip<|.seq<|.block<|.sr<|.f I (G30_2 _) Y24 I<|.m I<|bK h fun x15 q15 h => .p I (.ix I U24 S9 q15)<|.p I (.ld Y9 I)<|.p I (.len_str I U9 I)<|.p I (.gt I)<|.nil<|.condS I h (fun h => ?_) fun h => ?_
   ·refine .sr<|.z I<|.nil<|.ret (rO h I)
   ·refine .skip<|.region<|.m I<|.p I (.ad I)<|.z I<|.nil ⟨_, h, _, Fz4 I<|FzE⟩
  ·refine .exit<|.seq<|.sr<|.z I<|.nil<|.block<|.loopS [1] (fun (v : Int) => [(4, .d (.int v))]) (fun (v : Int) => []) (.c I .nil) h ⟨_, Fz4 I<|FzE⟩ (fun _ x20 h => ?_)
   refine .seq<|.sr<|.m I<|.f I (G30_3 _) Y25 I<|.p I (.len I U25 I)<|.p I (.ls I)<|.nil<|.keep [] [1, 4, 75] (.c2 I<|.c I .nil) I<|.condS I h (fun h => ?_) fun h => ?_
   ·refine .skip<|.seq<|.block<|.sr<|.f I (G30_3 _) Y25 I<|.m I<|bK h fun x22 q22 h => .p I (.ix I U25 S78 q22)<|.p I (.fa I (G78_2 _))<|.f I (G33_0 _) Y31 I<|.p I (.len I U31 I)<|.p I (.gt I)<|.nil<|.condS I h (fun h => ?_) fun h => ?_
    ·refine .sr<|.z I<|.nil<|.ret (rO h I)
    ·refine .skip<|.region<|.m I<|.p I (.ad I)<|.z I<|.nil ⟨_, h, _, Fz4 I<|FzE⟩
   ·refine .exit<|.seq<|.sr<|.z I<|.nil<|.block<|.loopS [1] (fun (v : Int) => [(5, .d (.int v))]) (fun (v : Int) => []) (.c I .nil) h ⟨_, Fz4 I<|FzE⟩ (fun _ x31 h => ?_)
    refine .seq<|.sr<|.m I<|.f I (G30_4 _) Y26 I<|.p I (.len I U26 I)<|.p I (.ls I)<|.nil<|.keep [] [1, 5, 91] (.c2 I<|.c I .nil) I<|.condS I h (fun h => ?_) fun h => ?_
    ·refine .skip<|.seq<|.block<|.seq<|.plain 18 I<|.f I (G30_4 _) Y26 I<|.m I<|bK h fun x33 q33 h => .p I (.ix I U26 S129 q33)<|.f I (zm7 _) Y9 I<|.p I (.len_str I U9 I)<|.p I (.gt I)<|.m I<|gK h fun c35 h => .jO 8 (decide (6 < ((((idx t0.operations x31).getD default).sorts).length : Int))) I (fun b34 => ?_) ?_
     ·refine .qf I (G30_4 _) Y26 I<|.qm I<|.q I (.ix I U26 S129 (someD (impF c35 b34)))<|.qf I (zfB _) Y22 I<|.q I (.len I U22 I)<|.q I (.gt I)<|.nil I
     refine .nil<|.nil<|.keep [] [1, 5, 111] (.c2 I<|.c I .nil) I<|.condS I h (fun h => ?_) fun h => ?_
     ·refine .sr<|.z I<|.nil<|.ret (rO h I)
     ·refine .skip<|.region<|.m I<|.p I (.ad I)<|.z I<|.nil ⟨_, h, _, Fz4 I<|FzE⟩
    ·refine .exit<|.seq<|.sr<|.z I<|.nil<|.block<|.loopS [1] (fun (v : Int) => [(6, .d (.int v))]) (fun (v : Int) => []) (.c I .nil) h ⟨_, Fz4 I<|FzE⟩ (fun _ x62 h => ?_)
     refine .seq<|.sr<|.m I<|.f I (G30_5 _) Y27 I<|.p I (.len I U27 I)<|.p I (.ls I)<|.nil<|.keep [] [1, 6, 116] (.c2 I<|.c I .nil) I<|.condS I h (fun h => ?_) fun h => ?_
     ·refine .skip<|.seq<|.block<|.sr<|.f I (G30_5 _) Y27 I<|.m I<|bK h fun x64 q64 h => .p I (.ix I U27 S84 q64)<|.f I (G84_2 _) Y82 I<|.allocStore I I I I I I I I (by simp) I I Z82<|.nil<|.seq<|.seq<|.plain 26 I<|.f I (G30_5 _) Y27 I<|.m I<|bK h fun x65 q65 h => .p I (.ix I U27 S84 q65)<|.f I (G84_1 _) Y22 I<|.p I (.len I U22 I)<|.p I (.gt I)<|.m I<|.jO 4 (decide (20 < (x64.effect.delta.length : Int))) I (fun b66 => ?_) ?_
      ·refine .qf I (G82_0 _) Y79 I<|.q I (.len I U79 I)<|.q I (.gt I)<|.nil I
      refine .m I<|.jO 4 (decide (10 < (x64.effect.hold.length : Int))) I (fun b67 => ?_) ?_
      ·refine .qf I (G82_1 _) Y49 I<|.q I (.len I U49 I)<|.q I (.gt I)<|.nil I
      refine .m I<|.jO 4 (decide (40 < (x64.effect.updates.length : Int))) I (fun b68 => ?_) ?_
      ·refine .qf I (G82_2 _) Y80 I<|.q I (.len I U80 I)<|.q I (.gt I)<|.nil I
      refine .nil<|.nil<|.keep [] [1, 6, 7, 150] (.c4 I .nil) I<|.condS I h (fun h => ?_) fun h => ?_
      ·refine .sr<|.z I<|.nil<|.ret (rO h I)
      ·refine .skip<|.sr<|.z I<|.nil<|.block<|.loopS [1, 6, 7] (fun (v : Int) => [(8, .d (.int v))]) (fun (v : Int) => []) (.c2 I<|.c I .nil) h ⟨_, Fz4 I<|Fz2 I<|FzE⟩ (fun _ x73 h => ?_)
       refine .seq<|.sr<|.m I<|.f I (G82_1 _) Y49 I<|.p I (.len I U49 I)<|.p I (.ls I)<|.nil<|.keep [] [1, 6, 7, 8, 155] (.c4 I<|.c I .nil) I<|.condS I h (fun h => ?_) fun h => ?_
       ·refine .skip<|.seq<|.block<|.sr<|.f I (G82_1 _) Y49 I<|.m I<|bK h fun x75 q75 h => .p I (.ix I U49 S33 q75)<|.f I (G33_0 _) Y31 I<|.p I (.len I U31 I)<|.p I (.gt I)<|.nil<|.condS I h (fun h => ?_) fun h => ?_
        ·refine .sr<|.z I<|.nil<|.ret (rO h I)
        ·refine .skip<|.region<|.m I<|.p I (.ad I)<|.z I<|.nil ⟨_, h, _, Fz4 I<|Fz2 I<|FzE⟩
       ·refine .exit<|.region<|.m I<|.p I (.ad I)<|.z I<|.nil ⟨_, h, _, Fz4 I<|FzE⟩
     ·refine .exit<|.sr<|.z I<|.nil<|.ret (rO h I)
theorem zgM (n : Nat) (t0 : List Int) (r : Bool) (h : zaX n t0 = some r) : Pure pg 161 [eA t0] (.bool r) := by
 refine Pure.ot Tryz.func161 I Tryz.ntmps161 I fun A w => .sr<|.z I<|.nil<|.seq<|.sr<|.z I<|.nil<|.block<|.loopS [0] (fun (v : Int) => [(3, .d (.int v))]) (fun (v : Int) => []) (.c I .nil) h ⟨_, Fz4 I<|FzE⟩ (fun _ x9 h => ?_)
 refine .seq<|.sr<|.m I<|.m I<|.p I (.len I U22 I)<|.p I (.ls I)<|.nil<|.keep [] [0, 3, 7] (.c2 I<|.c I .nil) I<|.condS I h (fun h => ?_) fun h => ?_
 ·refine .skip<|.seq<|.block<|.seq<|.plain 12 I<|.m I<|.m I<|bK h fun x11 q11 h => .p I (.ix I U22 S3 q11)<|.p I (.ld Y3 I)<|.p I (.ls I)<|.m I<|gK h fun c13 h => .jO 5 (decide (6 < ((idx t0 x9).getD default))) I (fun b12 => ?_) ?_
  ·refine .qm I<|.qm I<|.q I (.ix I U22 S3 (someD (impF c13 b12)))<|.q I (.ld Y3 I)<|.q I (.gt I)<|.nil I
  refine .nil<|.nil<|.condS I h (fun h => ?_) fun h => ?_
  ·refine .sr<|.z I<|.nil<|.ret (rO h I)
  ·refine .skip<|.region<|.m I<|.p I (.ad I)<|.z I<|.nil ⟨_, h, _, Fz4 I<|FzE⟩
 ·refine .exit<|.sr<|.z I<|.nil<|.ret (rO h I)
theorem zd8 (n : Nat) (t0 : List Int) (t1 : List Int) (r : Int) (h : zY n t0 t1 = some r) : Pure pg 140 [eA t0, eA t1] (.int r) := by
 refine Pure.ot Tryz.func140 I Tryz.ntmps140 I fun A w => .sr<|.z I<|.nil<|.seq<|.seq<|.plain 8 I<|.m I<|.p I (.len I U22 I)<|.p I (.gt I)<|.m I<|gK h fun c2 h => .jO 3 (!((zaX n t0).getD default)) I (fun b1 => ?_) ?_
 ·refine .qm I<|.q I (.call I (kC I) I (zgM _ _ _ (someD (impF c2 b1))))<|.q I (.nt I)<|.nil I
 refine .nil<|.nil<|.condS I h (fun h => ?_) fun h => ?_
 ·refine .sr<|.z I<|.nil<|.ret (rO h I)
 ·refine .skip<|.sr<|.z I<|.nil<|.seq<|.sr<|.z I<|.nil<|.block<|.loopS [0, 1] (fun (v : Int × Int) => [(5, .d (.int v.1)), (6, .d (.int v.2))]) (fun (v : Int × Int) => []) (.c2 I .nil) h ⟨_, Fz4 I<|Fz2 I<|FzE⟩ (fun _ v h => ?_)
  obtain ⟨x17, x18⟩ := v
  refine .seq<|.sr<|.m I<|.m I<|.p I (.len I U22 I)<|.p I (.ls I)<|.nil<|.keep [] [0, 1, 5, 6, 18] (.c4 I<|.c I .nil) I<|.condS I h (fun h => ?_) fun h => ?_
  ·refine .skip<|.seq<|.block<|.seq<|.seq<|.plain 14 I<|.m I<|.m I<|bK h fun x20 q20 h => .p I (.ix I U22 S3 q20)<|.p I (.ld Y3 I)<|.p I (.ls I)<|.m I<|gK h fun c22 h => .jO 7 (decide ((t0.length : Int) ≤ ((idx t1 x18).getD default))) I (fun b21 => ?_) ?_
   ·refine .qm I<|.qm I<|.q I (.ix I U22 S3 (someD (impF c22 b21)))<|.q I (.ld Y3 I)<|.qm I<|.q I (.len I U22 I)<|.q I (.ge I)<|.nil I
   refine .nil<|.nil<|.condS I h (fun h => ?_) fun h => ?_
   ·refine .sr<|.z I<|.nil<|.ret (rO h I)
   ·refine .skip<|.region<|.m I<|.m I<|.m I<|.m I<|bK h fun x23 q23 h => .p I (.ix I U22 S3 q23)<|.p I (.ld Y3 I)<|bK h fun x24 q24 h => .p I (.ix I U22 S3 q24)<|.p I (.ld Y3 I)<|.p I (.ml I)<|.z I<|.nil<|.keep [] [0, 1, 5, 6] (.c4 I .nil) I<|.region<|.m I<|.p I (.ad I)<|.z I<|.nil ⟨_, h, _, Fz4 I<|Fz2 I<|FzE⟩
  ·refine .exit<|.sr<|.m I<|.z I<|.nil<|.ret (rO h I)
theorem zgK (n : Nat) (t0 : Int) (r : Bool) (h : zaI n t0 = some r) : Pure pg 259 [.val (.int .u8 t0)] (.bool r) := by
 refine Pure.ot Tryz.func259 I Tryz.ntmps259 I fun A w => .sr<|.z I<|.nil<|.seq<|.plain 14 I<|.m I<|.p I (.eq I)<|.m I<|.jO 2 (t0 == 10) I (fun b1 => ?_) ?_
 ·refine .qm I<|.q I (.eq I)<|.nil I
 refine .m I<|.jO 2 (t0 == 13) I (fun b2 => ?_) ?_
 ·refine .qm I<|.q I (.eq I)<|.nil I
 refine .m I<|.jO 2 (t0 == 32) I (fun b3 => ?_) ?_
 ·refine .qm I<|.q I (.eq I)<|.nil I
 refine .nil<|.z I<|.nil<|.keep [] [2] (.c I .nil) I<|.ret (rO h I)
theorem zhx (n : Nat) (t0 : List UInt8) (t1 : Int) (r : Int) (h : zaZ n t0 t1 = some r) : Pure pg 248 [.str t0, .int t1] (.int r) := by
 refine Pure.ot Tryz.func248 I Tryz.ntmps248 I fun A w => .sr<|.z I<|.nil<|.seq<|.block<|.loopS [0] (fun (v : Int) => [(1, .d (.int v))]) (fun (v : Int) => []) (.c I .nil) h ⟨_, Fz4 I<|FzE⟩ (fun _ x35 h => ?_)
 refine .seq<|.seq<|.plain 16 I<|.m I<|.m I<|.p I (.len_str I U9 I)<|.p I (.ls I)<|.m I<|gK h fun c38 h => gK h fun c39 h => gK h fun c41 h => .jA 10 (((zaI n ((sidx t0 x35).getD default)).getD default) || (((sidx t0 x35).getD default) == 35)) I (fun b37 => ?_) ?_
 ·refine .qm I<|.qm I<|.q I (.sidx I I I U9 (someD (impT c38 b37)))<|.q I (.call I (kC I) I (zgK _ _ _ (someD (impT c39 b37))))<|.qm I<|.jOr 4 (b2 := ((sidx t0 x35).getD default) == 35) I I I I (.inr ⟨_, _, _, I, I, I⟩) (fun _ _ _ h1 h2 => by cases h1; cases h2; decide) I I (fun b40 => ?_) ?_
  ·refine .qm I<|.qm I<|.q I (.sidx I I I U9 (someD (impF (impT c41 b37) b40)))<|.q I (.eq I)<|.nil I
  exact .nil I
 refine .nil<|.nil<|.keep [] [0, 1, 20] (.c2 I<|.c I .nil) I<|.condS I h (fun h => ?_) fun h => ?_
 ·refine .skip<|.block<|.sr<|.m I<|.m I<|bK h fun x42 q42 h => .p I (.sidx I I I U9 q42)<|.p I (.eq I)<|.nil<|.condS I h (fun h => ?_) fun h => ?_
  ·refine .block<|.loopS [0] (fun (v : Int) => [(1, .d (.int v))]) (fun (v : Int) => []) (.c I .nil) h ⟨_, Fz4 I<|FzE⟩ (fun _ x49 h => ?_)
   refine .seq<|.seq<|.plain 10 I<|.m I<|.m I<|.p I (.len_str I U9 I)<|.p I (.ls I)<|.m I<|gK h fun c52 h => .jA 4 (((sidx t0 x49).getD default) != 10) I (fun b51 => ?_) ?_
   ·refine .qm I<|.qm I<|.q I (.sidx I I I U9 (someD (impT c52 b51)))<|.q I (.ne I)<|.nil I
   refine .nil<|.nil<|.keep [] [0, 1, 34] (.c2 I<|.c I .nil) I<|.condS I h (fun h => ?_) fun h => ?_
   ·refine .skip<|.block<|.region<|.m I<|.p I (.ad I)<|.z I<|.nil ⟨_, h, _, Fz4 I<|FzE⟩
   ·refine .exit ⟨_, h, _, Fz4 I<|FzE⟩
  ·refine .region<|.m I<|.p I (.ad I)<|.z I<|.nil ⟨_, h, _, Fz4 I<|FzE⟩
 ·refine .exit<|.sr<|.m I<|.z I<|.nil<|.ret (rO h I)
theorem zd5 (n : Nat) (t0 : Int) (r : Bool) (h : zaA n t0 = some r) : Pure pg 260 [.val (.int .u8 t0)] (.bool r) := by
 refine Pure.ot Tryz.func260 I Tryz.ntmps260 I fun A w => .sr<|.z I<|.nil<|.seq<|.plain 6 I<|.m I<|.p I (.ge I)<|.m I<|.jA 2 (decide (t0 ≤ 122)) I (fun b1 => ?_) ?_
 ·refine .qm I<|.q I (.le I)<|.nil I
 refine .nil<|.z I<|.nil<|.ret (rO h I)
theorem zdq (n : Nat) (t0 : Int) (r : Bool) (h : zaO n t0 = some r) : Pure pg 261 [.val (.int .u8 t0)] (.bool r) := by
 refine Pure.ot Tryz.func261 I Tryz.ntmps261 I fun A w => .sr<|.z I<|.nil<|.seq<|.plain 6 I<|.m I<|.p I (.ge I)<|.m I<|.jA 2 (decide (t0 ≤ 57)) I (fun b1 => ?_) ?_
 ·refine .qm I<|.q I (.le I)<|.nil I
 refine .nil<|.z I<|.nil<|.ret (rO h I)
theorem zh7 (n : Nat) (r : List (List UInt8)) (h : zeB n = some r) : Pure pg 262 [] (eC r) := by
 refine Pure.ot Tryz.func262 I Tryz.ntmps262 I fun A w => .sr<|.p I (.nilS 1 (α := List UInt8) D.str I)<|.nil<|.sr<|.p I (.buildSl [_, _, _, _, _, _, _, _, _, _, _, _, _, _, _, _, _, _, _, _, _, _, _, _, _, _, _, _, _, _, _, _, _, _, _] I I E24 I (fun _ => I) I (enc := D.str))<|.z I<|.nil<|.ret ?_
 cases h
 exact zbv I (.d _)
theorem ziv (n : Nat) (t0 : List (List UInt8)) (t1 : List UInt8) (r : Bool) (h : zcb n t0 t1 = some r) : Pure pg 163 [eC t0, .str t1] (.bool r) := by
 refine Pure.ot Tryz.func163 I Tryz.ntmps163 I fun A w => .sr<|.z I<|.nil<|.seq<|.sr<|.z I<|.nil<|.block<|.loopS [0, 1] (fun (v : Int) => [(5, .d (.int v))]) (fun (v : Int) => []) (.c2 I .nil) h ⟨_, Fz4 I<|Fz2 I trivial⟩ (fun _ x5 h => ?_)
 refine .seq<|.sr<|.m I<|.m I<|.p I (.len I U24 I)<|.p I (.ls I)<|.nil<|.keep [] [0, 1, 5, 9] (.c4 I .nil) I<|.condS I h (fun h => ?_) fun h => ?_
 ·refine .skip<|.seq<|.block<|.sr<|.m I<|.m I<|bK h fun x7 q7 h => .p I (.ix I U24 S9 q7)<|.p I (.ld Y9 I)<|.m I<|.p I (.str_eql I I I)<|.nil<|.condS I h (fun h => ?_) fun h => ?_
  ·refine .sr<|.z I<|.nil<|.ret (rO h I)
  ·refine .skip<|.region<|.m I<|.p I (.ad I)<|.z I<|.nil ⟨_, h, _, Fz4 I<|Fz2 I trivial⟩
 ·refine .exit<|.sr<|.z I<|.nil<|.ret (rO h I)
theorem ziJ (n : Nat) (r : List (List UInt8)) (h : zfi n = some r) : Pure pg 269 [] (eC r) := by
 refine Pure.ot Tryz.func269 I Tryz.ntmps269 I fun A w => .sr<|.p I (.nilS 1 (α := List UInt8) D.str I)<|.nil<|.sr<|.p I (.buildSl [_, _, _, _, _, _, _, _, _, _, _, _, _, _, _, _, _, _] I I E24 I (fun _ => I) I (enc := D.str))<|.z I<|.nil<|.ret ?_
 cases h
 exact zbv I (.d _)
theorem zf6 (n : Nat) (t0 : List UInt8) (t1 : Int) (r : Int) (h : za1 n t0 t1 = some r) : Pure pg 263 [.str t0, .int t1] (.int r) := by
 refine Pure.ot Tryz.func263 I Tryz.ntmps263 I fun A w => .sr<|.z I<|.nil<|.sr<|bK h fun x1 q1 h => .p I (.call I (kC I) I (ziJ _  _ q1))<|.z I<|.nil<|.seq<|.sr<|.z I<|.nil<|.block<|.loopS [0, 1, 5] (fun (v : Int) => [(6, .d (.int v))]) (fun (v : Int) => []) (.c2 I<|.c I .nil) h ⟨_, Fz4 I<|Fz2 I<|FzE⟩ (fun _ x12 h => ?_)
 refine .seq<|.sr<|.m I<|.m I<|.p I (.len I U24 I)<|.p I (.ls I)<|.nil<|.keep [] [0, 1, 5, 6, 12] (.c4 I<|.c I .nil) I<|.condS I h (fun h => ?_) fun h => ?_
 ·refine .skip<|.seq<|.block<|.sr<|.m I<|.m I<|bK h fun x14 q14 h => .p I (.ix I U24 S9 q14)<|.p I (.ld Y9 I)<|.p I (.len_str I U9 I)<|.z I<|.nil<|.seq<|.draw 19 Hm (by kernel_rfl) (by kernel_rfl)<|.m I<|.m I<|.p I (.ad I)<|.m I<|.p I (.len_str I U9 I)<|.p I (.le I)<|.m I<|gK h fun c16 h => gK h fun c17 h => .jA 11 (decide (((cut t0 t1 (add64 t1 (x14.length : Int))).getD default) = ((idx x1 x12).getD default))) I (fun b15 => ?_) ?_
  ·refine .qm I<|.qm I<|.qm I<|.qm I<|.q I (.ad I)<|.q I (.cutStrLH I I I I U9 (someD (impT c16 b15)))<|.qm I<|.qm I<|.q I (.ix I U24 S9 (someD (impT c17 b15)))<|.q I (.ld Y9 I)<|.q I (.str_eql I I I)<|.nil I
  refine .nil<|.nil<|.keep [] [0, 1, 5, 6, 7, 38] (.c4 I<|.c2 I .nil) I<|.condS I h (fun h => ?_) fun h => ?_
  ·refine .sr<|.m I<|.z I<|.nil<|.ret (rO h I)
  ·refine .skip<|.region<|.m I<|.p I (.ad I)<|.z I<|.nil ⟨_, h, _, Fz4 I<|Fz2 I<|FzE⟩
 ·refine .exit<|.sr<|.z I<|.nil<|.ret (rO h I)
theorem zj2 (n : Nat) (t0 : List UInt8) (t1 : Int) (r : Int × Int) (h : zao n t0 t1 = some r) : Pure pg 249 [.str t0, .int t1] (.tup [.int r.1, .int r.2]) := by
 refine Pure.ot Tryz.func249 I Tryz.ntmps249 I fun A w => .sr<|.z I<|.z I<|.nil<|.sr<|.m I<|.z I<|.nil<|.seq<|.sr<|.m I<|.m I<|bK h fun x1 q1 h => .p I (.sidx I I I U9 q1)<|bK h fun x2 q2 h => .p I (.call I (kC I) I (zd5 _ _ _ q2))<|.nil<|.condS I h (fun h => ?_) fun h => ?_
 ·refine .seq<|.block<|.loopS [0, 1] (fun (v : Int) => [(6, .d (.int v))]) (fun (v : Int) => []) (.c2 I .nil) h ⟨_, Fz4 I<|Fz2 I trivial⟩ (fun _ x21 h => ?_)
  refine .seq<|.seq<|.plain 22 I<|.m I<|.m I<|.p I (.len_str I U9 I)<|.p I (.ls I)<|.m I<|gK h fun c24 h => gK h fun c25 h => gK h fun c27 h => gK h fun c28 h => gK h fun c30 h => .jA 16 ((((zaA n ((sidx t0 x21).getD default)).getD default) || ((zaO n ((sidx t0 x21).getD default)).getD default)) || (((sidx t0 x21).getD default) == 95)) I (fun b23 => ?_) ?_
  ·refine .qm I<|.qm I<|.q I (.sidx I I I U9 (someD (impT c24 b23)))<|.q I (.call I (kC I) I (zd5 _ _ _ (someD (impT c25 b23))))<|.qm I<|.jOr 4 (b2 := ((zaO n ((sidx t0 x21).getD default)).getD default)) I I I I (.inr ⟨_, _, _, I, I, I⟩) (fun _ _ _ h1 h2 => by cases h1; cases h2; decide) I I (fun b26 => ?_) ?_
   ·refine .qm I<|.qm I<|.q I (.sidx I I I U9 (someD (impF (impT c27 b23) b26)))<|.q I (.call I (kC I) I (zdq _ _ _ (someD (impF (impT c28 b23) b26))))<|.nil I
   refine .qm I<|.jOr 4 (b2 := ((sidx t0 x21).getD default) == 95) I I I I (.inr ⟨_, _, _, I, I, I⟩) (fun _ _ _ h1 h2 => by cases h1; cases h2; decide) I I (fun b29 => ?_) ?_
   ·refine .qm I<|.qm I<|.q I (.sidx I I I U9 (someD (impF (impT c30 b23) b29)))<|.q I (.eq I)<|.nil I
   exact .nil I
  refine .nil<|.nil<|.keep [] [0, 1, 6, 34] (.c4 I .nil) I<|.condS I h (fun h => ?_) fun h => ?_
  ·refine .skip<|.block<|.region<|.m I<|.p I (.ad I)<|.z I<|.nil ⟨_, h, _, Fz4 I<|Fz2 I trivial⟩
  ·refine .exit<|.seq<|.seq<|.draw 6 Hm (by kernel_rfl) (by kernel_rfl)<|bK h fun x31 q31 h => .p I (.call I (kC I) I (zh7 _  _ q31))<|.m I<|.m I<|.m I<|bK h fun x32 q32 h => .p I (.cutStrLH I I I I U9 q32)<|bK h fun x33 q33 h => .p I (.call I (kC I) I (ziv _ _ _ _ q33))<|.nil<|.nil<|.condS I h (fun h => ?_) fun h => ?_
   ·refine .sr<|.m I<|.z I<|.z I<|.nil<|.ret ?_
    cases h
    exact zga I I (.d _) (.d _)
   ·refine .skip<|.sr<|.m I<|.z I<|.z I<|.nil<|.ret ?_
    cases h
    exact zga I I (.d _) (.d _)
 ·refine .skip<|.seq<|.sr<|.m I<|.m I<|bK h fun x34 q34 h => .p I (.sidx I I I U9 q34)<|bK h fun x35 q35 h => .p I (.call I (kC I) I (zdq _ _ _ q35))<|.nil<|.condS I h (fun h => ?_) fun h => ?_
  ·refine .seq<|.block<|.loopS [0] (fun (v : Int) => [(6, .d (.int v))]) (fun (v : Int) => []) (.c I .nil) h ⟨_, Fz4 I<|FzE⟩ (fun _ x44 h => ?_)
   refine .seq<|.seq<|.plain 10 I<|.m I<|.m I<|.p I (.len_str I U9 I)<|.p I (.ls I)<|.m I<|gK h fun c47 h => gK h fun c48 h => .jA 4 (((zaO n ((sidx t0 x44).getD default)).getD default)) I (fun b46 => ?_) ?_
   ·refine .qm I<|.qm I<|.q I (.sidx I I I U9 (someD (impT c47 b46)))<|.q I (.call I (kC I) I (zdq _ _ _ (someD (impT c48 b46))))<|.nil I
   refine .nil<|.nil<|.keep [] [0, 6, 58] (.c2 I<|.c I .nil) I<|.condS I h (fun h => ?_) fun h => ?_
   ·refine .skip<|.block<|.region<|.m I<|.p I (.ad I)<|.z I<|.nil ⟨_, h, _, Fz4 I<|FzE⟩
   ·refine .exit<|.sr<|.m I<|.z I<|.z I<|.nil<|.ret ?_
    cases h
    exact zga I I (.d _) (.d _)
  ·refine .skip<|.seq<|.sr<|.m I<|.m I<|bK h fun x49 q49 h => .p I (.call I (kC I) I (zf6 _ _ _ _ q49))<|.z I<|.nil<|.keep [] [0, 1, 6, 7] (.c4 I .nil) I<|.sr<|.m I<|.p I (.gt I)<|.nil<|.condS I h (fun h => ?_) fun h => ?_
   ·refine .sr<|.m I<|.m I<|.p I (.ad I)<|.z I<|.z I<|.nil<|.ret ?_
    cases h
    exact zga I I (.d _) (.d _)
   ·refine .skip<|.seq<|.block<|.loopS [0] (fun (v : Int) => [(6, .d (.int v))]) (fun (v : Int) => []) (.c I .nil) h ⟨_, Fz4 I<|FzE⟩ (fun _ x78 h => ?_)
    refine .seq<|.seq<|.plain 37 I<|.m I<|.m I<|.p I (.len_str I U9 I)<|.p I (.ls I)<|.m I<|gK h fun c81 h => gK h fun c82 h => .jA 5 (!((zaI n ((sidx t0 x78).getD default)).getD default)) I (fun b80 => ?_) ?_
    ·refine .qm I<|.qm I<|.q I (.sidx I I I U9 (someD (impT c81 b80)))<|.q I (.call I (kC I) I (zgK _ _ _ (someD (impT c82 b80))))<|.q I (.nt I)<|.nil I
    refine .m I<|gK h fun c84 h => .jA 4 (((sidx t0 x78).getD default) != 35) I (fun b83 => ?_) ?_
    ·refine .qm I<|.qm I<|.q I (.sidx I I I U9 (someD (impT c84 b83)))<|.q I (.ne I)<|.nil I
    refine .m I<|gK h fun c86 h => gK h fun c87 h => .jA 5 (!((zaA n ((sidx t0 x78).getD default)).getD default)) I (fun b85 => ?_) ?_
    ·refine .qm I<|.qm I<|.q I (.sidx I I I U9 (someD (impT c86 b85)))<|.q I (.call I (kC I) I (zd5 _ _ _ (someD (impT c87 b85))))<|.q I (.nt I)<|.nil I
    refine .m I<|gK h fun c89 h => gK h fun c90 h => .jA 5 (!((zaO n ((sidx t0 x78).getD default)).getD default)) I (fun b88 => ?_) ?_
    ·refine .qm I<|.qm I<|.q I (.sidx I I I U9 (someD (impT c89 b88)))<|.q I (.call I (kC I) I (zdq _ _ _ (someD (impT c90 b88))))<|.q I (.nt I)<|.nil I
    refine .m I<|gK h fun c92 h => .jA 4 (((za1 n t0 x78).getD default) == 0) I (fun b91 => ?_) ?_
    ·refine .qm I<|.qm I<|.q I (.call I (kC I) I (zf6 _ _ _ _ (someD (impT c92 b91))))<|.q I (.eq I)<|.nil I
    refine .nil<|.nil<|.keep [] [0, 6, 106] (.c2 I<|.c I .nil) I<|.condS I h (fun h => ?_) fun h => ?_
    ·refine .skip<|.block<|.region<|.m I<|.p I (.ad I)<|.z I<|.nil ⟨_, h, _, Fz4 I<|FzE⟩
    ·refine .exit<|.sr<|.m I<|.z I<|.z I<|.nil<|.ret ?_
     cases h
     exact zga I I (.d _) (.d _)
theorem zk9 (n : Nat) (t0 : List UInt8) (r : (List Token) × Int) (h : zcw n t0 = some r) : Pure pg 224 [.str t0] (.tup [eQ r.1, .int r.2]) := by
 refine Pure.ot Tryz.func224 I Tryz.ntmps224 I fun A w => .sr<|.p I (.nilS 4 (α := Token) Token.enc I)<|.z I<|.nil<|.seq<|.sr<|.m I<|.p I (.len_str I U9 I)<|.p I (.gt I)<|.nil<|.condS I h (fun h => ?_) fun h => ?_
 ·refine .sr<|.p I (.nilS 4 (α := Token) Token.enc I)<|.z I<|.nil<|.ret ?_
  cases h
  exact zga I I (.d _) (.d _)
 ·refine .skip<|.sr<|.buildVec [] I I I I I E242 I (fun _ => I) I (enc := Token.enc)<|.z I<|.nil<|.sr<|.z I<|.nil<|.seq<|.block<|.loopS [0] (fun (v : (List Token) × Int) => [(4, .vec 0 (List.length v.1)), (5, .d (.int v.2))]) (fun (v : (List Token) × Int) => [(0, .vec 234 4 (List.map Token.enc v.1))]) (.c I .nil) h ⟨_, Fz4 I<|Fz2 I trivial⟩ (fun _ v h => ?_)
  obtain ⟨b0_13, x14⟩ := v
  refine .seq<|.sr<|.m I<|.m I<|bK h fun x16 q16 h => .p I (.call I (kC I) I (zhx _ _ _ _ q16))<|.m I<|.p I (.len_str I U9 I)<|.p I (.ls I)<|.nil<|.keep [.vec 234 4 (List.map Token.enc b0_13)] [0, 4, 5, 18] (.c4 I .nil) I<|.condS I h (fun h => ?_) fun h => ?_
  ·refine .skip<|.block<|.sr<|.m I<|.m I<|bK h fun x17 q17 h => .p I (.call I (kC I) I (zhx _ _ _ _ q17))<|.z I<|.nil<|.sr<|.m I<|.m I<|bK h fun x18 q18 h => .p I (.call I (kC I) I (zj2 _ _ _ _ q18))<|.m I<|.p I (.extract I I I)<|.p I (.extract I I I)<|.z I<|.z I<|.nil<|.sr<|.m I<|.m I<|.m I<|.m I<|.m I<|.p I (.castD (Token.enc (⟨x18.1, x14, x17, x18.2⟩ : Token)) I (.build I Pl234 (.agg Zc234 (ds' := [_, _, _, _]) (.e (.e (.e .e1)))) I I))<|.p I (.buildSl [_] I I E242 I (fun _ => I) I (enc := Token.enc))<|bK h fun x19 q19 h => .app I I I I I I I I E242 I (fun _ => I) q19<|.z I<|.nil<|.keep [.vec 234 4 (List.map Token.enc x19)] [0, 4, 8] (.c2 I<|.c I .nil) I<|.region<|.m I ?_
   refine .z I<|.nil ⟨_, h, _, Fz4 I<|Fz2 I trivial⟩
  ·refine .exit<|.sr<|.m I<|.m I<|.m I<|.p I (.len_str I U9 I)<|.m I<|.p I (.len_str I U9 I)<|.p I (.castD (Token.enc (⟨0, x14, (t0.length : Int), (t0.length : Int)⟩ : Token)) I (.build I Pl234 (.agg Zc234 (ds' := [_, _, _, _]) (.e (.e (.e .e1)))) I I))<|.p I (.buildSl [_] I I E242 I (fun _ => I) I (enc := Token.enc))<|bK h fun x20 q20 h => .app I I I I I I I I E242 I (fun _ => I) q20<|.z I<|.z I<|.nil<|.ret ?_
   cases h
   exact zga I I (.vec I (by simp)) (.d _)
theorem zk8 (n : Nat) (t0 : List UInt8) (r : Int) (h : zgp n t0 = some r) : Pure pg 204 [.str t0] (.int r) := by
 refine Pure.ot Tryz.func204 I Tryz.ntmps204 I fun A w => .sr<|.z I<|.nil<|.sr<|.m I<|bK h fun x1 q1 h => .p I (.call I (kC I) I (zk9 _ _ _ q1))<|.m I<|.p I (.extract I I I)<|.p I (.extract I I I)<|.z I<|.z I<|.nil<|.seq<|.seq<|.plain 23 I<|.m I<|.p I (.ne I)<|.m I<|.jO 3 ((x1.1.length : Int) != 2) I (fun b2 => ?_) ?_
 ·refine .qm I<|.q I (.len I U242 I)<|.q I (.ne I)<|.nil I
 refine .m I<|gK h fun c4 h => .jO 5 ((((idx x1.1 0).getD default).at_) != 0) I (fun b3 => ?_) ?_
 ·refine .qm I<|.q I (.ix I U242 S234 (someD (impF c4 b3)))<|.qf I (zoW _) Y3 I<|.q I (.ne I)<|.nil I
 refine .m I<|gK h fun c6 h => .jO 7 ((((idx x1.1 0).getD default).end_) != (t0.length : Int)) I (fun b5 => ?_) ?_
 ·refine .qm I<|.q I (.ix I U242 S234 (someD (impF c6 b5)))<|.qf I (zoX _) Y3 I<|.qm I<|.q I (.len_str I U9 I)<|.q I (.ne I)<|.nil I
 refine .nil<|.nil<|.keep [] [3, 32] (.c2 I .nil) I<|.condS I h (fun h => ?_) fun h => ?_
 ·refine .sr<|.z I<|.nil<|.ret (rO h I)
 ·refine .skip<|.sr<|.m I<|bK h fun x7 q7 h => .p I (.ix I U242 S234 q7)<|.f I (zoV _) Y3 I<|.z I<|.nil<|.ret (rO h I)
theorem zhw (n : Nat) (t0 : List UInt8) (r : Bool) (h : zeV n t0 = some r) : Pure pg 162 [.str t0] (.bool r) := by
 refine Pure.ot Tryz.func162 I Tryz.ntmps162 I fun A w => .sr<|.z I<|.nil<|.seq<|.plain 8 I<|.m I<|bK h fun x1 q1 h => .p I (.call I (kC I) I (zk8 _ _ _ q1))<|.p I (.eq I)<|.m I<|.jA 3 (decide ((t0.length : Int) ≤ 16)) I (fun b2 => ?_) ?_
 ·refine .qm I<|.q I (.len_str I U9 I)<|.q I (.le I)<|.nil I
 refine .nil<|.z I<|.nil<|.ret (rO h I)
theorem zd9 (n : Nat) (t0 : Int) (r : Bool) (h : zbE n t0 = some r) : Pure pg 139 [.int t0] (.bool r) := by
 refine Pure.ot Tryz.func139 I Tryz.ntmps139 I fun A w => .sr<|.z I<|.nil<|.seq<|.plain 6 I<|.m I<|.p I (.eq I)<|.m I<|.jO 2 (t0 == 1) I (fun b1 => ?_) ?_
 ·refine .qm I<|.q I (.eq I)<|.nil I
 refine .nil<|.z I<|.nil<|.ret (rO h I)
theorem zeD (n : Nat) (t0 : List Int) (t1 : List Table) (r : Bool) (h : zav n t0 t1 = some r) : Pure pg 101 [eA t0, eB t1] (.bool r) := by
 refine Pure.ot Tryz.func101 I Tryz.ntmps101 I fun A w => .sr<|.z I<|.nil<|.seq<|.seq<|.plain 13 I<|.m I<|.p I (.len I U22 I)<|.p I (.gt I)<|.m I<|gK h fun c2 h => .jO 3 (!((zaX n t0).getD default)) I (fun b1 => ?_) ?_
 ·refine .qm I<|.q I (.call I (kC I) I (zgM _ _ _ (someD (impF c2 b1))))<|.q I (.nt I)<|.nil I
 refine .m I<|.jO 3 (decide (12 < (t1.length : Int))) I (fun b3 => ?_) ?_
 ·refine .qm I<|.q I (.len I U23 I)<|.q I (.gt I)<|.nil I
 refine .nil<|.nil<|.condS I h (fun h => ?_) fun h => ?_
 ·refine .sr<|.z I<|.nil<|.ret (rO h I)
 ·refine .skip<|.sr<|.z I<|.z I<|.nil<|.keep [] [0, 1, 5, 6] (.c4 I .nil) I<|.seq<|.sr<|.z I<|.nil<|.block<|.loopS [0, 1] (fun (v : Int × Int × Int) => [(5, .d (.int v.1)), (6, .d (.int v.2.1)), (7, .d (.int v.2.2))]) (fun (v : Int × Int × Int) => []) (.c2 I .nil) h ⟨_, Fz8 I trivial⟩ (fun _ v h => ?_)
  obtain ⟨x56, x57, x58⟩ := v
  refine .seq<|.sr<|.m I<|.m I<|.p I (.len I U23 I)<|.p I (.ls I)<|.nil<|.keep [] [0, 1, 5, 6, 7, 27] (.c4 I<|.c2 I .nil) I<|.condS I h (fun h => ?_) fun h => ?_
  ·refine .skip<|.join [0, 1, 7] (fun (v : Int × Int) => [(5, .d (.int v.1)), (6, .d (.int v.2))]) (fun (v : Int × Int) => []) (.c2 I<|.c I .nil) h (fun k_62 h => ?_) (fun v h => ?_)
   ·refine .block<|.sr<|.m I<|.m I<|bK h fun x63 q63 h => .p I (.ix I U23 S127 q63)<|.p I (.ld Y127 I)<|.allocStore I I I I I I I I (by simp) I I Z127<|.nil<|.seq<|.sr<|.z I<|.nil<|.block<|.loopS [0, 1, 5, 6, 7, 8] (fun (v : Int) => [(9, .d (.int v))]) (fun (v : Int) => []) (.c4 I<|.c2 I .nil) h ⟨_, Fz8 I<|Fz2 I trivial⟩ (fun _ x68 h => ?_)
    refine .seq<|.sr<|.m I<|.m I<|.p I (.ls I)<|.nil<|.keep [] [0, 1, 5, 6, 7, 8, 9, 36] (.c8 I .nil) I<|.condS I h (fun h => ?_) fun h => ?_
    ·refine .skip<|.seq<|.block<|.seq<|.draw 8 Hm (by kernel_rfl) (by kernel_rfl)<|.m I<|.m I<|bK h fun x70 q70 h => .p I (.ix I U23 S127 q70)<|.f I (ziV _) Y9 I<|.f I (ziV _) Y9 I<|.p I (.str_eql I I I)<|.nil<|.nil<|.condS I h (fun h => ?_) fun h => ?_
     ·refine .sr<|.z I<|.nil<|.ret (rO h I)
     ·refine .skip<|.region<|.m I<|.p I (.ad I)<|.z I<|.nil ⟨_, h, _, Fz8 I<|Fz2 I trivial⟩
    ·refine .exit<|.sr<|.m I<|.f I (zbR _) Y22 I<|bK h fun x71 q71 h => .p I (.call I (kC I) I (zd8 _ _ _ _ q71))<|.z I<|.nil<|.seq<|.seq<|.plain 18 I<|.f I (ziV _) Y9 I<|bK h fun x72 q72 h => .p I (.call I (kC I) I (zhw _ _ _ q72))<|.p I (.nt I)<|.m I<|.jO 3 (decide (x63.kind < 0)) I (fun b73 => ?_) ?_
     ·refine .qf I (zcC _) Y3 I<|.q I (.ls I)<|.nil I
     refine .m I<|.jO 3 (decide (5 < x63.kind)) I (fun b74 => ?_) ?_
     ·refine .qf I (zcC _) Y3 I<|.q I (.gt I)<|.nil I
     refine .m I<|.jO 2 (x71 == 0) I (fun b75 => ?_) ?_
     ·refine .qm I<|.q I (.eq I)<|.nil I
     refine .nil<|.nil<|.keep [] [0, 1, 5, 6, 7, 8, 10, 68] (.c8 I .nil) I<|.condS I h (fun h => ?_) fun h => ?_
     ·refine .sr<|.z I<|.nil<|.ret (rO h I)
     ·refine .skip<|.seq<|.seq<|.plain 19 I<|.p I (.fa I (zdg _))<|.f I (G87_0 _) Y3 I<|.p I (.fa I (zdg _))<|.f I (G87_1 _) Y3 I<|.p I (.gt I)<|.m I<|.jO 4 (decide (x63.range.lo < (-9999))) I (fun b76 => ?_) ?_
      ·refine .q I (.fa I (zdg _))<|.qf I (G87_0 _) Y3 I<|.q I (.ls I)<|.nil I
      refine .m I<|.jO 4 (decide (9999 < x63.range.hi)) I (fun b77 => ?_) ?_
      ·refine .q I (.fa I (zdg _))<|.qf I (G87_1 _) Y3 I<|.q I (.gt I)<|.nil I
      refine .nil<|.nil<|.keep [] [0, 1, 5, 6, 7, 8, 10, 87] (.c8 I .nil) I<|.condS I h (fun h => ?_) fun h => ?_
      ·refine .sr<|.z I<|.nil<|.ret (rO h I)
      ·refine .skip<|.seq<|.seq<|.plain 25 I<|.f I (zcC _) Y3 I<|.p I (.eq I)<|.m I<|.jO 3 (x63.kind == 2) I (fun b78 => ?_) ?_
       ·refine .qf I (zcC _) Y3 I<|.q I (.eq I)<|.nil I
       refine .m I<|.jO 3 (x63.kind == 3) I (fun b79 => ?_) ?_
       ·refine .qf I (zcC _) Y3 I<|.q I (.eq I)<|.nil I
       refine .m I<|.jA 10 ((x63.range.lo != 0) || (x63.range.hi != 1)) I (fun b80 => ?_) ?_
       ·refine .q I (.fa I (zdg _))<|.qf I (G87_0 _) Y3 I<|.q I (.ne I)<|.qm I<|.jOr 4 (b2 := x63.range.hi != 1) I I I I (.inr ⟨_, _, _, I, I, I⟩) (fun _ _ _ h1 h2 => by cases h1; cases h2; decide) I I (fun b81 => ?_) ?_
        ·refine .q I (.fa I (zdg _))<|.qf I (G87_1 _) Y3 I<|.q I (.ne I)<|.nil I
        exact .nil I
       refine .nil<|.nil<|.keep [] [0, 1, 5, 6, 7, 8, 10, 112] (.c8 I .nil) I<|.condS I h (fun h => ?_) fun h => ?_
       ·refine .sr<|.z I<|.nil<|.ret (rO h I)
       ·refine .skip<|.sr<|.f I (zcC _) Y3 I<|bK h fun x82 q82 h => .p I (.call I (kC I) I (zd9 _ _ _ q82))<|.nil<|.condS I h (fun h => ?_) fun h => ?_
        ·refine .seq<|.sr<|.f I (ziW _) Y3 I<|.m I<|.p I (.ne I)<|.nil<|.condS I h (fun h => ?_) fun h => ?_
         ·refine .sr<|.z I<|.nil<|.ret (rO h I)
         ·refine .skip<|.region<|.m I<|.m I<|.p I (.ad I)<|.z I<|.nil ⟨_, h, _, Fz8 I trivial⟩
        ·refine .seq<|.sr<|.f I (ziW _) Y3 I<|.m I<|.p I (.ne I)<|.nil<|.condS I h (fun h => ?_) fun h => ?_
         ·refine .sr<|.z I<|.nil<|.ret (rO h I)
         ·refine .skip<|.region<|.m I<|.m I<|.p I (.ad I)<|.z I<|.nil ⟨_, h, _, Fz8 I trivial⟩
   ·obtain ⟨x60, x61⟩ := v
    refine .region<|.m I<|.p I (.ad I)<|.z I<|.nil ⟨_, h, _, Fz8 I trivial⟩
  ·refine .exit<|.seq<|.plain 6 I<|.m I<|.p I (.le I)<|.m I<|.jA 2 (decide (x57 ≤ 64)) I (fun b83 => ?_) ?_
   ·refine .qm I<|.q I (.le I)<|.nil I
   refine .nil<|.z I<|.nil<|.ret (rO h I)
theorem zjA (n : Nat) (t0 : List Int) (t1 : List Table) (t2 : Bool) (r : List Range) (h : zaB n t0 t1 t2 = some r) : Pure pg 93 [eA t0, eB t1, .bool t2] (eK r) := by
 refine Pure.ot Tryz.func93 I Tryz.ntmps93 I fun A w => .sr<|.p I (.nilS 2 (α := Range) Range.enc I)<|.nil<|.sr<|.buildVec [] I I I I I E48 I (fun _ => I) I (enc := Range.enc)<|.z I<|.nil<|.seq<|.sr<|.m I<|.m I<|bK h fun x1 q1 h => .p I (.call I (kC I) I (zeD _ _ _ _ q1))<|.p I (.nt I)<|.nil<|.condS I h (fun h => ?_) fun h => ?_
 ·refine .sr<|.m I<|.z I<|.nil<|.ret ?_
  cases h
  exact zbv I (.vec I (by simp))
 ·refine .skip<|.seq<|.sr<|.z I<|.nil<|.block<|.loopS [0, 1, 2] (fun (v : (List Range) × Int) => [(7, .vec 0 (List.length v.1)), (8, .d (.int v.2))]) (fun (v : (List Range) × Int) => [(0, .vec 87 2 (List.map Range.enc v.1))]) (.c2 I<|.c I .nil) h ⟨_, Fz8 I trivial⟩ (fun _ v h => ?_)
  obtain ⟨b0_62, x63⟩ := v
  refine .seq<|.sr<|.m I<|.m I<|.p I (.len I U23 I)<|.p I (.ls I)<|.nil<|.keep [.vec 87 2 (List.map Range.enc b0_62)] [0, 1, 2, 7, 8, 19] (.c4 I<|.c2 I .nil) I<|.condS I h (fun h => ?_) fun h => ?_
  ·refine .skip<|.seq<|.block<|.sr<|.z I<|.nil<|.block<|.loopS [0, 1, 2, 8] (fun (v : (List Range) × Int) => [(7, .vec 0 (List.length v.1)), (9, .d (.int v.2))]) (fun (v : (List Range) × Int) => [(0, .vec 87 2 (List.map Range.enc v.1))]) (.c4 I .nil) h ⟨_, Fz8 I<|FzE⟩ (fun _ v h => ?_)
   obtain ⟨b0_83, x84⟩ := v
   refine .seq<|.seq<|.plain 19 I<|.m I<|.m I<|bK h fun x86 q86 h => .p I (.ix I U23 S127 q86)<|.f I (zcC _) Y3 I<|bK h fun x87 q87 h => .p I (.call I (kC I) I (zd9 _ _ _ q87))<|.m I<|.p I (.beq I U4 I I)<|.m I<|gK h fun c89 h => gK h fun c90 h => .jA 9 (decide (x84 < ((zY n t0 (((idx t1 x63).getD default).columns)).getD default))) I (fun b88 => ?_) ?_
   ·refine .qm I<|.qm I<|.qm I<|.qm I<|.q I (.ix I U23 S127 (someD (impT c89 b88)))<|.qf I (zbR _) Y22 I<|.q I (.call I (kC I) I (zd8 _ _ _ _ (someD (impT c90 b88))))<|.q I (.ls I)<|.nil I
   refine .nil<|.nil<|.keep [.vec 87 2 (List.map Range.enc b0_83)] [0, 1, 2, 7, 8, 9, 40] (.c4 I<|.c2 I<|.c I .nil) I<|.condS I h (fun h => ?_) fun h => ?_
   ·refine .skip<|.seq<|.block<|.region<|.m I<|.m I<|.m I<|bK h fun x91 q91 h => .p I (.ix I U23 S127 q91)<|.f I (zdg _) Y87 I<|.p I (.buildSl [_] I I E48 I (fun _ => I) I (enc := Range.enc))<|bK h fun x92 q92 h => .app I I I I I I I I E48 I (fun _ => I) q92<|.z I<|.nil<|.region<|.m I<|.p I (.ad I)<|.z I<|.nil ⟨_, h, _, Fz8 I<|FzE⟩
   ·refine .exit<|.region<|.m I<|.p I (.ad I)<|.z I<|.nil ⟨_, h, _, Fz8 I trivial⟩
  ·refine .exit<|.sr<|.m I<|.z I<|.nil<|.ret ?_
   cases h
   exact zbv I (.vec I (by simp))
end Go.Proofs.YtcagdmegicijlaaGreatDoor
