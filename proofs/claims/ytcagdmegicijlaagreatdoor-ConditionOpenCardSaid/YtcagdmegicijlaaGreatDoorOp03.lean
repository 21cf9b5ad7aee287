/- Part of the proof of one law of the seat. -/
import Derived.Test.YtcagdmegicijlaaGreatDoorOp02
import Derived.RangeFuncRecord
import Derived.RangeFuncCalls
import Derived.RangeFuncLeaves
import Derived.WalkKit
import Derived.TacticsIn
import Derived.TacticsInMore
import Derived.BigFrameIn
import Derived.OwnWalkIn
set_option linter.unusedVariables false
set_option linter.unusedSectionVars false
set_option linter.unusedSimpArgs false
set_option maxHeartbeats 4000000
namespace Go.Proofs.YtcagdmegicijlaaGreatDoor
open Go Go.RowKit
noncomputable def law22_example (n : Nat) : Option Model :=
 some (⟨[], [(⟨[99], 1, [], (⟨0, 3⟩ : Range), 0⟩ : Table)], [[99]], [(⟨0, 0, (⟨[(⟨0, (-1)⟩ : Term)], 0⟩ : Row), 0, 0⟩ : Constraint), (⟨0, 0, (⟨[(⟨0, 1⟩ : Term)], 3⟩ : Row), 0, 0⟩ : Constraint)], [(⟨[116, 119, 111], false, []⟩ : Operation)], [(⟨0, [], (⟨[(⟨0, 2⟩ : Change)], [], []⟩ : Effect)⟩ : Action)], []⟩ : Model)
noncomputable def slices_IndexFunc_Lint_int.l1 (n : Nat) (t0 : List Int) (t1 : Int → Option Bool) (rec_8 : Int → Option Int) (s : Int) : Option Int :=
 let x8_7 := s
 if (decide (x8_7 < (t0.length : Int))) = true then
  (idx t0 x8_7).bind fun x14_9 =>
  (t1 x14_9).bind fun x16_10 =>
  if x16_10 = true then
   some x8_7
  else
   rec_8 (add64 x8_7 1)
 else
  some (-1)
noncomputable def slices_IndexFunc_Lint_int (n : Nat) (t0 : List Int) (t1 : Int → Option Bool) : Option Int :=
 loopF (slices_IndexFunc_Lint_int.l1 n t0 t1) n 0
noncomputable def slices_ContainsFunc_Lint_int (n : Nat) (t0 : List Int) (t1 : Int → Option Bool) : Option Bool :=
 (slices_IndexFunc_Lint_int n t0 t1).bind fun x7_1 =>
 some (decide (0 ≤ x7_1))
noncomputable def cells_within (n : Nat) (t0 : Int) (t1 : Int) (t2 : Int) : Option Bool :=
 some ((decide (t1 ≤ t0)) && (decide (t0 ≤ t2)))
noncomputable def cells_sized_1 (n : Nat) (t0 : Int) : Option Bool :=
 (cells_within n t0 1 6).bind fun x4_1 =>
 some (!x4_1)
noncomputable def cells_sized (n : Nat) (t0 : List Int) : Option Bool :=
 (slices_ContainsFunc_Lint_int n t0 (fun q0 => cells_sized_1 n q0)).bind fun x4_1 =>
 some (!x4_1)
noncomputable def slices_Index_Lbool_bool.l1 (n : Nat) (t0 : List Bool) (t1 : Bool) (rec_6 : Int → Option Int) (s : Int) : Option Int :=
 let x8_5 := s
 if (decide (x8_5 < (t0.length : Int))) = true then
  (idx t0 x8_5).bind fun x14_7 =>
  if (t1 == x14_7) = true then
   some x8_5
  else
   rec_6 (add64 x8_5 1)
 else
  some (-1)
noncomputable def slices_Index_Lbool_bool (n : Nat) (t0 : List Bool) (t1 : Bool) : Option Int :=
 loopF (slices_Index_Lbool_bool.l1 n t0 t1) n 0
noncomputable def slices_Contains_Lbool_bool (n : Nat) (t0 : List Bool) (t1 : Bool) : Option Bool :=
 (slices_Index_Lbool_bool n t0 t1).bind fun x7_1 =>
 some (decide (0 ≤ x7_1))
noncomputable def cells_all (n : Nat) (t0 : List Bool) : Option Bool :=
 (slices_Contains_Lbool_bool n t0 false).bind fun x4_1 =>
 some (!x4_1)
noncomputable def strings_FieldsFunc (n : Nat) (t0 : List UInt8) (t1 : Int → Option Bool) : Option (List (List UInt8)) :=
 none
noncomputable def unicode_IsSpace (n : Nat) (t0 : Int) : Option Bool :=
 if (decide (wk .u32 t0 ≤ 255)) = true then
  jn (fun (v : Bool) =>
   let x7_1 := v
   if x7_1 = true then
    some true
   else
    some false) fun k_2 =>
  if (t0 == 9) = true then
   k_2 (t0 == 9)
  else
   if (t0 == 10) = true then
    k_2 (t0 == 10)
   else
    if (t0 == 11) = true then
     k_2 (t0 == 11)
    else
     if (t0 == 12) = true then
      k_2 (t0 == 12)
     else
      if (t0 == 13) = true then
       k_2 (t0 == 13)
      else
       if (t0 == 32) = true then
        k_2 (t0 == 32)
       else
        if (t0 == 133) = true then
         k_2 (t0 == 133)
        else
         k_2 (t0 == 160)
 else
  none
noncomputable def strings_Fields.l4 (n : Nat) (t0 : List UInt8) (x10_80 : Int) (rec_83 : ((List (List UInt8)) × Int × Int × Int) → Option (List (List UInt8))) (b0_88 : List (List UInt8)) (rec_98 : Int → Option (List (List UInt8))) (s : Int) : Option (List (List UInt8)) :=
 let x12_97 := s
 grd (!(decide (x12_97 < (t0.length : Int))) || (sidx t0 x12_97).isSome) <|
 grd (!(decide (x12_97 < (t0.length : Int))) || (idx tab0 ((sidx t0 x12_97).getD default)).isSome) <|
 if ((decide (x12_97 < (t0.length : Int))) && (((idx tab0 ((sidx t0 x12_97).getD default)).getD default) != 0)) = true then
  rec_98 (add64 x12_97 1)
 else
  rec_83 (b0_88, add64 x10_80 1, x12_97, x12_97)
noncomputable def strings_Fields.l3 (n : Nat) (t0 : List UInt8) (rec_83 : ((List (List UInt8)) × Int × Int × Int) → Option (List (List UInt8))) (s : (List (List UInt8)) × Int × Int × Int) : Option (List (List UInt8)) :=
 let b0_79 := s.1
 let x10_80 := s.2.1
 let x11_81 := s.2.2.1
 let x12_82 := s.2.2.2
 if (decide (x12_82 < (t0.length : Int))) = true then
  (sidx t0 x12_82).bind fun x63_84 =>
  (idx tab0 x63_84).bind fun x64_85 =>
  if (x64_85 == 0) = true then
   rec_83 (b0_79, x10_80, x11_81, add64 x12_82 1)
  else
   (cut t0 x11_81 x12_82).bind fun x74_86 =>
   (idx b0_79 x10_80).bind fun x75_87 =>
   (sto b0_79 x10_80 x74_86).bind fun b0_88 =>
   loopF (strings_Fields.l4 n t0 x10_80 rec_83 b0_88) n (add64 x12_82 1)
 else
  jn (fun (v : (List (List UInt8))) =>
   let b0_102 := v
   some b0_102) fun k_103 =>
  if (decide (x11_81 < (t0.length : Int))) = true then
   (cut t0 x11_81 (t0.length : Int)).bind fun x103_104 =>
   (idx b0_79 x10_80).bind fun x104_105 =>
   (sto b0_79 x10_80 x103_104).bind fun b0_106 =>
   k_103 b0_106
  else
   k_103 b0_79
noncomputable def strings_Fields.l2 (n : Nat) (t0 : List UInt8) (x41_21 : List (List UInt8)) (rec_31 : Int → Option (List (List UInt8))) (s : Int) : Option (List (List UInt8)) :=
 let x12_30 := s
 grd (!(decide (x12_30 < (t0.length : Int))) || (sidx t0 x12_30).isSome) <|
 grd (!(decide (x12_30 < (t0.length : Int))) || (idx tab0 ((sidx t0 x12_30).getD default)).isSome) <|
 if ((decide (x12_30 < (t0.length : Int))) && (((idx tab0 ((sidx t0 x12_30).getD default)).getD default) != 0)) = true then
  rec_31 (add64 x12_30 1)
 else
  loopF (strings_Fields.l3 n t0) n (x41_21, 0, x12_30, x12_30)
noncomputable def strings_Fields.l1 (n : Nat) (t0 : List UInt8) (rec_17 : (Int × Int × Int × Int) → Option (List (List UInt8))) (s : Int × Int × Int × Int) : Option (List (List UInt8)) :=
 let x3_13 := s.1
 let x4_14 := s.2.1
 let x5_15 := s.2.2.1
 let x6_16 := s.2.2.2
 if (decide (x6_16 < (t0.length : Int))) = true then
  (sidx t0 x6_16).bind fun x21_18 =>
  (idx tab0 x21_18).bind fun x26_19 =>
  rec_17 (add64 x3_13 (band .i64 x4_14 (bnot .i64 (wk .i64 x26_19))), wk .i64 x26_19, bor .u8 x5_15 x21_18, add64 x6_16 1)
 else
  if (decide (128 ≤ x5_15)) = true then
   (strings_FieldsFunc n t0 (fun q0 => unicode_IsSpace n q0)).bind fun x39_20 =>
   some x39_20
  else
   (mkl 16 x3_13 ([] : List UInt8)).bind fun x41_21 =>
   loopF (strings_Fields.l2 n t0 x41_21) n 0
noncomputable def strings_Fields (n : Nat) (t0 : List UInt8) : Option (List (List UInt8)) :=
 loopF (strings_Fields.l1 n t0) n (0, 1, 0, 0)
noncomputable def lexer_keywords.l1 (n : Nat) (x5_1 : List (List UInt8)) (rec_10 : ((GMap (List UInt8) Bool) × Int) → Option (GMap (List UInt8) Bool)) (s : (GMap (List UInt8) Bool) × Int) : Option (GMap (List UInt8) Bool) :=
 let m0_8 := s.1
 let x7_9 := s.2
 if (decide (x7_9 < (x5_1.length : Int))) = true then
  (idx x5_1 x7_9).bind fun x9_11 =>
  rec_10 ((m0_8.put x9_11 true), add64 x7_9 1)
 else
  some m0_8
noncomputable def lexer_keywords (n : Nat) : Option (GMap (List UInt8) Bool) :=
 (strings_Fields n [115, 111, 114, 116, 32, 114, 101, 108, 97, 116, 105, 111, 110, 32, 99, 111, 117, 110, 116, 101, 114, 32, 115, 101, 116, 32, 114, 101, 103, 105, 115, 116, 101, 114, 32, 105, 110, 118, 97, 114, 105, 97, 110, 116, 32, 111, 112, 101, 114, 97, 116, 105, 111, 110, 32, 107, 101, 121, 32, 114, 101, 102, 101, 114, 101, 110, 99, 101, 32, 116, 111, 32, 99, 111, 117, 110, 116, 32, 97, 99, 121, 99, 108, 105, 99, 32, 97, 108, 108, 32, 115, 117, 109, 32, 105, 110, 32, 97, 100, 100, 119, 105, 110, 115, 32, 114, 101, 109, 111, 118, 101, 119, 105, 110, 115, 32, 108, 97, 115, 116, 32, 109, 117, 108, 116, 105, 32, 104, 105, 100, 101, 32, 111, 114, 100, 101, 114, 101, 100, 32, 114, 101, 113, 117, 105, 114, 101, 32, 104, 111, 108, 100, 32, 105, 110, 115, 101, 114, 116, 32, 100, 101, 108, 101, 116, 101, 32, 97, 100, 100, 32, 102, 114, 111, 109, 32, 112, 117, 116, 32, 100, 114, 111, 112, 32, 97, 115, 115, 105, 103, 110, 32, 102, 111, 114, 32, 119, 104, 101, 114, 101, 32, 97, 110, 100, 32, 111, 114, 32, 110, 111, 116]).bind fun x5_1 =>
 loopF (lexer_keywords.l1 n x5_1) n ((GMap.empty : GMap (List UInt8) Bool), 0)
noncomputable def lexer_white (n : Nat) (t0 : Int) : Option Bool :=
 some ((((t0 == 32) || (t0 == 9)) || (t0 == 10)) || (t0 == 13))
noncomputable def lexer_run.l1 (n : Nat) (t0 : List UInt8) (t1 : Int → Option Bool) (rec_10 : Int → Option Int) (s : Int) : Option Int :=
 let x5_9 := s
 grd (!(decide (x5_9 < (t0.length : Int))) || (sidx t0 x5_9).isSome) <|
 grd (!(decide (x5_9 < (t0.length : Int))) || (t1 ((sidx t0 x5_9).getD default)).isSome) <|
 if ((decide (x5_9 < (t0.length : Int))) && ((t1 ((sidx t0 x5_9).getD default)).getD default)) = true then
  rec_10 (add64 x5_9 1)
 else
  some x5_9
noncomputable def lexer_run (n : Nat) (t0 : List UInt8) (t1 : Int → Option Bool) : Option Int :=
 loopF (lexer_run.l1 n t0 t1) n 0
noncomputable def lexer_skip_1 (n : Nat) (t0 : Int) : Option Bool :=
 some (t0 != 10)
noncomputable def lexer_skip.l1 (n : Nat) (t0 : List UInt8) (rec_14 : Int → Option Int) (s : Int) : Option Int :=
 let x3_13 := s
 if (decide (x3_13 < (t0.length : Int))) = true then
  (sidx t0 x3_13).bind fun x12_15 =>
  (lexer_white n x12_15).bind fun x13_16 =>
  if x13_16 = true then
   rec_14 (add64 x3_13 1)
  else
   (sidx t0 x3_13).bind fun x19_17 =>
   if (x19_17 == 35) = true then
    (cut t0 x3_13 (t0.length : Int)).bind fun x24_18 =>
    (lexer_run n x24_18 (fun q0 => lexer_skip_1 n q0)).bind fun x25_19 =>
    rec_14 (add64 x3_13 x25_19)
   else
    some x3_13
 else
  some x3_13
noncomputable def lexer_skip (n : Nat) (t0 : List UInt8) : Option Int :=
 loopF (lexer_skip.l1 n t0) n 0
noncomputable def lexer_letter (n : Nat) (t0 : Int) : Option Bool :=
 some ((decide (97 ≤ t0)) && (decide (t0 ≤ 122)))
noncomputable def lexer_digit (n : Nat) (t0 : Int) : Option Bool :=
 some ((decide (48 ≤ t0)) && (decide (t0 ≤ 57)))
noncomputable def lexer_part (n : Nat) (t0 : Int) : Option Bool :=
 (lexer_letter n t0).bind fun x4_1 =>
 grd (x4_1 || (lexer_digit n t0).isSome) <|
 some ((x4_1 || ((lexer_digit n t0).getD default)) || (t0 == 95))
noncomputable def internal_stringslite_HasPrefix (n : Nat) (t0 : List UInt8) (t1 : List UInt8) : Option Bool :=
 grd (!(decide ((t1.length : Int) ≤ (t0.length : Int))) || (cut t0 0 (t1.length : Int)).isSome) <|
 some ((decide ((t1.length : Int) ≤ (t0.length : Int))) && (decide (((cut t0 0 (t1.length : Int)).getD default) = t1)))
noncomputable def strings_HasPrefix (n : Nat) (t0 : List UInt8) (t1 : List UInt8) : Option Bool :=
 (internal_stringslite_HasPrefix n t0 t1).bind fun x7_1 =>
 some x7_1
noncomputable def internal_stringslite_IndexByte (n : Nat) (t0 : List UInt8) (t1 : Int) : Option Int :=
 some (Lib.indexByte t0 t1.toNat.toUInt8)
noncomputable def strings_IndexByte (n : Nat) (t0 : List UInt8) (t1 : Int) : Option Int :=
 (internal_stringslite_IndexByte n t0 t1).bind fun x7_1 =>
 some x7_1
noncomputable def lexer_symbol.l1 (n : Nat) (t0 : List UInt8) (rec_8 : Int → Option Int) (s : Int) : Option Int :=
 let x7_7 := s
 if (decide (x7_7 < ([[61, 61], [33, 61], [60, 61], [62, 61], [46, 46]].length : Int))) = true then
  (idx [[61, 61], [33, 61], [60, 61], [62, 61], [46, 46]] x7_7).bind fun x9_9 =>
  (strings_HasPrefix n t0 x9_9).bind fun x13_10 =>
  if x13_10 = true then
   some 2
  else
   rec_8 (add64 x7_7 1)
 else
  grd (!(!decide (t0 = [])) || (sidx t0 0).isSome) <|
  grd (!(!decide (t0 = [])) || (strings_IndexByte n [60, 62, 61, 43, 45, 42, 40, 41, 123, 125, 44, 58, 59] ((sidx t0 0).getD default)).isSome) <|
  if ((!decide (t0 = [])) && (decide (0 ≤ ((strings_IndexByte n [60, 62, 61, 43, 45, 42, 40, 41, 123, 125, 44, 58, 59] ((sidx t0 0).getD default)).getD default)))) = true then
   some 1
  else
   some 0
noncomputable def lexer_symbol (n : Nat) (t0 : List UInt8) : Option Int :=
 loopF (lexer_symbol.l1 n t0) n 0
noncomputable def lexer_begins (n : Nat) (t0 : List UInt8) : Option Bool :=
 (sidx t0 0).bind fun x4_1 =>
 (lexer_letter n x4_1).bind fun x5_2 =>
 grd (x5_2 || (sidx t0 0).isSome) <|
 grd (x5_2 || (lexer_digit n ((sidx t0 0).getD default)).isSome) <|
 grd ((x5_2 || ((lexer_digit n ((sidx t0 0).getD default)).getD default)) || (lexer_symbol n t0).isSome) <|
 some ((x5_2 || ((lexer_digit n ((sidx t0 0).getD default)).getD default)) || (decide (0 < ((lexer_symbol n t0).getD default))))
noncomputable def lexer_tokens_1.l2 (n : Nat) (x19_47 : List UInt8) (k_50 : (Int × Int) → Option Token) (rec_79 : Int → Option Token) (s : Int) : Option Token :=
 let x7_78 := s
 grd (!(decide (x7_78 < (x19_47.length : Int))) || (sidx x19_47 x7_78).isSome) <|
 grd (!(decide (x7_78 < (x19_47.length : Int))) || (lexer_white n ((sidx x19_47 x7_78).getD default)).isSome) <|
 grd (!((decide (x7_78 < (x19_47.length : Int))) && (!((lexer_white n ((sidx x19_47 x7_78).getD default)).getD default))) || (sidx x19_47 x7_78).isSome) <|
 grd (!(((decide (x7_78 < (x19_47.length : Int))) && (!((lexer_white n ((sidx x19_47 x7_78).getD default)).getD default))) && (((sidx x19_47 x7_78).getD default) != 35)) || (cut x19_47 x7_78 (x19_47.length : Int)).isSome) <|
 grd (!(((decide (x7_78 < (x19_47.length : Int))) && (!((lexer_white n ((sidx x19_47 x7_78).getD default)).getD default))) && (((sidx x19_47 x7_78).getD default) != 35)) || (lexer_begins n ((cut x19_47 x7_78 (x19_47.length : Int)).getD default)).isSome) <|
 if ((((decide (x7_78 < (x19_47.length : Int))) && (!((lexer_white n ((sidx x19_47 x7_78).getD default)).getD default))) && (((sidx x19_47 x7_78).getD default) != 35)) && (!((lexer_begins n ((cut x19_47 x7_78 (x19_47.length : Int)).getD default)).getD default))) = true then
  rec_79 (add64 x7_78 1)
 else
  k_50 (5, x7_78)
noncomputable def lexer_tokens_1.l1 (n : Nat) (t1 : List UInt8) (t2 : GMap (List UInt8) Bool) (rec_44 : Unit → Option Token) (s : Unit) : Option Token :=
 (cut t1 0 (t1.length : Int)).bind fun x12_45 =>
 (lexer_skip n x12_45).bind fun x13_46 =>
 (cut t1 (add64 0 x13_46) (t1.length : Int)).bind fun x19_47 =>
 jn (fun (v : Int × Int) =>
  let c0_0_48 := v.1
  let x7_49 := v.2
  some (⟨c0_0_48, 0, add64 0 x13_46, add64 (add64 0 x13_46) x7_49⟩ : Token)) fun k_50 =>
 if (decide (x19_47 = [])) = true then
  k_50 (0, 0)
 else
  (sidx x19_47 0).bind fun x52_51 =>
  (lexer_letter n x52_51).bind fun x53_52 =>
  if x53_52 = true then
   (lexer_run n x19_47 (fun q0 => lexer_part n q0)).bind fun x55_53 =>
   (cut x19_47 0 x55_53).bind fun x60_54 =>
   if ((t2.get? x60_54).getD false) = true then
    k_50 (2, x55_53)
   else
    k_50 (1, x55_53)
  else
   (sidx x19_47 0).bind fun x65_55 =>
   (lexer_digit n x65_55).bind fun x66_56 =>
   if x66_56 = true then
    (lexer_run n x19_47 (fun q0 => lexer_digit n q0)).bind fun x68_57 =>
    k_50 (3, x68_57)
   else
    (lexer_symbol n x19_47).bind fun x72_58 =>
    if (decide (0 < x72_58)) = true then
     (lexer_symbol n x19_47).bind fun x75_59 =>
     k_50 (4, x75_59)
    else
     loopF (lexer_tokens_1.l2 n x19_47 k_50) n 1
noncomputable def lexer_tokens_1 (n : Nat) (t1 : List UInt8) (t2 : GMap (List UInt8) Bool) : Option Token :=
 loopF (lexer_tokens_1.l1 n t1 t2) n ()
noncomputable def lexer_Kind (n : Nat) (t0 : List UInt8) : Option Int :=
 if ((decide (t0 = [])) || (decide (4096 < (t0.length : Int)))) = true then some 0
 else
  (lexer_keywords n).bind fun kw =>
  (lexer_tokens_1 n t0 kw).bind fun tok =>
  if (tok.at_ != 0 || tok.end_ != (t0.length : Int)) = true then some 0 else some tok.kind
noncomputable def lexer_Name (n : Nat) (t0 : List UInt8) : Option Bool :=
 grd (!(decide ((t0.length : Int) ≤ 16)) || (lexer_Kind n t0).isSome) <|
 some ((decide ((t0.length : Int) ≤ 16)) && (((lexer_Kind n t0).getD default) == 1))
noncomputable def cells_columned_1 (n : Nat) (t0 : Int) (t1 : List Int) : Option Bool :=
 some ((decide (t0 < 0)) || (decide ((t1.length : Int) ≤ t0)))
noncomputable def cells_columned (n : Nat) (t0 : List Int) (t1 : List Int) : Option Bool :=
 grd (!(decide ((t1.length : Int) ≤ 3)) || (slices_ContainsFunc_Lint_int n t1 (fun q0 => cells_columned_1 n q0 t0)).isSome) <|
 some ((decide ((t1.length : Int) ≤ 3)) && (!((slices_ContainsFunc_Lint_int n t1 (fun q0 => cells_columned_1 n q0 t0)).getD default)))
noncomputable def cells_ranged (n : Nat) (t0 : Table) : Option Bool :=
 jn (fun (v : Bool) =>
  let x5_1 := v
  if x5_1 = true then
   some (((decide (t0.range.lo ≤ t0.range.hi)) && (decide ((-9999) ≤ t0.range.lo))) && (decide (t0.range.hi ≤ 9999)))
  else
   some (decide ((t0.range : Range) = (⟨0, 1⟩ : Range)))) fun k_2 =>
 if (t0.kind == 1) = true then
  k_2 (t0.kind == 1)
 else
  if (t0.kind == 4) = true then
   k_2 (t0.kind == 4)
  else
   k_2 (t0.kind == 5)
noncomputable def cells_isStrict (n : Nat) (t0 : Table) : Option Bool :=
 some ((t0.kind == 0) || (t0.kind == 1))
noncomputable def cells_width.l1 (n : Nat) (t0 : List Int) (t1 : List Int) (rec_11 : (Int × Int) → Option Int) (s : Int × Int) : Option Int :=
 let x5_9 := s.1
 let x10_10 := s.2
 if (decide (x10_10 < (t1.length : Int))) = true then
  (idx t1 x10_10).bind fun x12_12 =>
  (idx t0 x12_12).bind fun x17_13 =>
  rec_11 (mul64 x5_9 x17_13, add64 x10_10 1)
 else
  some x5_9
noncomputable def cells_width (n : Nat) (t0 : List Int) (t1 : List Int) : Option Int :=
 loopF (cells_width.l1 n t0 t1) n (1, 0)
noncomputable def cells_Valid.l1 (n : Nat) (t0 : List Int) (t1 : List Table) (rec_41 : ((GMap (List UInt8) Bool) × Int × Int × Int) → Option Bool) (s : (GMap (List UInt8) Bool) × Int × Int × Int) : Option Bool :=
 let m0_37 := s.1
 let c1_0_38 := s.2.1
 let c2_0_39 := s.2.2.1
 let x25_40 := s.2.2.2
 if (decide (x25_40 < (t1.length : Int))) = true then
  jn (fun (v : (GMap (List UInt8) Bool) × Int × Int) =>
   let m0_42 := v.1
   let c1_0_43 := v.2.1
   let c2_0_44 := v.2.2
   rec_41 (m0_42, c1_0_43, c2_0_44, add64 x25_40 1)) fun k_45 =>
  (idx t1 x25_40).bind fun x27_46 =>
  (lexer_Name n x27_46.name).bind fun x31_47 =>
  (cells_within n x27_46.kind 0 5).bind fun x39_48 =>
  (cells_columned n t0 x27_46.columns).bind fun x43_49 =>
  (cells_ranged n x27_46).bind fun x45_50 =>
  (cells_all n [x31_47, !((m0_37.get? x27_46.name).getD false), x39_48, x43_49, x45_50]).bind fun x47_51 =>
  if (!x47_51) = true then
   some false
  else
   (cells_isStrict n x27_46).bind fun x53_52 =>
   if x53_52 = true then
    if (x27_46.first != c1_0_38) = true then
     some false
    else
     (cells_width n t0 x27_46.columns).bind fun x66_53 =>
     k_45 ((m0_37.put x27_46.name true), add64 c1_0_38 x66_53, c2_0_39)
   else
    if (x27_46.first != c2_0_39) = true then
     some false
    else
     (cells_width n t0 x27_46.columns).bind fun x66_54 =>
     k_45 ((m0_37.put x27_46.name true), c1_0_38, add64 c2_0_39 x66_54)
 else
  some ((decide (c1_0_38 ≤ 128)) && (decide (c2_0_39 ≤ 64)))
noncomputable def cells_Valid (n : Nat) (t0 : List Int) (t1 : List Table) : Option Bool :=
 (cells_sized n t0).bind fun x18_1 =>
 (cells_all n [decide ((t0.length : Int) ≤ 4), decide ((t1.length : Int) ≤ 12), x18_1]).bind fun x20_2 =>
 if (!x20_2) = true then
  some false
 else
  loopF (cells_Valid.l1 n t0 t1) n ((GMap.empty : GMap (List UInt8) Bool), 0, 0, 0)
noncomputable def model_distinct.l1 (n : Nat) (t0 : List (List UInt8)) (rec_13 : ((GMap (List UInt8) Bool) × Int) → Option Bool) (s : (GMap (List UInt8) Bool) × Int) : Option Bool :=
 let m0_11 := s.1
 let x9_12 := s.2
 if (decide (x9_12 < (t0.length : Int))) = true then
  (idx t0 x9_12).bind fun x11_14 =>
  (lexer_Name n x11_14).bind fun x14_15 =>
  if ((!x14_15) || ((m0_11.get? x11_14).getD false)) = true then
   some false
  else
   rec_13 ((m0_11.put x11_14 true), add64 x9_12 1)
 else
  some true
noncomputable def model_distinct (n : Nat) (t0 : List (List UInt8)) : Option Bool :=
 loopF (model_distinct.l1 n t0) n ((GMap.empty : GMap (List UInt8) Bool), 0)
noncomputable def math_bits_Mul64 (n : Nat) (t0 : Int) (t1 : Int) : Option (Int × Int) :=
 (shrO .u64 t0 32).bind fun x17_1 =>
 (shrO .u64 t1 32).bind fun x21_2 =>
 (shrO .u64 (wk .u64 ((band .u64 t0 4294967295) * (band .u64 t1 4294967295))) 32).bind fun x29_3 =>
 (shrO .u64 (wk .u64 ((wk .u64 (x17_1 * (band .u64 t1 4294967295))) + x29_3)) 32).bind fun x34_4 =>
 (shrO .u64 (wk .u64 ((band .u64 (wk .u64 ((wk .u64 (x17_1 * (band .u64 t1 4294967295))) + x29_3)) 4294967295) + (wk .u64 ((band .u64 t0 4294967295) * x21_2)))) 32).bind fun x46_5 =>
 some (wk .u64 ((wk .u64 ((wk .u64 (x17_1 * x21_2)) + x34_4)) + x46_5), wk .u64 (t0 * t1))
noncomputable def math_bits_Mul (n : Nat) (t0 : Int) (t1 : Int) : Option (Int × Int) :=
 (math_bits_Mul64 n t0 t1).bind fun x25_1 =>
 some (x25_1.1, x25_1.2)
noncomputable def slices_Repeat_LRange_api_Range.l1 (n : Nat) (rec_14 : ((List Range) × Int) → Option (List Range)) (s : (List Range) × Int) : Option (List Range) :=
 let b0_12 := s.1
 let x8_13 := s.2
 if (decide (x8_13 < (b0_12.length : Int))) = true then
  (cut b0_12 x8_13 (b0_12.length : Int)).bind fun x41_15 =>
  (cut b0_12 0 x8_13).bind fun x44_16 =>
  rec_14 ((copyTo b0_12 x8_13.toNat b0_12.length ((b0_12.drop 0).take (x8_13.toNat - 0))), add64 x8_13 (min (b0_12.length - x8_13.toNat) ((b0_12.drop 0).take (x8_13.toNat - 0)).length : Nat))
 else
  some b0_12
noncomputable def slices_Repeat_LRange_api_Range (n : Nat) (t0 : List Range) (t1 : Int) : Option (List Range) :=
 if (decide (t1 < 0)) = true then
  none
 else
  (math_bits_Mul n (wk .u64 (t0.length : Int)) (wk .u64 t1)).bind fun x18_1 =>
  if ((decide (0 < x18_1.1)) || (decide (9223372036854775807 < x18_1.2))) = true then
   none
  else
   (mkl 16 (wk .i64 x18_1.2) (⟨0, 0⟩ : Range)).bind fun x30_3 =>
   loopF (slices_Repeat_LRange_api_Range.l1 n) n ((copyTo x30_3 0 x30_3.length t0), (min (x30_3.length - 0) t0.length : Nat))
noncomputable def cells_Ranges.l1 (n : Nat) (t0 : List Int) (t1 : List Table) (t2 : Bool) (rec_22 : ((List Range) × Int) → Option (List Range)) (s : (List Range) × Int) : Option (List Range) :=
 let b0_20 := s.1
 let x16_21 := s.2
 if (decide (x16_21 < (t1.length : Int))) = true then
  jn (fun (v : (List Range)) =>
   let b0_23 := v
   rec_22 (b0_23, add64 x16_21 1)) fun k_24 =>
  (idx t1 x16_21).bind fun x18_25 =>
  (cells_isStrict n x18_25).bind fun x21_26 =>
  if (x21_26 == t2) = true then
   (cells_width n t0 x18_25.columns).bind fun x31_27 =>
   (slices_Repeat_LRange_api_Range n [x18_25.range] x31_27).bind fun x32_28 =>
   (app 16 b0_20 x32_28).bind fun x33_29 =>
   k_24 x33_29
  else
   k_24 b0_20
 else
  some b0_20
noncomputable def cells_Ranges (n : Nat) (t0 : List Int) (t1 : List Table) (t2 : Bool) : Option (List Range) :=
 (cells_Valid n t0 t1).bind fun x12_1 =>
 if (!x12_1) = true then
  some []
 else
  loopF (cells_Ranges.l1 n t0 t1 t2) n (([] : List Range), 0)
noncomputable def model_index (n : Nat) (t0 : Int) (t1 : Int) : Option Bool :=
 some ((decide (0 ≤ t0)) && (decide (t0 < t1)))
noncomputable def model_around (n : Nat) (t0 : Int) (t1 : Int) : Option Bool :=
 some ((decide (neg64 t1 ≤ t0)) && (decide (t0 ≤ t1)))
noncomputable def model_judge_row.l1 (n : Nat) (t0 : Judge) (t1 : Row) (rec_17 : (Int × Int) → Option Bool) (s : Int × Int) : Option Bool :=
 let x5_15 := s.1
 let x11_16 := s.2
 if (decide (x11_16 < (t1.terms.length : Int))) = true then
  (idx t1.terms x11_16).bind fun x13_18 =>
  grd ((((decide (x13_18.cell ≤ x5_15)) || (decide ((t0.strict.length : Int) ≤ x13_18.cell))) || (x13_18.factor == 0)) || (model_around n x13_18.factor 1000).isSome) <|
  if ((((decide (x13_18.cell ≤ x5_15)) || (decide ((t0.strict.length : Int) ≤ x13_18.cell))) || (x13_18.factor == 0)) || (!((model_around n x13_18.factor 1000).getD default))) = true then
   some false
  else
   rec_17 (x13_18.cell, add64 x11_16 1)
 else
  (model_around n t1.bound 1000000000).bind fun x43_23 =>
  some x43_23
noncomputable def model_judge_row (n : Nat) (t0 : Judge) (t1 : Row) : Option Bool :=
 loopF (model_judge_row.l1 n t0 t1) n ((-1), 0)
noncomputable def model_judge_graph_1 (n : Nat) (t0 : Table) (t1 : Constraint) (t2 : Judge) : Option Bool :=
 grd (!((t0.kind == 0) && ((t0.columns.length : Int) == 2)) || (idx t0.columns 0).isSome) <|
 grd (!((t0.kind == 0) && ((t0.columns.length : Int) == 2)) || (idx t0.columns 1).isSome) <|
 grd (!((((t0.kind == 0) && ((t0.columns.length : Int) == 2)) && (((idx t0.columns 0).getD default) == ((idx t0.columns 1).getD default))) && (t0.first == t1.first)) || (idx t0.columns 0).isSome) <|
 grd (!((((t0.kind == 0) && ((t0.columns.length : Int) == 2)) && (((idx t0.columns 0).getD default) == ((idx t0.columns 1).getD default))) && (t0.first == t1.first)) || (idx t2.model.sorts ((idx t0.columns 0).getD default)).isSome) <|
 some (((((t0.kind == 0) && ((t0.columns.length : Int) == 2)) && (((idx t0.columns 0).getD default) == ((idx t0.columns 1).getD default))) && (t0.first == t1.first)) && (((idx t2.model.sorts ((idx t0.columns 0).getD default)).getD default) == t1.size))
noncomputable def slices_IndexFunc_LTable_api_Table.l1 (n : Nat) (t0 : List Table) (t1 : Table → Option Bool) (rec_8 : Int → Option Int) (s : Int) : Option Int :=
 let x8_7 := s
 if (decide (x8_7 < (t0.length : Int))) = true then
  (idx t0 x8_7).bind fun x14_9 =>
  (t1 x14_9).bind fun x16_10 =>
  if x16_10 = true then
   some x8_7
  else
   rec_8 (add64 x8_7 1)
 else
  some (-1)
noncomputable def slices_IndexFunc_LTable_api_Table (n : Nat) (t0 : List Table) (t1 : Table → Option Bool) : Option Int :=
 loopF (slices_IndexFunc_LTable_api_Table.l1 n t0 t1) n 0
noncomputable def slices_ContainsFunc_LTable_api_Table (n : Nat) (t0 : List Table) (t1 : Table → Option Bool) : Option Bool :=
 (slices_IndexFunc_LTable_api_Table n t0 t1).bind fun x7_1 =>
 some (decide (0 ≤ x7_1))
noncomputable def model_judge_graph (n : Nat) (t0 : Judge) (t1 : Constraint) : Option Bool :=
 grd (!(((t1.row.terms.length : Int) == 0) && (t1.row.bound == 0)) || (slices_ContainsFunc_LTable_api_Table n t0.model.tables (fun q0 => model_judge_graph_1 n q0 t1 t0)).isSome) <|
 some ((((t1.row.terms.length : Int) == 0) && (t1.row.bound == 0)) && ((slices_ContainsFunc_LTable_api_Table n t0.model.tables (fun q0 => model_judge_graph_1 n q0 t1 t0)).getD default))
noncomputable def slices_Equal_LTerm_api_Term.l1 (n : Nat) (t0 : List Term) (t1 : List Term) (rec_8 : Int → Option Bool) (s : Int) : Option Bool :=
 let x13_7 := s
 if (decide (x13_7 < (t0.length : Int))) = true then
  (idx t0 x13_7).bind fun x18_9 =>
  (idx t1 x13_7).bind fun x22_10 =>
  if (!decide ((x18_9 : Term) = x22_10)) = true then
   some false
  else
   rec_8 (add64 x13_7 1)
 else
  some true
noncomputable def slices_Equal_LTerm_api_Term (n : Nat) (t0 : List Term) (t1 : List Term) : Option Bool :=
 if ((t0.length : Int) != (t1.length : Int)) = true then
  some false
 else
  loopF (slices_Equal_LTerm_api_Term.l1 n t0 t1) n 0
noncomputable def model_single (n : Nat) (t0 : Row) (t1 : Int) (t2 : Int) (t3 : Int) : Option Bool :=
 (slices_Equal_LTerm_api_Term n t0.terms [(⟨t1, t2⟩ : Term)]).bind fun x15_1 =>
 some (x15_1 && (t0.bound == t3))
noncomputable def model_judge_constraints.l1 (n : Nat) (t0 : Judge) (rec_43 : Int → Option Bool) (s : Int) : Option Bool :=
 let x28_42 := s
 if (decide (x28_42 < (t0.model.constraints.length : Int))) = true then
  jn (fun (v : Unit) =>
   rec_43 (add64 x28_42 1)) fun k_44 =>
  (idx t0.model.constraints x28_42).bind fun x31_45 =>
  jn (fun (v : Unit) =>
   (quo64 x28_42 2).bind fun x72_53 =>
   if (decide (x72_53 < (t0.strict.length : Int))) = true then
    (quo64 x28_42 2).bind fun x80_54 =>
    (idx t0.strict x80_54).bind fun x81_55 =>
    jn (fun (v : Int × Int) =>
     let x6_56 := v.1
     let x7_57 := v.2
     grd ((x31_45.kind != 0) || (quo64 x28_42 2).isSome) <|
     grd ((x31_45.kind != 0) || (model_single n x31_45.row ((quo64 x28_42 2).getD default) x6_56 x7_57).isSome) <|
     if ((x31_45.kind != 0) || (!((model_single n x31_45.row ((quo64 x28_42 2).getD default) x6_56 x7_57).getD default))) = true then
      some false
     else
      k_44 ()) fun k_58 =>
    (rem64 x28_42 2).bind fun x86_59 =>
    if (x86_59 == 0) = true then
     k_58 ((-1), neg64 x81_55.lo)
    else
     k_58 (1, x81_55.hi)
   else
    k_44 ()) fun k_46 =>
  (model_index n x31_45.family (t0.model.families.length : Int)).bind fun x40_47 =>
  if (!x40_47) = true then
   some false
  else
   if (x31_45.kind == 0) = true then
    grd (((x31_45.first != 0) || (x31_45.size != 0)) || (model_judge_row n t0 x31_45.row).isSome) <|
    if (((x31_45.first != 0) || (x31_45.size != 0)) || (!((model_judge_row n t0 x31_45.row).getD default))) = true then
     some false
    else
     k_46 ()
   else
    grd ((x31_45.kind != 1) || (model_judge_graph n t0 x31_45).isSome) <|
    if ((x31_45.kind != 1) || (!((model_judge_graph n t0 x31_45).getD default))) = true then
     some false
    else
     k_46 ()
 else
  some true
noncomputable def model_judge_constraints (n : Nat) (t0 : Judge) : Option Bool :=
 if ((decide (512 < (t0.model.constraints.length : Int))) || (decide ((t0.model.constraints.length : Int) < mul64 2 (t0.strict.length : Int)))) = true then
  some false
 else
  loopF (model_judge_constraints.l1 n t0) n 0
noncomputable def model_judge_operations_1 (n : Nat) (t0 : Int) (t1 : Judge) : Option Bool :=
 some ((decide (t0 < (-1))) || (decide ((t1.model.sorts.length : Int) ≤ t0)))
noncomputable def model_judge_operations.l1 (n : Nat) (t0 : Judge) (rec_15 : ((List (List UInt8)) × Int) → Option Bool) (s : (List (List UInt8)) × Int) : Option Bool :=
 let b0_13 := s.1
 let x10_14 := s.2
 if (decide (x10_14 < (t0.model.operations.length : Int))) = true then
  (idx t0.model.operations x10_14).bind fun x12_16 =>
  (app 16 b0_13 [x12_16.name]).bind fun x18_17 =>
  grd ((decide (3 < (x12_16.sorts.length : Int))) || (slices_ContainsFunc_Lint_int n x12_16.sorts (fun q0 => model_judge_operations_1 n q0 t0)).isSome) <|
  if ((decide (3 < (x12_16.sorts.length : Int))) || ((slices_ContainsFunc_Lint_int n x12_16.sorts (fun q0 => model_judge_operations_1 n q0 t0)).getD default)) = true then
   some false
  else
   rec_15 (x18_17, add64 x10_14 1)
 else
  grd (!(decide ((b0_13.length : Int) ≤ 8)) || (model_distinct n b0_13).isSome) <|
  some ((decide ((b0_13.length : Int) ≤ 8)) && ((model_distinct n b0_13).getD default))
noncomputable def model_judge_operations (n : Nat) (t0 : Judge) : Option Bool :=
 loopF (model_judge_operations.l1 n t0) n (([] : List (List UInt8)), 0)
noncomputable def cmp_isNaN_int (n : Nat) (t0 : Int) : Option Bool :=
 some (t0 != t0)
noncomputable def cmp_Compare_int (n : Nat) (t0 : Int) (t1 : Int) : Option Int :=
 (cmp_isNaN_int n t0).bind fun x8_1 =>
 (cmp_isNaN_int n t1).bind fun x10_2 =>
 if x8_1 = true then
  if x10_2 = true then
   some 0
  else
   some (-1)
 else
  if x10_2 = true then
   some 1
  else
   if (decide (t0 < t1)) = true then
    some (-1)
   else
    if (decide (t1 < t0)) = true then
     some 1
    else
     some 0
noncomputable def slices_Compare_Lint_int.l1 (n : Nat) (t0 : List Int) (t1 : List Int) (rec_10 : Int → Option Int) (s : Int) : Option Int :=
 let x11_9 := s
 if (decide (x11_9 < (t0.length : Int))) = true then
  (idx t0 x11_9).bind fun x14_11 =>
  if (decide ((t1.length : Int) ≤ x11_9)) = true then
   some 1
  else
   (idx t1 x11_9).bind fun x22_12 =>
   (cmp_Compare_int n x14_11 x22_12).bind fun x26_13 =>
   if (x26_13 != 0) = true then
    some x26_13
   else
    rec_10 (add64 x11_9 1)
 else
  if (decide ((t0.length : Int) < (t1.length : Int))) = true then
   some (-1)
  else
   some 0
noncomputable def slices_Compare_Lint_int (n : Nat) (t0 : List Int) (t1 : List Int) : Option Int :=
 loopF (slices_Compare_Lint_int.l1 n t0 t1) n 0
noncomputable def cells_Tuple.l2 (n : Nat) (t0 : List Int) (x27_73 : Int) (x30_75 : Table) (rec_102 : ((List Int) × Int × Int) → Option (Int × (List Int) × Bool)) (s : (List Int) × Int × Int) : Option (Int × (List Int) × Bool) :=
 let b1_99 := s.1
 let x13_100 := s.2.1
 let x15_101 := s.2.2
 if (decide (0 ≤ x15_101)) = true then
  (idx x30_75.columns x15_101).bind fun x67_103 =>
  (idx t0 x67_103).bind fun x69_104 =>
  (rem64 x13_100 x69_104).bind fun x75_105 =>
  (quo64 x13_100 x69_104).bind fun x78_106 =>
  (idx b1_99 x15_101).bind fun x79_107 =>
  (sto b1_99 x15_101 x75_105).bind fun b1_108 =>
  rec_102 (b1_108, x78_106, sub64 x15_101 1)
 else
  some (x27_73, b1_99, true)
noncomputable def cells_Tuple.l1 (n : Nat) (t0 : List Int) (t1 : List Table) (t2 : Bool) (t3 : Int) (rec_74 : Int → Option (Int × (List Int) × Bool)) (s : Int) : Option (Int × (List Int) × Bool) :=
 let x27_73 := s
 if (decide (x27_73 < (t1.length : Int))) = true then
  (idx t1 x27_73).bind fun x30_75 =>
  (cells_isStrict n x30_75).bind fun x37_76 =>
  grd (((x37_76 != t2) || (decide (sub64 t3 x30_75.first < 0))) || (cells_width n t0 x30_75.columns).isSome) <|
  if (((x37_76 != t2) || (decide (sub64 t3 x30_75.first < 0))) || (decide (((cells_width n t0 x30_75.columns).getD default) ≤ sub64 t3 x30_75.first))) = true then
   rec_74 (add64 x27_73 1)
  else
   (mkl 8 (x30_75.columns.length : Int) (0 : Int)).bind fun x55_80 =>
   loopF (cells_Tuple.l2 n t0 x27_73 x30_75) n (x55_80, sub64 t3 x30_75.first, sub64 (x55_80.length : Int) 1)
 else
  some (0, [], false)
noncomputable def cells_Tuple (n : Nat) (t0 : List Int) (t1 : List Table) (t2 : Bool) (t3 : Int) : Option (Int × (List Int) × Bool) :=
 (cells_Valid n t0 t1).bind fun x19_1 =>
 if ((!x19_1) || (decide (t3 < 0))) = true then
  some (0, [], false)
 else
  loopF (cells_Tuple.l1 n t0 t1 t2 t3) n 0
noncomputable def model_judge_update (n : Nat) (t0 : Judge) (t1 : Update) : Option Bool :=
 (cells_Tuple n t0.model.sorts t0.model.tables false t1.cell).bind fun x18_1 =>
 if (!x18_1.2.2) = true then
  some false
 else
  (idx t0.model.tables x18_1.1).bind fun x28_2 =>
  jn (fun (v : Bool) =>
   let x51_3 := v
   if x51_3 = true then
    some (((t1.kind == 0) || (t1.kind == 1)) && (t1.value == 0))
   else
    some (((t1.kind == 2) && (decide (x28_2.range.lo ≤ t1.value))) && (decide (t1.value ≤ x28_2.range.hi)))) fun k_4 =>
  if (x28_2.kind == 2) = true then
   k_4 (x28_2.kind == 2)
  else
   k_4 (x28_2.kind == 3)
noncomputable def model_judge_effect_1 (n : Nat) (t0 : Row) (t1 : Judge) : Option Bool :=
 (model_judge_row n t1 t0).bind fun x6_1 =>
 some (!x6_1)
noncomputable def slices_IndexFunc_LRow_api_Row.l1 (n : Nat) (t0 : List Row) (t1 : Row → Option Bool) (rec_8 : Int → Option Int) (s : Int) : Option Int :=
 let x8_7 := s
 if (decide (x8_7 < (t0.length : Int))) = true then
  (idx t0 x8_7).bind fun x14_9 =>
  (t1 x14_9).bind fun x16_10 =>
  if x16_10 = true then
   some x8_7
  else
   rec_8 (add64 x8_7 1)
 else
  some (-1)
noncomputable def slices_IndexFunc_LRow_api_Row (n : Nat) (t0 : List Row) (t1 : Row → Option Bool) : Option Int :=
 loopF (slices_IndexFunc_LRow_api_Row.l1 n t0 t1) n 0
noncomputable def slices_ContainsFunc_LRow_api_Row (n : Nat) (t0 : List Row) (t1 : Row → Option Bool) : Option Bool :=
 (slices_IndexFunc_LRow_api_Row n t0 t1).bind fun x7_1 =>
 some (decide (0 ≤ x7_1))
noncomputable def model_judge_effect.l2 (n : Nat) (t0 : Judge) (t1 : Effect) (rec_35 : (Int × Int) → Option Bool) (s : Int × Int) : Option Bool :=
 let x5_33 := s.1
 let x46_34 := s.2
 if (decide (x46_34 < (t1.updates.length : Int))) = true then
  (idx t1.updates x46_34).bind fun x48_36 =>
  grd ((decide (x48_36.cell ≤ x5_33)) || (model_judge_update n t0 x48_36).isSome) <|
  if ((decide (x48_36.cell ≤ x5_33)) || (!((model_judge_update n t0 x48_36).getD default))) = true then
   some false
  else
   rec_35 (x48_36.cell, add64 x46_34 1)
 else
  grd (!((decide ((t1.hold.length : Int) ≤ 8)) && (decide ((t1.updates.length : Int) ≤ 32))) || (slices_ContainsFunc_LRow_api_Row n t1.hold (fun q0 => model_judge_effect_1 n q0 t0)).isSome) <|
  some (((decide ((t1.hold.length : Int) ≤ 8)) && (decide ((t1.updates.length : Int) ≤ 32))) && (!((slices_ContainsFunc_LRow_api_Row n t1.hold (fun q0 => model_judge_effect_1 n q0 t0)).getD default)))
noncomputable def model_judge_effect.l1 (n : Nat) (t0 : Judge) (t1 : Effect) (rec_17 : (Int × Int) → Option Bool) (s : Int × Int) : Option Bool :=
 let x5_15 := s.1
 let x13_16 := s.2
 if (decide (x13_16 < (t1.delta.length : Int))) = true then
  (idx t1.delta x13_16).bind fun x15_18 =>
  grd ((((decide (x15_18.cell ≤ x5_15)) || (decide ((t0.strict.length : Int) ≤ x15_18.cell))) || (x15_18.add == 0)) || (model_around n x15_18.add 1000000000).isSome) <|
  if ((((decide (x15_18.cell ≤ x5_15)) || (decide ((t0.strict.length : Int) ≤ x15_18.cell))) || (x15_18.add == 0)) || (!((model_around n x15_18.add 1000000000).getD default))) = true then
   some false
  else
   rec_17 (x15_18.cell, add64 x13_16 1)
 else
  loopF (model_judge_effect.l2 n t0 t1) n ((-1), 0)
noncomputable def model_judge_effect (n : Nat) (t0 : Judge) (t1 : Effect) : Option Bool :=
 loopF (model_judge_effect.l1 n t0 t1) n ((-1), 0)
noncomputable def model_judge_actions.l2 (n : Nat) (t0 : Judge) (x18_81 : Int) (rec_82 : Int → Option Bool) (x21_83 : Action) (x51_87 : Operation) (rec_107 : Int → Option Bool) (s : Int) : Option Bool :=
 let x55_106 := s
 if (decide (x55_106 < (x51_87.sorts.length : Int))) = true then
  (idx x51_87.sorts x55_106).bind fun x58_108 =>
  (idx x21_83.arguments x55_106).bind fun x63_109 =>
  grd (!(decide (x58_108 < 0)) || (model_around n x63_109 9999).isSome) <|
  grd (((decide (x58_108 < 0)) && (!((model_around n x63_109 9999).getD default))) || (!(decide (0 ≤ x58_108)) || (idx t0.model.sorts x58_108).isSome)) <|
  grd (((decide (x58_108 < 0)) && (!((model_around n x63_109 9999).getD default))) || (!(decide (0 ≤ x58_108)) || (model_index n x63_109 ((idx t0.model.sorts x58_108).getD default)).isSome)) <|
  if (((decide (x58_108 < 0)) && (!((model_around n x63_109 9999).getD default))) || ((decide (0 ≤ x58_108)) && (!((model_index n x63_109 ((idx t0.model.sorts x58_108).getD default)).getD default)))) = true then
   some false
  else
   rec_107 (add64 x55_106 1)
 else
  jn (fun (v : Unit) =>
   (model_judge_effect n t0 x21_83.effect).bind fun x120_121 =>
   if (!x120_121) = true then
    some false
   else
    rec_82 (add64 x18_81 1)) fun k_116 =>
  if (decide (0 < x18_81)) = true then
   (idx t0.model.actions (sub64 x18_81 1)).bind fun x95_117 =>
   grd ((decide (x21_83.operation < x95_117.operation)) || (!(x95_117.operation == x21_83.operation) || (slices_Compare_Lint_int n x95_117.arguments x21_83.arguments).isSome)) <|
   if ((decide (x21_83.operation < x95_117.operation)) || ((x95_117.operation == x21_83.operation) && (decide (0 ≤ ((slices_Compare_Lint_int n x95_117.arguments x21_83.arguments).getD default))))) = true then
    some false
   else
    k_116 ()
  else
   k_116 ()
noncomputable def model_judge_actions.l1 (n : Nat) (t0 : Judge) (rec_82 : Int → Option Bool) (s : Int) : Option Bool :=
 let x18_81 := s
 if (decide (x18_81 < (t0.model.actions.length : Int))) = true then
  (idx t0.model.actions x18_81).bind fun x21_83 =>
  (model_index n x21_83.operation (t0.model.operations.length : Int)).bind fun x29_84 =>
  grd ((!x29_84) || (idx t0.model.operations x21_83.operation).isSome) <|
  if ((!x29_84) || ((x21_83.arguments.length : Int) != ((((idx t0.model.operations x21_83.operation).getD default).sorts).length : Int))) = true then
   some false
  else
   (idx t0.model.operations x21_83.operation).bind fun x51_87 =>
   loopF (model_judge_actions.l2 n t0 x18_81 rec_82 x21_83 x51_87) n 0
 else
  some true
noncomputable def model_judge_actions (n : Nat) (t0 : Judge) : Option Bool :=
 if (decide (256 < (t0.model.actions.length : Int))) = true then
  some false
 else
  loopF (model_judge_actions.l1 n t0) n 0
noncomputable def model_judge_hidden_1 (n : Nat) (t0 : Hide) (t1 : Int) (t2 : GMap Int Bool) : Option Bool :=
 some ((t0.table == t1) && ((t2.get? t0.to).getD false))
noncomputable def slices_IndexFunc_LHide_api_Hide.l1 (n : Nat) (t0 : List Hide) (t1 : Hide → Option Bool) (rec_8 : Int → Option Int) (s : Int) : Option Int :=
 let x8_7 := s
 if (decide (x8_7 < (t0.length : Int))) = true then
  (idx t0 x8_7).bind fun x14_9 =>
  (t1 x14_9).bind fun x16_10 =>
  if x16_10 = true then
   some x8_7
  else
   rec_8 (add64 x8_7 1)
 else
  some (-1)
noncomputable def slices_IndexFunc_LHide_api_Hide (n : Nat) (t0 : List Hide) (t1 : Hide → Option Bool) : Option Int :=
 loopF (slices_IndexFunc_LHide_api_Hide.l1 n t0 t1) n 0
noncomputable def slices_ContainsFunc_LHide_api_Hide (n : Nat) (t0 : List Hide) (t1 : Hide → Option Bool) : Option Bool :=
 (slices_IndexFunc_LHide_api_Hide n t0 t1).bind fun x7_1 =>
 some (decide (0 ≤ x7_1))
noncomputable def model_judge_hidden.l4 (n : Nat) (t0 : Judge) (m0_139 : GMap Int Bool) (x117_140 : Int) (rec_141 : ((GMap Int Bool) × Int) → Option Bool) (rec_174 : ((GMap Int Bool) × (List Nat) × Nat) → Option Bool) (s : (GMap Int Bool) × (List Nat) × Nat) : Option Bool :=
 let m0_171 := s.1
 let m2_172 := s.2.1
 let m2_173 := s.2.2
 stepM m0_171 m2_172 m0_139.clock m2_173 (
  rec_141 (m0_171, add64 x117_140 1)) fun en_175 =>
 grd (decide (m0_171.es.map (·.1)).Nodup) <|
 (slices_ContainsFunc_LHide_api_Hide n t0.model.hides (fun q0 => model_judge_hidden_1 n q0 en_175.2.1 m0_171)).bind fun x129_180 =>
 if (!x129_180) = true then
  rec_174 ((m0_171.del en_175.2.1), m2_172 ++ [en_175.1], m0_171.clock)
 else
  rec_174 (m0_171, m2_172 ++ [en_175.1], m0_171.clock)
noncomputable def model_judge_hidden.l3 (n : Nat) (t0 : Judge) (rec_141 : ((GMap Int Bool) × Int) → Option Bool) (s : (GMap Int Bool) × Int) : Option Bool :=
 let m0_139 := s.1
 let x117_140 := s.2
 if (decide (x117_140 < (t0.model.hides.length : Int))) = true then
  loopF (model_judge_hidden.l4 n t0 m0_139 x117_140 rec_141) n (m0_139, ([] : List Nat), m0_139.clock)
 else
  some ((m0_139.es.length : Int) == 0)
noncomputable def model_judge_hidden.l2 (n : Nat) (t0 : Judge) (rec_55 : ((GMap Int Bool) × Int) → Option Bool) (s : (GMap Int Bool) × Int) : Option Bool :=
 let m0_53 := s.1
 let x105_54 := s.2
 if (decide (x105_54 < (t0.model.hides.length : Int))) = true then
  (idx t0.model.hides x105_54).bind fun x107_56 =>
  rec_55 ((m0_53.put x107_56.table true), add64 x105_54 1)
 else
  loopF (model_judge_hidden.l3 n t0) n (m0_53, 0)
noncomputable def model_judge_hidden.l1 (n : Nat) (t0 : Judge) (rec_32 : Int → Option Bool) (s : Int) : Option Bool :=
 let x20_31 := s
 if (decide (x20_31 < (t0.model.hides.length : Int))) = true then
  (idx t0.model.hides x20_31).bind fun x22_33 =>
  (model_index n x22_33.table (t0.model.tables.length : Int)).bind fun x30_34 =>
  grd ((!x30_34) || (model_index n x22_33.to (t0.model.tables.length : Int)).isSome) <|
  if (((!x30_34) || (!((model_index n x22_33.to (t0.model.tables.length : Int)).getD default))) || (x22_33.table == x22_33.to)) = true then
   some false
  else
   (idx t0.model.tables x22_33.table).bind fun x54_38 =>
   (idx t0.model.tables x22_33.to).bind fun x61_39 =>
   grd (((x54_38.kind != 0) || (x61_39.kind != 0)) || (model_index n x22_33.column (x54_38.columns.length : Int)).isSome) <|
   grd (((((x54_38.kind != 0) || (x61_39.kind != 0)) || (!((model_index n x22_33.column (x54_38.columns.length : Int)).getD default))) || ((x61_39.columns.length : Int) != 1)) || (idx x61_39.columns 0).isSome) <|
   grd (((((x54_38.kind != 0) || (x61_39.kind != 0)) || (!((model_index n x22_33.column (x54_38.columns.length : Int)).getD default))) || ((x61_39.columns.length : Int) != 1)) || (idx x54_38.columns x22_33.column).isSome) <|
   if (((((x54_38.kind != 0) || (x61_39.kind != 0)) || (!((model_index n x22_33.column (x54_38.columns.length : Int)).getD default))) || ((x61_39.columns.length : Int) != 1)) || (((idx x61_39.columns 0).getD default) != ((idx x54_38.columns x22_33.column).getD default))) = true then
    some false
   else
    rec_32 (add64 x20_31 1)
 else
  loopF (model_judge_hidden.l2 n t0) n ((GMap.empty : GMap Int Bool), 0)
noncomputable def model_judge_hidden (n : Nat) (t0 : Judge) : Option Bool :=
 if (decide (12 < (t0.model.hides.length : Int))) = true then
  some false
 else
  loopF (model_judge_hidden.l1 n t0) n 0
noncomputable def model_Valid (n : Nat) (t0 : Model) : Option Bool :=
 (cells_Valid n t0.sorts t0.tables).bind fun x8_1 =>
 grd (((!x8_1) || (decide (24 < (t0.families.length : Int)))) || (model_distinct n t0.families).isSome) <|
 if (((!x8_1) || (decide (24 < (t0.families.length : Int)))) || (!((model_distinct n t0.families).getD default))) = true then
  some false
 else
  (cells_Ranges n t0.sorts t0.tables true).bind fun x27_5 =>
  (model_judge_constraints n (⟨t0, x27_5⟩ : Judge)).bind fun x30_6 =>
  grd (!x30_6 || (model_judge_operations n (⟨t0, x27_5⟩ : Judge)).isSome) <|
  grd (!(x30_6 && ((model_judge_operations n (⟨t0, x27_5⟩ : Judge)).getD default)) || (model_judge_actions n (⟨t0, x27_5⟩ : Judge)).isSome) <|
  grd (!((x30_6 && ((model_judge_operations n (⟨t0, x27_5⟩ : Judge)).getD default)) && ((model_judge_actions n (⟨t0, x27_5⟩ : Judge)).getD default)) || (model_judge_hidden n (⟨t0, x27_5⟩ : Judge)).isSome) <|
  some (((x30_6 && ((model_judge_operations n (⟨t0, x27_5⟩ : Judge)).getD default)) && ((model_judge_actions n (⟨t0, x27_5⟩ : Judge)).getD default)) && ((model_judge_hidden n (⟨t0, x27_5⟩ : Judge)).getD default))
noncomputable def symmetry_open.l5 (n : Nat) (x25_454 : Int) (rec_455 : ((List Place) × (List Place) × Int) → Option ((Option Layout) × Bool)) (x28_456 : Table) (x7_585 : List (List Int)) (rec_671 : ((List Place) × (List Place) × Int) → Option ((Option Layout) × Bool)) (s : (List Place) × (List Place) × Int) : Option ((Option Layout) × Bool) :=
 let b1_668 := s.1
 let b2_669 := s.2.1
 let x66_670 := s.2.2
 if (decide (x66_670 < (x7_585.length : Int))) = true then
  jn (fun (v : (List Place) × (List Place)) =>
   let b1_672 := v.1
   let b2_673 := v.2
   rec_671 (b1_672, b2_673, add64 x66_670 1)) fun k_674 =>
  (idx x7_585 x66_670).bind fun x68_675 =>
  if (decide (x28_456.kind ≤ 1)) = true then
   (app 32 b1_668 [(⟨x25_454, x68_675⟩ : Place)]).bind fun x82_676 =>
   k_674 (x82_676, b2_669)
  else
   (app 32 b2_669 [(⟨x25_454, x68_675⟩ : Place)]).bind fun x94_677 =>
   k_674 (b1_668, x94_677)
 else
  rec_455 (b1_668, b2_669, add64 x25_454 1)
noncomputable def symmetry_open.l4 (n : Nat) (x40_630 : Int) (rec_631 : ((List (List Int)) × Int) → Option ((Option Layout) × Bool)) (x42_632 : List Int) (x47_633 : Int) (rec_646 : ((List (List Int)) × Int) → Option ((Option Layout) × Bool)) (s : (List (List Int)) × Int) : Option ((Option Layout) × Bool) :=
 let b4_644 := s.1
 let x49_645 := s.2
 if (decide (x49_645 < x47_633)) = true then
  (app 8 [] x42_632).bind fun x54_647 =>
  (app 8 x54_647 [x49_645]).bind fun x57_648 =>
  (app 24 b4_644 [x57_648]).bind fun x59_649 =>
  rec_646 (x59_649, add64 x49_645 1)
 else
  rec_631 (b4_644, add64 x40_630 1)
noncomputable def symmetry_open.l3 (n : Nat) (t0 : Model) (x7_585 : List (List Int)) (x34_586 : Int) (rec_587 : ((List (List Int)) × Int) → Option ((Option Layout) × Bool)) (x36_588 : Int) (rec_631 : ((List (List Int)) × Int) → Option ((Option Layout) × Bool)) (s : (List (List Int)) × Int) : Option ((Option Layout) × Bool) :=
 let b4_629 := s.1
 let x40_630 := s.2
 if (decide (x40_630 < (x7_585.length : Int))) = true then
  (idx x7_585 x40_630).bind fun x42_632 =>
  (idx t0.sorts x36_588).bind fun x47_633 =>
  loopF (symmetry_open.l4 n x40_630 rec_631 x42_632 x47_633) n (b4_629, 0)
 else
  rec_587 (b4_629, add64 x34_586 1)
noncomputable def symmetry_open.l2 (n : Nat) (t0 : Model) (b1_452 : List Place) (b2_453 : List Place) (x25_454 : Int) (rec_455 : ((List Place) × (List Place) × Int) → Option ((Option Layout) × Bool)) (x28_456 : Table) (rec_587 : ((List (List Int)) × Int) → Option ((Option Layout) × Bool)) (s : (List (List Int)) × Int) : Option ((Option Layout) × Bool) :=
 let x7_585 := s.1
 let x34_586 := s.2
 if (decide (x34_586 < (x28_456.columns.length : Int))) = true then
  (idx x28_456.columns x34_586).bind fun x36_588 =>
  loopF (symmetry_open.l3 n t0 x7_585 x34_586 rec_587 x36_588) n (([] : List (List Int)), 0)
 else
  loopF (symmetry_open.l5 n x25_454 rec_455 x28_456 x7_585) n (b1_452, b2_453, 0)
noncomputable def symmetry_open.l1 (n : Nat) (t0 : Model) (rec_455 : ((List Place) × (List Place) × Int) → Option ((Option Layout) × Bool)) (s : (List Place) × (List Place) × Int) : Option ((Option Layout) × Bool) :=
 let b1_452 := s.1
 let b2_453 := s.2.1
 let x25_454 := s.2.2
 if (decide (x25_454 < (t0.tables.length : Int))) = true then
  (idx t0.tables x25_454).bind fun x28_456 =>
  loopF (symmetry_open.l2 n t0 b1_452 b2_453 x25_454 rec_455 x28_456) n ([[]], 0)
 else
  some (some ((⟨t0, b1_452, b2_453⟩ : Layout)), true)
noncomputable def symmetry_open (n : Nat) (t0 : Model) : Option ((Option Layout) × Bool) :=
 (model_Valid n t0).bind fun x17_1 =>
 if (!x17_1) = true then
  some (none, false)
 else
  loopF (symmetry_open.l1 n t0) n (([] : List Place), ([] : List Place), 0)
noncomputable def symmetry_layout_valid (n : Nat) (t0 : Layout) (t1 : Question) : Option Bool :=
 if (((((decide (t1.e < 0)) || (decide (t1.f < 0))) || (decide ((t0.m.actions.length : Int) ≤ t1.e))) || (decide ((t0.m.actions.length : Int) ≤ t1.f))) || (decide (t1.target.index < 0))) = true then
  some false
 else
  if t1.target.hold = true then
   (idx t0.m.actions t1.e).bind fun x51_5 =>
   some (decide (t1.target.index < (x51_5.effect.hold.length : Int)))
  else
   some ((decide (t1.e ≤ t1.f)) && (decide (t1.target.index < (t0.m.constraints.length : Int))))
noncomputable def symmetry_Valid (n : Nat) (t0 : Model) (t1 : Question) : Option Bool :=
 (symmetry_open n t0).bind fun x9_1 =>
 grd (!x9_1.2 || (x9_1.1).isSome) <|
 grd (!x9_1.2 || (symmetry_layout_valid n ((x9_1.1).getD default) t1).isSome) <|
 some (x9_1.2 && ((symmetry_layout_valid n ((x9_1.1).getD default) t1).getD default))
noncomputable def model_ranges (n : Nat) (t0 : Model) (t1 : Bool) : Option (List Range) :=
 (model_Valid n t0).bind fun x6_1 =>
 if (!x6_1) = true then
  some []
 else
  (cells_Ranges n t0.sorts t0.tables t1).bind fun x13_2 =>
  some x13_2
noncomputable def model_Strict (n : Nat) (t0 : Model) : Option (List Range) :=
 (model_ranges n t0 true).bind fun x4_1 =>
 some x4_1
noncomputable def condition_added.l1 (n : Nat) (t0 : Action) (t1 : Int) (rec_6 : Int → Option Int) (s : Int) : Option Int :=
 let x11_5 := s
 if (decide (x11_5 < (t0.effect.delta.length : Int))) = true then
  (idx t0.effect.delta x11_5).bind fun x13_7 =>
  if (x13_7.cell == t1) = true then
   some x13_7.add
  else
   rec_6 (add64 x11_5 1)
 else
  some 0
noncomputable def condition_added (n : Nat) (t0 : Action) (t1 : Int) : Option Int :=
 loopF (condition_added.l1 n t0 t1) n 0
noncomputable def condition_change.l1 (n : Nat) (t0 : Action) (t1 : Row) (rec_11 : (Int × Int) → Option Int) (s : Int × Int) : Option Int :=
 let x5_9 := s.1
 let x11_10 := s.2
 if (decide (x11_10 < (t1.terms.length : Int))) = true then
  (idx t1.terms x11_10).bind fun x13_12 =>
  (condition_added n t0 x13_12.cell).bind fun x21_13 =>
  rec_11 (add64 x5_9 (mul64 x13_12.factor x21_13), add64 x11_10 1)
 else
  some x5_9
noncomputable def condition_change (n : Nat) (t0 : Action) (t1 : Row) : Option Int :=
 loopF (condition_change.l1 n t0 t1) n (0, 0)
noncomputable def slices_Index_Lint_int.l1 (n : Nat) (t0 : List Int) (t1 : Int) (rec_6 : Int → Option Int) (s : Int) : Option Int :=
 let x8_5 := s
 if (decide (x8_5 < (t0.length : Int))) = true then
  (idx t0 x8_5).bind fun x14_7 =>
  if (t1 == x14_7) = true then
   some x8_5
  else
   rec_6 (add64 x8_5 1)
 else
  some (-1)
noncomputable def slices_Index_Lint_int (n : Nat) (t0 : List Int) (t1 : Int) : Option Int :=
 loopF (slices_Index_Lint_int.l1 n t0 t1) n 0
noncomputable def slices_Contains_Lint_int (n : Nat) (t0 : List Int) (t1 : Int) : Option Bool :=
 (slices_Index_Lint_int n t0 t1).bind fun x7_1 =>
 some (decide (0 ≤ x7_1))
noncomputable def condition_less_1 (n : Nat) (t0 : Int) (t1 : Int) : Option Int :=
 some (sub64 t0 t1)
noncomputable def condition_changed.l1 (n : Nat) (t0 : Row) (t1 : Int → Option Int) (x13_1 : Int) (rec_14 : ((List Term) × Int) → Option Row) (s : (List Term) × Int) : Option Row :=
 let b3_12 := s.1
 let x18_13 := s.2
 if (decide (x18_13 < (t0.terms.length : Int))) = true then
  (idx t0.terms x18_13).bind fun x20_15 =>
  (t1 x20_15.factor).bind fun x29_16 =>
  (app 16 b3_12 [(⟨x20_15.cell, x29_16⟩ : Term)]).bind fun x32_17 =>
  rec_14 (x32_17, add64 x18_13 1)
 else
  some (⟨b3_12, x13_1⟩ : Row)
noncomputable def condition_changed (n : Nat) (t0 : Row) (t1 : Int → Option Int) (t2 : Int → Option Int) : Option Row :=
 (t2 t0.bound).bind fun x13_1 =>
 loopF (condition_changed.l1 n t0 t1 x13_1) n (([] : List Term), 0)
noncomputable def condition_same (n : Nat) (t0 : Int) : Option Int :=
 some t0
noncomputable def condition_System_1_1 (n : Nat) (t0 : Int) (t1 : Int) : Option Int :=
 some (sub64 (add64 (neg64 t0) t1) 1)
noncomputable def condition_negated (n : Nat) (t0 : Int) : Option Int :=
 some (neg64 t0)
noncomputable def condition_graph.l1 (n : Nat) (t0 : Constraint) (t1 : Int → Option Int) (rec_11 : ((List Int) × Int) → Option Graph) (s : (List Int) × Int) : Option Graph :=
 let b3_9 := s.1
 let x17_10 := s.2
 if (decide (x17_10 < mul64 t0.size t0.size)) = true then
  (t1 (add64 t0.first x17_10)).bind fun x27_12 =>
  (app 8 b3_9 [sub64 1 x27_12]).bind fun x30_13 =>
  rec_11 (x30_13, add64 x17_10 1)
 else
  some (⟨t0.first, t0.size, b3_9⟩ : Graph)
noncomputable def condition_graph (n : Nat) (t0 : Constraint) (t1 : Int → Option Int) : Option Graph :=
 loopF (condition_graph.l1 n t0 t1) n (([] : List Int), 0)
noncomputable def condition_System_2 (n : Nat) (t0 : Int) : Option Int :=
 some 0
noncomputable def condition_raised.l1 (n : Nat) (t0 : Action) (t1 : Constraint) (rec_15 : ((List Int) × Int) → Option (List Int)) (s : (List Int) × Int) : Option (List Int) :=
 let b0_13 := s.1
 let x12_14 := s.2
 if (decide (x12_14 < mul64 t1.size t1.size)) = true then
  jn (fun (v : (List Int)) =>
   let b0_16 := v
   rec_15 (b0_16, add64 x12_14 1)) fun k_17 =>
  (condition_added n t0 (add64 t1.first x12_14)).bind fun x20_18 =>
  if (decide (0 < x20_18)) = true then
   (app 8 b0_13 [x12_14]).bind fun x25_19 =>
   k_17 x25_19
  else
   k_17 b0_13
 else
  some b0_13
noncomputable def condition_raised (n : Nat) (t0 : Action) (t1 : Constraint) : Option (List Int) :=
 loopF (condition_raised.l1 n t0 t1) n (([] : List Int), 0)
noncomputable def condition_System_3 (n : Nat) (t0 : Int) (t1 : Action) : Option Int :=
 (condition_added n t1 t0).bind fun x6_1 =>
 some x6_1
noncomputable def condition_System_4 (n : Nat) (t0 : Int) (t1 : Action) : Option Int :=
 (condition_added n t1 t0).bind fun x6_1 =>
 some x6_1
noncomputable def interval_box.l1 (n : Nat) (t0 : List Range) (rec_12 : Int → Option Bool) (s : Int) : Option Bool :=
 let x7_11 := s
 if (decide (x7_11 < (t0.length : Int))) = true then
  (idx t0 x7_11).bind fun x9_13 =>
  if ((((decide (x9_13.lo < (-1000000))) || (decide (1000000 < x9_13.lo))) || (decide (x9_13.hi < (-1000000)))) || (decide (1000000 < x9_13.hi))) = true then
   some false
  else
   rec_12 (add64 x7_11 1)
 else
  some (decide ((t0.length : Int) ≤ 128))
noncomputable def interval_box (n : Nat) (t0 : List Range) : Option Bool :=
 loopF (interval_box.l1 n t0) n 0
noncomputable def interval_fits.l1 (n : Nat) (t0 : Int) (t1 : Row) (rec_17 : (Int × Int) → Option Bool) (s : Int × Int) : Option Bool :=
 let x5_15 := s.1
 let x11_16 := s.2
 if (decide (x11_16 < (t1.terms.length : Int))) = true then
  (idx t1.terms x11_16).bind fun x13_18 =>
  if (((((decide (x13_18.cell ≤ x5_15)) || (decide (t0 ≤ x13_18.cell))) || (x13_18.factor == 0)) || (decide (x13_18.factor < (-1000)))) || (decide (1000 < x13_18.factor))) = true then
   some false
  else
   rec_17 (x13_18.cell, add64 x11_16 1)
 else
  some ((decide ((-1000000000) ≤ t1.bound)) && (decide (t1.bound ≤ 1000000000)))
noncomputable def interval_fits (n : Nat) (t0 : Int) (t1 : Row) : Option Bool :=
 loopF (interval_fits.l1 n t0 t1) n ((-1), 0)
noncomputable def interval_Valid_1 (n : Nat) (t0 : Row) (t1 : List Range) : Option Bool :=
 (interval_fits n (t1.length : Int) t0).bind fun x7_1 =>
 some (!x7_1)
noncomputable def interval_Valid (n : Nat) (t0 : List Range) (t1 : List Row) : Option Bool :=
 (interval_box n t0).bind fun x6_1 =>
 grd (!x6_1 || (slices_ContainsFunc_LRow_api_Row n t1 (fun q0 => interval_Valid_1 n q0 t0)).isSome) <|
 some (x6_1 && (!((slices_ContainsFunc_LRow_api_Row n t1 (fun q0 => interval_Valid_1 n q0 t0)).getD default)))
noncomputable def slices_IndexFunc_LRange_api_Range.l1 (n : Nat) (t0 : List Range) (t1 : Range → Option Bool) (rec_8 : Int → Option Int) (s : Int) : Option Int :=
 let x8_7 := s
 if (decide (x8_7 < (t0.length : Int))) = true then
  (idx t0 x8_7).bind fun x14_9 =>
  (t1 x14_9).bind fun x16_10 =>
  if x16_10 = true then
   some x8_7
  else
   rec_8 (add64 x8_7 1)
 else
  some (-1)
noncomputable def slices_IndexFunc_LRange_api_Range (n : Nat) (t0 : List Range) (t1 : Range → Option Bool) : Option Int :=
 loopF (slices_IndexFunc_LRange_api_Range.l1 n t0 t1) n 0
noncomputable def slices_ContainsFunc_LRange_api_Range (n : Nat) (t0 : List Range) (t1 : Range → Option Bool) : Option Bool :=
 (slices_IndexFunc_LRange_api_Range n t0 t1).bind fun x7_1 =>
 some (decide (0 ≤ x7_1))
noncomputable def interval_empty (n : Nat) (t0 : Range) : Option Bool :=
 some (decide (t0.hi < t0.lo))
noncomputable def interval_Empty (n : Nat) (t0 : List Range) : Option Bool :=
 (slices_ContainsFunc_LRange_api_Range n t0 (fun q0 => interval_empty n q0)).bind fun x4_1 =>
 some x4_1
noncomputable def system_rows (n : Nat) (t0 : System) (t1 : List Row) (t2 : Int) : Option Bool :=
 grd (!(decide ((t1.length : Int) ≤ t2)) || (interval_Valid n t0.box t1).isSome) <|
 some ((decide ((t1.length : Int) ≤ t2)) && ((interval_Valid n t0.box t1).getD default))
noncomputable def system_graph_1 (n : Nat) (t0 : Int) : Option Bool :=
 some ((decide (t0 < (-4000000))) || (decide (4000000 < t0)))
noncomputable def system_graph (n : Nat) (t0 : Int) (t1 : Graph) : Option Bool :=
 if (((((decide (t1.size < 1)) || (decide (6 < t1.size))) || (decide (t1.first < 0))) || (decide (sub64 t0 (mul64 t1.size t1.size) < t1.first))) || ((t1.least.length : Int) != (mul64 t1.size t1.size))) = true then
  some false
 else
  (slices_ContainsFunc_Lint_int n t1.least (fun q0 => system_graph_1 n q0)).bind fun x43_5 =>
  some (!x43_5)
noncomputable def system_Valid_1 (n : Nat) (t0 : List Row) (t1 : System) : Option Bool :=
 (system_rows n t1 t0 64).bind fun x6_1 =>
 some (!x6_1)
noncomputable def slices_IndexFunc_LLRow_LRow.l1 (n : Nat) (t0 : List (List Row)) (t1 : (List Row) → Option Bool) (rec_8 : Int → Option Int) (s : Int) : Option Int :=
 let x8_7 := s
 if (decide (x8_7 < (t0.length : Int))) = true then
  (idx t0 x8_7).bind fun x14_9 =>
  (t1 x14_9).bind fun x16_10 =>
  if x16_10 = true then
   some x8_7
  else
   rec_8 (add64 x8_7 1)
 else
  some (-1)
noncomputable def slices_IndexFunc_LLRow_LRow (n : Nat) (t0 : List (List Row)) (t1 : (List Row) → Option Bool) : Option Int :=
 loopF (slices_IndexFunc_LLRow_LRow.l1 n t0 t1) n 0
noncomputable def slices_ContainsFunc_LLRow_LRow (n : Nat) (t0 : List (List Row)) (t1 : (List Row) → Option Bool) : Option Bool :=
 (slices_IndexFunc_LLRow_LRow n t0 t1).bind fun x7_1 =>
 some (decide (0 ≤ x7_1))
noncomputable def system_Valid.l1 (n : Nat) (t0 : System) (rec_15 : Int → Option Bool) (s : Int) : Option Bool :=
 let x36_14 := s
 if (decide (x36_14 < (t0.graphs.length : Int))) = true then
  (idx t0.graphs x36_14).bind fun x38_16 =>
  (system_graph n (t0.box.length : Int) x38_16).bind fun x44_17 =>
  if (!x44_17) = true then
   some false
  else
   rec_15 (add64 x36_14 1)
 else
  (slices_ContainsFunc_LLRow_LRow n t0.cases (fun q0 => system_Valid_1 n q0 t0)).bind fun x50_18 =>
  some (!x50_18)
noncomputable def system_Valid (n : Nat) (t0 : System) : Option Bool :=
 (interval_Valid n t0.box ([] : List Row)).bind fun x7_1 =>
 grd ((!x7_1) || (interval_Empty n t0.box).isSome) <|
 grd (((!x7_1) || ((interval_Empty n t0.box).getD default)) || (system_rows n t0 t0.rows 1024).isSome) <|
 if (((((!x7_1) || ((interval_Empty n t0.box).getD default)) || (!((system_rows n t0 t0.rows 1024).getD default))) || (decide (64 < (t0.graphs.length : Int)))) || (decide (1024 < (t0.cases.length : Int)))) = true then
  some false
 else
  loopF (system_Valid.l1 n t0) n 0
noncomputable def condition_System.l4 (n : Nat) (t0 : Model) (t1 : Question) (x61_18 : Action) (x67_19 : Action) (x70_20 : List Range) (b6_84 : List Row) (c9_0_85 : Int) (rec_135 : ((List Graph) × Int) → Option (System × Int)) (s : (List Graph) × Int) : Option (System × Int) :=
 let b7_133 := s.1
 let x198_134 := s.2
 if (decide (x198_134 < (t0.constraints.length : Int))) = true then
  jn (fun (v : (List Graph)) =>
   let b7_136 := v
   rec_135 (b7_136, add64 x198_134 1)) fun k_137 =>
  (idx t0.constraints x198_134).bind fun x200_138 =>
  if (x200_138.kind != 1) = true then
   k_137 b7_133
  else
   (condition_graph n x200_138 (fun q0 => condition_System_2 n q0)).bind fun x208_139 =>
   (app 40 b7_133 [x208_139]).bind fun x210_140 =>
   jn (fun (v : (List Graph)) =>
    let b7_141 := v
    grd (!(t1.e != t1.f) || (condition_raised n x67_19 x200_138).isSome) <|
    if ((t1.e != t1.f) && (decide (0 < (((condition_raised n x67_19 x200_138).getD default).length : Int)))) = true then
     (condition_graph n x200_138 (fun q0 => condition_System_4 n q0 x67_19)).bind fun x241_148 =>
     (app 40 b7_141 [x241_148]).bind fun x243_149 =>
     k_137 x243_149
    else
     k_137 b7_141) fun k_142 =>
   (condition_raised n x61_18 x200_138).bind fun x214_143 =>
   if (decide (0 < (x214_143.length : Int))) = true then
    (condition_graph n x200_138 (fun q0 => condition_System_3 n q0 x61_18)).bind fun x221_144 =>
    (app 40 x210_140 [x221_144]).bind fun x223_145 =>
    k_142 x223_145
   else
    k_142 x210_140
 else
  if (c9_0_85 == 1) = true then
   none
  else
   (system_Valid n (⟨x70_20, b6_84, b7_133, []⟩ : System)).bind fun x267_150 =>
   if (!x267_150) = true then
    some ((⟨[], [], [], []⟩ : System), 8)
   else
    some ((⟨x70_20, b6_84, b7_133, []⟩ : System), 0)
noncomputable def condition_System.l3 (n : Nat) (t0 : Model) (t1 : Question) (x61_18 : Action) (x67_19 : Action) (x70_20 : List Range) (b8_65 : List Row) (rec_80 : ((List Row) × Int) → Option (System × Int)) (s : (List Row) × Int) : Option (System × Int) :=
 let b6_78 := s.1
 let x141_79 := s.2
 if (decide (x141_79 < (b8_65.length : Int))) = true then
  (idx b8_65 x141_79).bind fun x143_81 =>
  (condition_changed n x143_81 (fun q0 => condition_same n q0) (fun q0 => condition_same n q0)).bind fun x148_82 =>
  (app 32 b6_78 [x148_82]).bind fun x150_83 =>
  rec_80 (x150_83, add64 x141_79 1)
 else
  jn (fun (v : (List Row) × Int × Int × (List Term) × Int × Int × Int) =>
   let b6_84 := v.1
   let c9_0_85 := v.2.1
   let c9_1_86 := v.2.2.1
   let c9_2_87 := v.2.2.2.1
   let c9_3_88 := v.2.2.2.2.1
   let c9_4_89 := v.2.2.2.2.2.1
   let c9_5_90 := v.2.2.2.2.2.2
   loopF (condition_System.l4 n t0 t1 x61_18 x67_19 x70_20 b6_84 c9_0_85) n (([] : List Graph), 0)) fun k_91 =>
  if t1.target.hold = true then
   (idx x61_18.effect.hold t1.target.index).bind fun x164_92 =>
   (condition_change n x67_19 x164_92).bind fun x170_93 =>
   (condition_changed n x164_92 (fun q0 => condition_negated n q0) (fun q0 => condition_System_1_1 n q0 x170_93)).bind fun x9_94 =>
   (app 32 b6_78 [x9_94]).bind fun x11_95 =>
   k_91 (x11_95, 0, 0, [], 0, 0, 0)
  else
   (idx t0.constraints t1.target.index).bind fun x177_96 =>
   if (x177_96.kind == 0) = true then
    (condition_change n x61_18 x177_96.row).bind fun x188_97 =>
    (condition_change n x67_19 x177_96.row).bind fun x192_98 =>
    (condition_changed n x177_96.row (fun q0 => condition_negated n q0) (fun q0 => condition_System_1_1 n q0 (add64 x188_97 x192_98))).bind fun x9_99 =>
    (app 32 b6_78 [x9_99]).bind fun x11_100 =>
    k_91 (x11_100, x177_96.kind, x177_96.family, x177_96.row.terms, x177_96.row.bound, x177_96.first, x177_96.size)
   else
    k_91 (b6_78, x177_96.kind, x177_96.family, x177_96.row.terms, x177_96.row.bound, x177_96.first, x177_96.size)
noncomputable def condition_System.l2 (n : Nat) (t0 : Model) (t1 : Question) (t2 : List Int) (x61_18 : Action) (x67_19 : Action) (x70_20 : List Range) (rec_51 : ((List Row) × Int) → Option (System × Int)) (s : (List Row) × Int) : Option (System × Int) :=
 let b6_49 := s.1
 let x75_50 := s.2
 if (decide (x75_50 < (t0.constraints.length : Int))) = true then
  jn (fun (v : (List Row)) =>
   let b6_52 := v
   rec_51 (b6_52, add64 x75_50 1)) fun k_53 =>
  (idx t0.constraints x75_50).bind fun x78_54 =>
  if (x78_54.kind != 0) = true then
   k_53 b6_49
  else
   (condition_change n x61_18 x78_54.row).bind fun x86_55 =>
   (condition_change n x67_19 x78_54.row).bind fun x90_56 =>
   jn (fun (v : Int) =>
    let x17_57 := v
    (condition_changed n x78_54.row (fun q0 => condition_same n q0) (fun q0 => condition_less_1 n q0 x17_57)).bind fun x120_62 =>
    (app 32 b6_49 [x120_62]).bind fun x122_63 =>
    k_53 x122_63) fun k_58 =>
   (slices_Contains_Lint_int n t2 x75_50).bind fun x96_59 =>
   if (x96_59 && (t1.target.hold || (t1.target.index != x75_50))) = true then
    k_58 (gmax (gmax (gmax 0 x86_55) x90_56) (add64 x86_55 x90_56))
   else
    k_58 (gmax (gmax 0 x86_55) x90_56)
 else
  (app 32 [] x61_18.effect.hold).bind fun x128_64 =>
  jn (fun (v : (List Row)) =>
   let b8_65 := v
   loopF (condition_System.l3 n t0 t1 x61_18 x67_19 x70_20 b8_65) n (b6_49, 0)) fun k_66 =>
  if (t1.e != t1.f) = true then
   (app 32 x128_64 x67_19.effect.hold).bind fun x138_67 =>
   k_66 x138_67
  else
   k_66 x128_64
noncomputable def condition_System.l1 (n : Nat) (t0 : Model) (t1 : Question) (t2 : List Int) (rec_13 : Int → Option (System × Int)) (s : Int) : Option (System × Int) :=
 let x33_12 := s
 if (decide (x33_12 < (t2.length : Int))) = true then
  (idx t2 x33_12).bind fun x35_14 =>
  grd (((decide (x35_14 < 0)) || (decide ((t0.constraints.length : Int) ≤ x35_14))) || (idx t0.constraints x35_14).isSome) <|
  if (((decide (x35_14 < 0)) || (decide ((t0.constraints.length : Int) ≤ x35_14))) || ((((idx t0.constraints x35_14).getD default).kind) != 0)) = true then
   some ((⟨[], [], [], []⟩ : System), 2)
  else
   rec_13 (add64 x33_12 1)
 else
  (idx t0.actions t1.e).bind fun x61_18 =>
  (idx t0.actions t1.f).bind fun x67_19 =>
  (model_Strict n t0).bind fun x70_20 =>
  loopF (condition_System.l2 n t0 t1 t2 x61_18 x67_19 x70_20) n (([] : List Row), 0)
noncomputable def condition_System (n : Nat) (t0 : Model) (t1 : Question) (t2 : List Int) : Option (System × Int) :=
 (symmetry_Valid n t0 t1).bind fun x28_1 =>
 if (!x28_1) = true then
  some ((⟨[], [], [], []⟩ : System), 1)
 else
  loopF (condition_System.l1 n t0 t1 t2) n 0
noncomputable def condition_open (n : Nat) (t0 : Model) (t1 : Question) : Option Bool :=
 (idx t0.actions t1.e).bind fun x12_1 =>
 (idx t0.actions t1.f).bind fun x18_2 =>
 if t1.target.hold = true then
  (idx x12_1.effect.hold t1.target.index).bind fun x30_3 =>
  (condition_change n x18_2 x30_3).bind fun x32_4 =>
  some (decide (0 < x32_4))
 else
  (idx t0.constraints t1.target.index).bind fun x39_5 =>
  if (x39_5.kind == 0) = true then
   (condition_change n x12_1 x39_5.row).bind fun x47_6 =>
   grd (!(decide (0 < x47_6)) || (condition_change n x18_2 x39_5.row).isSome) <|
   some ((decide (0 < x47_6)) && (decide (0 < ((condition_change n x18_2 x39_5.row).getD default))))
  else
   (condition_raised n x12_1 x39_5).bind fun x58_9 =>
   grd (!(decide (0 < (x58_9.length : Int))) || (condition_raised n x18_2 x39_5).isSome) <|
   some ((decide (0 < (x58_9.length : Int))) && (decide (0 < (((condition_raised n x18_2 x39_5).getD default).length : Int))))
noncomputable def condition_Questions_1 (n : Nat) (t0 : Question) (t1 : Model) : Option Bool :=
 (condition_open n t1 t0).bind fun x6_1 =>
 some (!x6_1)
noncomputable def slices_IndexFunc_LQuestion_api_Question.l1 (n : Nat) (t0 : List Question) (t1 : Question → Option Bool) (rec_8 : Int → Option Int) (s : Int) : Option Int :=
 let x8_7 := s
 if (decide (x8_7 < (t0.length : Int))) = true then
  (idx t0 x8_7).bind fun x14_9 =>
  (t1 x14_9).bind fun x16_10 =>
  if x16_10 = true then
   some x8_7
  else
   rec_8 (add64 x8_7 1)
 else
  some (-1)
noncomputable def slices_IndexFunc_LQuestion_api_Question (n : Nat) (t0 : List Question) (t1 : Question → Option Bool) : Option Int :=
 loopF (slices_IndexFunc_LQuestion_api_Question.l1 n t0 t1) n 0
noncomputable def condition_Questions.l5 (n : Nat) (t0 : Model) (b0_1307 : List Question) (k_1311 : ((List Question)) → Option (List Question)) (rec_1447 : ((List Question) × Int × Int) → Option (List Question)) (s : (List Question) × Int × Int) : Option (List Question) :=
 let b1_1444 := s.1
 let x5_1445 := s.2.1
 let x6_1446 := s.2.2
 if (decide (x6_1446 < (b1_1444.length : Int))) = true then
  jn (fun (v : (List Question) × Int) =>
   let b1_1455 := v.1
   let x5_1456 := v.2
   rec_1447 (b1_1455, x5_1456, add64 x6_1446 1)) fun k_1457 =>
  (idx b1_1444 x6_1446).bind fun x24_1459 =>
  (condition_Questions_1 n x24_1459 t0).bind fun x28_1461 =>
  if (!x28_1461) = true then
   (idx b1_1444 x5_1445).bind fun x33_1463 =>
   (sto b1_1444 x5_1445 x24_1459).bind fun b1_1464 =>
   k_1457 (b1_1464, add64 x5_1445 1)
  else
   k_1457 (b1_1444, x5_1445)
 else
  (cut b1_1444 x5_1445 (b1_1444.length : Int)).bind fun x38_1466 =>
  (cut (copyTo b1_1444 x5_1445.toNat b1_1444.length (List.replicate (b1_1444.length - x5_1445.toNat) (⟨0, 0, ⟨false, 0⟩⟩ : Question))) 0 x5_1445).bind fun x41_1468 =>
  (app 32 b0_1307 (((copyTo b1_1444 x5_1445.toNat b1_1444.length (List.replicate (b1_1444.length - x5_1445.toNat) (⟨0, 0, ⟨false, 0⟩⟩ : Question))).drop 0).take (x5_1445.toNat - 0))).bind fun x66_1469 =>
  k_1311 x66_1469
noncomputable def condition_Questions.l4 (n : Nat) (t0 : Model) (x15_981 : Int) (b0_1307 : List Question) (x21_1308 : Int) (k_1311 : ((List Question)) → Option (List Question)) (x45_1328 : Action) (rec_1337 : ((List Question) × Int) → Option (List Question)) (s : (List Question) × Int) : Option (List Question) :=
 let b1_1335 := s.1
 let x50_1336 := s.2
 if (decide (x50_1336 < (x45_1328.effect.hold.length : Int))) = true then
  (app 32 b1_1335 [(⟨x15_981, x21_1308, (⟨true, x50_1336⟩ : Target)⟩ : Question)]).bind fun x60_1338 =>
  rec_1337 (x60_1338, add64 x50_1336 1)
 else
  (slices_IndexFunc_LQuestion_api_Question n b1_1335 (fun q0 => condition_Questions_1 n q0 t0)).bind fun x10_1340 =>
  if (x10_1340 == (-1)) = true then
   (app 32 b0_1307 b1_1335).bind fun x66_1342 =>
   k_1311 x66_1342
  else
   loopF (condition_Questions.l5 n t0 b0_1307 k_1311) n (b1_1335, x10_1340, add64 x10_1340 1)
noncomputable def condition_Questions.l3 (n : Nat) (t0 : Model) (x15_981 : Int) (b0_1307 : List Question) (x21_1308 : Int) (k_1311 : ((List Question)) → Option (List Question)) (rec_1324 : ((List Question) × Int) → Option (List Question)) (s : (List Question) × Int) : Option (List Question) :=
 let b1_1322 := s.1
 let x27_1323 := s.2
 if (decide (x27_1323 < (t0.constraints.length : Int))) = true then
  jn (fun (v : (List Question)) =>
   let b1_1325 := v
   rec_1324 (b1_1325, add64 x27_1323 1)) fun k_1326 =>
  if (decide (x15_981 ≤ x21_1308)) = true then
   (app 32 b1_1322 [(⟨x15_981, x21_1308, (⟨false, x27_1323⟩ : Target)⟩ : Question)]).bind fun x40_1327 =>
   k_1326 x40_1327
  else
   k_1326 b1_1322
 else
  (idx t0.actions x15_981).bind fun x45_1328 =>
  loopF (condition_Questions.l4 n t0 x15_981 b0_1307 x21_1308 k_1311 x45_1328) n (b1_1322, 0)
noncomputable def condition_Questions.l2 (n : Nat) (t0 : Model) (x15_981 : Int) (rec_982 : ((List Question) × Int) → Option (List Question)) (rec_1309 : ((List Question) × Int) → Option (List Question)) (s : (List Question) × Int) : Option (List Question) :=
 let b0_1307 := s.1
 let x21_1308 := s.2
 if (decide (x21_1308 < (t0.actions.length : Int))) = true then
  jn (fun (v : (List Question)) =>
   let b0_1310 := v
   rec_1309 (b0_1310, add64 x21_1308 1)) fun k_1311 =>
  loopF (condition_Questions.l3 n t0 x15_981 b0_1307 x21_1308 k_1311) n (([] : List Question), 0)
 else
  rec_982 (b0_1307, add64 x15_981 1)
noncomputable def condition_Questions.l1 (n : Nat) (t0 : Model) (rec_982 : ((List Question) × Int) → Option (List Question)) (s : (List Question) × Int) : Option (List Question) :=
 let b0_980 := s.1
 let x15_981 := s.2
 if (decide (x15_981 < (t0.actions.length : Int))) = true then
  loopF (condition_Questions.l2 n t0 x15_981 rec_982) n (b0_980, 0)
 else
  some b0_980
noncomputable def condition_Questions (n : Nat) (t0 : Model) : Option (List Question) :=
 (model_Valid n t0).bind fun x10_1 =>
 if (!x10_1) = true then
  some []
 else
  loopF (condition_Questions.l1 n t0) n (([] : List Question), 0)
noncomputable def condition_Open (n : Nat) (t0 : Model) (t1 : Question) : Option Bool :=
 (symmetry_Valid n t0 t1).bind fun x7_1 =>
 grd (!x7_1 || (condition_open n t0 t1).isSome) <|
 some (x7_1 && ((condition_open n t0 t1).getD default))
noncomputable def condition_Change (n : Nat) (t0 : Model) (t1 : Int) (t2 : Row) : Option Int :=
 (model_Valid n t0).bind fun x8_1 =>
 if (((!x8_1) || (decide (t1 < 0))) || (decide ((t0.actions.length : Int) ≤ t1))) = true then
  some 0
 else
  (idx t0.actions t1).bind fun x24_4 =>
  (condition_change n x24_4 t2).bind fun x27_5 =>
  some x27_5
noncomputable def slices_Equal_LQuestion_api_Question.l1 (n : Nat) (t0 : List Question) (t1 : List Question) (rec_8 : Int → Option Bool) (s : Int) : Option Bool :=
 let x13_7 := s
 if (decide (x13_7 < (t0.length : Int))) = true then
  (idx t0 x13_7).bind fun x18_9 =>
  (idx t1 x13_7).bind fun x22_10 =>
  if (!decide ((x18_9 : Question) = x22_10)) = true then
   some false
  else
   rec_8 (add64 x13_7 1)
 else
  some true
noncomputable def slices_Equal_LQuestion_api_Question (n : Nat) (t0 : List Question) (t1 : List Question) : Option Bool :=
 if ((t0.length : Int) != (t1.length : Int)) = true then
  some false
 else
  loopF (slices_Equal_LQuestion_api_Question.l1 n t0 t1) n 0
noncomputable def law22_awake (n : Nat) : Option Bool :=
 (law22_example n ).bind fun x6_1 =>
 (condition_System n x6_1 (⟨0, 0, (⟨false, 1⟩ : Target)⟩ : Question) ([] : List Int)).bind fun x12_2 =>
 (condition_Questions n x6_1).bind fun x16_3 =>
 grd (!((x12_2.2 == 0) && ((x12_2.1.rows.length : Int) == 3)) || (idx x12_2.1.rows 1).isSome) <|
 grd (!(((x12_2.2 == 0) && ((x12_2.1.rows.length : Int) == 3)) && ((((idx x12_2.1.rows 1).getD default).bound) == 1)) || (idx x12_2.1.rows 2).isSome) <|
 grd (!((((x12_2.2 == 0) && ((x12_2.1.rows.length : Int) == 3)) && ((((idx x12_2.1.rows 1).getD default).bound) == 1)) && ((((idx x12_2.1.rows 2).getD default).bound) == 0)) || (idx x12_2.1.rows 2).isSome) <|
 grd (!(((((x12_2.2 == 0) && ((x12_2.1.rows.length : Int) == 3)) && ((((idx x12_2.1.rows 1).getD default).bound) == 1)) && ((((idx x12_2.1.rows 2).getD default).bound) == 0)) && (((((idx x12_2.1.rows 2).getD default).terms).length : Int) == 1)) || (idx x12_2.1.rows 2).isSome) <|
 grd (!(((((x12_2.2 == 0) && ((x12_2.1.rows.length : Int) == 3)) && ((((idx x12_2.1.rows 1).getD default).bound) == 1)) && ((((idx x12_2.1.rows 2).getD default).bound) == 0)) && (((((idx x12_2.1.rows 2).getD default).terms).length : Int) == 1)) || (idx (((idx x12_2.1.rows 2).getD default).terms) 0).isSome) <|
 grd (!((((((x12_2.2 == 0) && ((x12_2.1.rows.length : Int) == 3)) && ((((idx x12_2.1.rows 1).getD default).bound) == 1)) && ((((idx x12_2.1.rows 2).getD default).bound) == 0)) && (((((idx x12_2.1.rows 2).getD default).terms).length : Int) == 1)) && ((((idx (((idx x12_2.1.rows 2).getD default).terms) 0).getD default).factor) == (-1))) || (condition_Open n x6_1 (⟨0, 0, (⟨false, 1⟩ : Target)⟩ : Question)).isSome) <|
 grd (!(((((((x12_2.2 == 0) && ((x12_2.1.rows.length : Int) == 3)) && ((((idx x12_2.1.rows 1).getD default).bound) == 1)) && ((((idx x12_2.1.rows 2).getD default).bound) == 0)) && (((((idx x12_2.1.rows 2).getD default).terms).length : Int) == 1)) && ((((idx (((idx x12_2.1.rows 2).getD default).terms) 0).getD default).factor) == (-1))) && ((condition_Open n x6_1 (⟨0, 0, (⟨false, 1⟩ : Target)⟩ : Question)).getD default)) || (condition_Open n x6_1 (⟨0, 0, (⟨false, 0⟩ : Target)⟩ : Question)).isSome) <|
 grd (!((((((((x12_2.2 == 0) && ((x12_2.1.rows.length : Int) == 3)) && ((((idx x12_2.1.rows 1).getD default).bound) == 1)) && ((((idx x12_2.1.rows 2).getD default).bound) == 0)) && (((((idx x12_2.1.rows 2).getD default).terms).length : Int) == 1)) && ((((idx (((idx x12_2.1.rows 2).getD default).terms) 0).getD default).factor) == (-1))) && ((condition_Open n x6_1 (⟨0, 0, (⟨false, 1⟩ : Target)⟩ : Question)).getD default)) && (!((condition_Open n x6_1 (⟨0, 0, (⟨false, 0⟩ : Target)⟩ : Question)).getD default))) || (idx x6_1.constraints 0).isSome) <|
 grd (!((((((((x12_2.2 == 0) && ((x12_2.1.rows.length : Int) == 3)) && ((((idx x12_2.1.rows 1).getD default).bound) == 1)) && ((((idx x12_2.1.rows 2).getD default).bound) == 0)) && (((((idx x12_2.1.rows 2).getD default).terms).length : Int) == 1)) && ((((idx (((idx x12_2.1.rows 2).getD default).terms) 0).getD default).factor) == (-1))) && ((condition_Open n x6_1 (⟨0, 0, (⟨false, 1⟩ : Target)⟩ : Question)).getD default)) && (!((condition_Open n x6_1 (⟨0, 0, (⟨false, 0⟩ : Target)⟩ : Question)).getD default))) || (condition_Change n x6_1 0 (((idx x6_1.constraints 0).getD default).row)).isSome) <|
 grd (!(((((((((x12_2.2 == 0) && ((x12_2.1.rows.length : Int) == 3)) && ((((idx x12_2.1.rows 1).getD default).bound) == 1)) && ((((idx x12_2.1.rows 2).getD default).bound) == 0)) && (((((idx x12_2.1.rows 2).getD default).terms).length : Int) == 1)) && ((((idx (((idx x12_2.1.rows 2).getD default).terms) 0).getD default).factor) == (-1))) && ((condition_Open n x6_1 (⟨0, 0, (⟨false, 1⟩ : Target)⟩ : Question)).getD default)) && (!((condition_Open n x6_1 (⟨0, 0, (⟨false, 0⟩ : Target)⟩ : Question)).getD default))) && (((condition_Change n x6_1 0 (((idx x6_1.constraints 0).getD default).row)).getD default) == (-2))) || (slices_Equal_LQuestion_api_Question n x16_3 [(⟨0, 0, (⟨false, 1⟩ : Target)⟩ : Question)]).isSome) <|
 some ((((((((((x12_2.2 == 0) && ((x12_2.1.rows.length : Int) == 3)) && ((((idx x12_2.1.rows 1).getD default).bound) == 1)) && ((((idx x12_2.1.rows 2).getD default).bound) == 0)) && (((((idx x12_2.1.rows 2).getD default).terms).length : Int) == 1)) && ((((idx (((idx x12_2.1.rows 2).getD default).terms) 0).getD default).factor) == (-1))) && ((condition_Open n x6_1 (⟨0, 0, (⟨false, 1⟩ : Target)⟩ : Question)).getD default)) && (!((condition_Open n x6_1 (⟨0, 0, (⟨false, 0⟩ : Target)⟩ : Question)).getD default))) && (((condition_Change n x6_1 0 (((idx x6_1.constraints 0).getD default).row)).getD default) == (-2))) && ((slices_Equal_LQuestion_api_Question n x16_3 [(⟨0, 0, (⟨false, 1⟩ : Target)⟩ : Question)]).getD default))
noncomputable def ref09_Few.l1 (n : Nat) (t0 : List Int) (t1 : List Table) (rec_10 : Int → Option Bool) (s : Int) : Option Bool :=
 let x5_9 := s
 if (decide (x5_9 < (t1.length : Int))) = true then
  (idx t1 x5_9).bind fun x14_11 =>
  grd ((decide (40 < (x14_11.name.length : Int))) || (idx t1 x5_9).isSome) <|
  if ((decide (40 < (x14_11.name.length : Int))) || (decide (12 < ((((idx t1 x5_9).getD default).columns).length : Int)))) = true then
   some false
  else
   rec_10 (add64 x5_9 1)
 else
  some ((decide ((t0.length : Int) ≤ 12)) && (decide ((t1.length : Int) ≤ 20)))
noncomputable def ref09_Few (n : Nat) (t0 : List Int) (t1 : List Table) : Option Bool :=
 loopF (ref09_Few.l1 n t0 t1) n 0
noncomputable def ref13_Bounded.l5 (n : Nat) (x6_62 : Int) (rec_63 : Int → Option Bool) (x122_64 : Action) (rec_74 : Int → Option Bool) (s : Int) : Option Bool :=
 let x8_73 := s
 if (decide (x8_73 < (x122_64.effect.hold.length : Int))) = true then
  (idx x122_64.effect.hold x8_73).bind fun x161_75 =>
  if (decide (20 < (x161_75.terms.length : Int))) = true then
   some false
  else
   rec_74 (add64 x8_73 1)
 else
  rec_63 (add64 x6_62 1)
noncomputable def ref13_Bounded.l4 (n : Nat) (t0 : Model) (rec_63 : Int → Option Bool) (s : Int) : Option Bool :=
 let x6_62 := s
 if (decide (x6_62 < (t0.actions.length : Int))) = true then
  (idx t0.actions x6_62).bind fun x122_64 =>
  (idx t0.actions x6_62).bind fun x128_65 =>
  if ((((decide (6 < (x128_65.arguments.length : Int))) || (decide (20 < (x122_64.effect.delta.length : Int)))) || (decide (10 < (x122_64.effect.hold.length : Int)))) || (decide (40 < (x122_64.effect.updates.length : Int)))) = true then
   some false
  else
   loopF (ref13_Bounded.l5 n x6_62 rec_63 x122_64) n 0
 else
  some true
noncomputable def ref13_Bounded.l3 (n : Nat) (t0 : Model) (rec_32 : Int → Option Bool) (s : Int) : Option Bool :=
 let x5_31 := s
 if (decide (x5_31 < (t0.operations.length : Int))) = true then
  (idx t0.operations x5_31).bind fun x97_33 =>
  grd ((decide (40 < (x97_33.name.length : Int))) || (idx t0.operations x5_31).isSome) <|
  if ((decide (40 < (x97_33.name.length : Int))) || (decide (6 < ((((idx t0.operations x5_31).getD default).sorts).length : Int)))) = true then
   some false
  else
   rec_32 (add64 x5_31 1)
 else
  loopF (ref13_Bounded.l4 n t0) n 0
noncomputable def ref13_Bounded.l2 (n : Nat) (t0 : Model) (rec_21 : Int → Option Bool) (s : Int) : Option Bool :=
 let x4_20 := s
 if (decide (x4_20 < (t0.constraints.length : Int))) = true then
  (idx t0.constraints x4_20).bind fun x81_22 =>
  if (decide (20 < (x81_22.row.terms.length : Int))) = true then
   some false
  else
   rec_21 (add64 x4_20 1)
 else
  loopF (ref13_Bounded.l3 n t0) n 0
noncomputable def ref13_Bounded.l1 (n : Nat) (t0 : Model) (rec_14 : Int → Option Bool) (s : Int) : Option Bool :=
 let x3_13 := s
 if (decide (x3_13 < (t0.families.length : Int))) = true then
  (idx t0.families x3_13).bind fun x67_15 =>
  if (decide (40 < (x67_15.length : Int))) = true then
   some false
  else
   rec_14 (add64 x3_13 1)
 else
  loopF (ref13_Bounded.l2 n t0) n 0
noncomputable def ref13_Bounded (n : Nat) (t0 : Model) : Option Bool :=
 grd ((((((((decide (8 < (t0.sorts.length : Int))) || (decide (6 < (t0.tables.length : Int)))) || (decide (20 < (t0.families.length : Int)))) || (decide (60 < (t0.constraints.length : Int)))) || (decide (8 < (t0.operations.length : Int)))) || (decide (30 < (t0.actions.length : Int)))) || (decide (12 < (t0.hides.length : Int)))) || (ref09_Few n t0.sorts t0.tables).isSome) <|
 if ((((((((decide (8 < (t0.sorts.length : Int))) || (decide (6 < (t0.tables.length : Int)))) || (decide (20 < (t0.families.length : Int)))) || (decide (60 < (t0.constraints.length : Int)))) || (decide (8 < (t0.operations.length : Int)))) || (decide (30 < (t0.actions.length : Int)))) || (decide (12 < (t0.hides.length : Int)))) || (!((ref09_Few n t0.sorts t0.tables).getD default))) = true then
  some false
 else
  loopF (ref13_Bounded.l1 n t0) n 0
noncomputable def ref09_sound.l1 (n : Nat) (t0 : List Int) (rec_10 : Int → Option Bool) (s : Int) : Option Bool :=
 let x3_9 := s
 if (decide (x3_9 < (t0.length : Int))) = true then
  (idx t0 x3_9).bind fun x12_11 =>
  grd ((decide (x12_11 < 1)) || (idx t0 x3_9).isSome) <|
  if ((decide (x12_11 < 1)) || (decide (6 < ((idx t0 x3_9).getD default)))) = true then
   some false
  else
   rec_10 (add64 x3_9 1)
 else
  some true
noncomputable def ref09_sound (n : Nat) (t0 : List Int) : Option Bool :=
 loopF (ref09_sound.l1 n t0) n 0
noncomputable def ref09_number.l1 (n : Nat) (t0 : List Int) (t1 : List Int) (rec_19 : (Int × Int) → Option Int) (s : Int × Int) : Option Int :=
 let x5_17 := s.1
 let x6_18 := s.2
 if (decide (x6_18 < (t1.length : Int))) = true then
  (idx t1 x6_18).bind fun x23_20 =>
  grd ((decide (x23_20 < 0)) || (idx t1 x6_18).isSome) <|
  if ((decide (x23_20 < 0)) || (decide ((t0.length : Int) ≤ ((idx t1 x6_18).getD default)))) = true then
   some 0
  else
   (idx t1 x6_18).bind fun x39_23 =>
   (idx t0 x39_23).bind fun x41_24 =>
   rec_19 (mul64 x5_17 x41_24, add64 x6_18 1)
 else
  some x5_17
noncomputable def ref09_number (n : Nat) (t0 : List Int) (t1 : List Int) : Option Int :=
 grd ((decide (3 < (t1.length : Int))) || (ref09_sound n t0).isSome) <|
 if ((decide (3 < (t1.length : Int))) || (!((ref09_sound n t0).getD default))) = true then
  some 0
 else
  loopF (ref09_number.l1 n t0 t1) n (1, 0)
noncomputable def ref02_white (n : Nat) (t0 : Int) : Option Bool :=
 some ((((t0 == 9) || (t0 == 10)) || (t0 == 13)) || (t0 == 32))
noncomputable def ref02_skip.l2 (n : Nat) (t0 : List UInt8) (rec_36 : Int → Option Int) (rec_50 : Int → Option Int) (s : Int) : Option Int :=
 let x1_49 := s
 grd (!(decide (x1_49 < (t0.length : Int))) || (sidx t0 x1_49).isSome) <|
 if ((decide (x1_49 < (t0.length : Int))) && (((sidx t0 x1_49).getD default) != 10)) = true then
  rec_50 (add64 x1_49 1)
 else
  rec_36 x1_49
noncomputable def ref02_skip.l1 (n : Nat) (t0 : List UInt8) (rec_36 : Int → Option Int) (s : Int) : Option Int :=
 let x1_35 := s
 grd (!(decide (x1_35 < (t0.length : Int))) || (sidx t0 x1_35).isSome) <|
 grd (!(decide (x1_35 < (t0.length : Int))) || (ref02_white n ((sidx t0 x1_35).getD default)).isSome) <|
 grd (!(decide (x1_35 < (t0.length : Int))) || (((ref02_white n ((sidx t0 x1_35).getD default)).getD default) || (sidx t0 x1_35).isSome)) <|
 if ((decide (x1_35 < (t0.length : Int))) && (((ref02_white n ((sidx t0 x1_35).getD default)).getD default) || (((sidx t0 x1_35).getD default) == 35))) = true then
  (sidx t0 x1_35).bind fun x23_42 =>
  if (x23_42 == 35) = true then
   loopF (ref02_skip.l2 n t0 rec_36) n x1_35
  else
   rec_36 (add64 x1_35 1)
 else
  some x1_35
noncomputable def ref02_skip (n : Nat) (t0 : List UInt8) (t1 : Int) : Option Int :=
 loopF (ref02_skip.l1 n t0) n t1
noncomputable def ref02_letter (n : Nat) (t0 : Int) : Option Bool :=
 some ((decide (97 ≤ t0)) && (decide (t0 ≤ 122)))
noncomputable def ref02_digit (n : Nat) (t0 : Int) : Option Bool :=
 some ((decide (48 ≤ t0)) && (decide (t0 ≤ 57)))
noncomputable def ref02_Keywords (n : Nat) : Option (List (List UInt8)) :=
 some [[115, 111, 114, 116], [114, 101, 108, 97, 116, 105, 111, 110], [99, 111, 117, 110, 116, 101, 114], [115, 101, 116], [114, 101, 103, 105, 115, 116, 101, 114], [105, 110, 118, 97, 114, 105, 97, 110, 116], [111, 112, 101, 114, 97, 116, 105, 111, 110], [107, 101, 121], [114, 101, 102, 101, 114, 101, 110, 99, 101], [116, 111], [99, 111, 117, 110, 116], [97, 99, 121, 99, 108, 105, 99], [97, 108, 108], [115, 117, 109], [105, 110], [97, 100, 100, 119, 105, 110, 115], [114, 101, 109, 111, 118, 101, 119, 105, 110, 115], [108, 97, 115, 116], [109, 117, 108, 116, 105], [104, 105, 100, 101], [111, 114, 100, 101, 114, 101, 100], [114, 101, 113, 117, 105, 114, 101], [104, 111, 108, 100], [105, 110, 115, 101, 114, 116], [100, 101, 108, 101, 116, 101], [97, 100, 100], [102, 114, 111, 109], [112, 117, 116], [100, 114, 111, 112], [97, 115, 115, 105, 103, 110], [102, 111, 114], [119, 104, 101, 114, 101], [97, 110, 100], [111, 114], [110, 111, 116]]
noncomputable def ref02_Has.l1 (n : Nat) (t0 : List (List UInt8)) (t1 : List UInt8) (rec_6 : Int → Option Bool) (s : Int) : Option Bool :=
 let x5_5 := s
 if (decide (x5_5 < (t0.length : Int))) = true then
  (idx t0 x5_5).bind fun x14_7 =>
  if (decide (x14_7 = t1)) = true then
   some true
  else
   rec_6 (add64 x5_5 1)
 else
  some false
noncomputable def ref02_Has (n : Nat) (t0 : List (List UInt8)) (t1 : List UInt8) : Option Bool :=
 loopF (ref02_Has.l1 n t0 t1) n 0
noncomputable def ref02_Symbols (n : Nat) : Option (List (List UInt8)) :=
 some [[61, 61], [33, 61], [60, 61], [62, 61], [46, 46], [60], [62], [61], [43], [45], [42], [40], [41], [123], [125], [44], [58], [59]]
noncomputable def ref02_symbol.l1 (n : Nat) (t0 : List UInt8) (t1 : Int) (x8_1 : List (List UInt8)) (rec_13 : Int → Option Int) (s : Int) : Option Int :=
 let x6_12 := s
 if (decide (x6_12 < (x8_1.length : Int))) = true then
  (idx x8_1 x6_12).bind fun x17_14 =>
  grd (!(decide (add64 t1 (x17_14.length : Int) ≤ (t0.length : Int))) || (cut t0 t1 (add64 t1 (x17_14.length : Int))).isSome) <|
  grd (!(decide (add64 t1 (x17_14.length : Int) ≤ (t0.length : Int))) || (idx x8_1 x6_12).isSome) <|
  if ((decide (add64 t1 (x17_14.length : Int) ≤ (t0.length : Int))) && (decide (((cut t0 t1 (add64 t1 (x17_14.length : Int))).getD default) = ((idx x8_1 x6_12).getD default)))) = true then
   some (x17_14.length : Int)
  else
   rec_13 (add64 x6_12 1)
 else
  some 0
noncomputable def ref02_symbol (n : Nat) (t0 : List UInt8) (t1 : Int) : Option Int :=
 (ref02_Symbols n ).bind fun x8_1 =>
 loopF (ref02_symbol.l1 n t0 t1 x8_1) n 0
noncomputable def ref02_token.l3 (n : Nat) (t0 : List UInt8) (rec_79 : Int → Option (Int × Int)) (s : Int) : Option (Int × Int) :=
 let x6_78 := s
 grd (!(decide (x6_78 < (t0.length : Int))) || (sidx t0 x6_78).isSome) <|
 grd (!(decide (x6_78 < (t0.length : Int))) || (ref02_white n ((sidx t0 x6_78).getD default)).isSome) <|
 grd (!((decide (x6_78 < (t0.length : Int))) && (!((ref02_white n ((sidx t0 x6_78).getD default)).getD default))) || (sidx t0 x6_78).isSome) <|
 grd (!(((decide (x6_78 < (t0.length : Int))) && (!((ref02_white n ((sidx t0 x6_78).getD default)).getD default))) && (((sidx t0 x6_78).getD default) != 35)) || (sidx t0 x6_78).isSome) <|
 grd (!(((decide (x6_78 < (t0.length : Int))) && (!((ref02_white n ((sidx t0 x6_78).getD default)).getD default))) && (((sidx t0 x6_78).getD default) != 35)) || (ref02_letter n ((sidx t0 x6_78).getD default)).isSome) <|
 grd (!((((decide (x6_78 < (t0.length : Int))) && (!((ref02_white n ((sidx t0 x6_78).getD default)).getD default))) && (((sidx t0 x6_78).getD default) != 35)) && (!((ref02_letter n ((sidx t0 x6_78).getD default)).getD default))) || (sidx t0 x6_78).isSome) <|
 grd (!((((decide (x6_78 < (t0.length : Int))) && (!((ref02_white n ((sidx t0 x6_78).getD default)).getD default))) && (((sidx t0 x6_78).getD default) != 35)) && (!((ref02_letter n ((sidx t0 x6_78).getD default)).getD default))) || (ref02_digit n ((sidx t0 x6_78).getD default)).isSome) <|
 grd (!(((((decide (x6_78 < (t0.length : Int))) && (!((ref02_white n ((sidx t0 x6_78).getD default)).getD default))) && (((sidx t0 x6_78).getD default) != 35)) && (!((ref02_letter n ((sidx t0 x6_78).getD default)).getD default))) && (!((ref02_digit n ((sidx t0 x6_78).getD default)).getD default))) || (ref02_symbol n t0 x6_78).isSome) <|
 if ((((((decide (x6_78 < (t0.length : Int))) && (!((ref02_white n ((sidx t0 x6_78).getD default)).getD default))) && (((sidx t0 x6_78).getD default) != 35)) && (!((ref02_letter n ((sidx t0 x6_78).getD default)).getD default))) && (!((ref02_digit n ((sidx t0 x6_78).getD default)).getD default))) && (((ref02_symbol n t0 x6_78).getD default) == 0)) = true then
  rec_79 (add64 x6_78 1)
 else
  some (5, x6_78)
noncomputable def ref02_token.l2 (n : Nat) (t0 : List UInt8) (rec_45 : Int → Option (Int × Int)) (s : Int) : Option (Int × Int) :=
 let x6_44 := s
 grd (!(decide (x6_44 < (t0.length : Int))) || (sidx t0 x6_44).isSome) <|
 grd (!(decide (x6_44 < (t0.length : Int))) || (ref02_digit n ((sidx t0 x6_44).getD default)).isSome) <|
 if ((decide (x6_44 < (t0.length : Int))) && ((ref02_digit n ((sidx t0 x6_44).getD default)).getD default)) = true then
  rec_45 (add64 x6_44 1)
 else
  some (3, x6_44)
noncomputable def ref02_token.l1 (n : Nat) (t0 : List UInt8) (t1 : Int) (rec_22 : Int → Option (Int × Int)) (s : Int) : Option (Int × Int) :=
 let x6_21 := s
 grd (!(decide (x6_21 < (t0.length : Int))) || (sidx t0 x6_21).isSome) <|
 grd (!(decide (x6_21 < (t0.length : Int))) || (ref02_letter n ((sidx t0 x6_21).getD default)).isSome) <|
 grd (!(decide (x6_21 < (t0.length : Int))) || (((ref02_letter n ((sidx t0 x6_21).getD default)).getD default) || (sidx t0 x6_21).isSome)) <|
 grd (!(decide (x6_21 < (t0.length : Int))) || (((ref02_letter n ((sidx t0 x6_21).getD default)).getD default) || (ref02_digit n ((sidx t0 x6_21).getD default)).isSome)) <|
 grd (!(decide (x6_21 < (t0.length : Int))) || ((((ref02_letter n ((sidx t0 x6_21).getD default)).getD default) || ((ref02_digit n ((sidx t0 x6_21).getD default)).getD default)) || (sidx t0 x6_21).isSome)) <|
 if ((decide (x6_21 < (t0.length : Int))) && ((((ref02_letter n ((sidx t0 x6_21).getD default)).getD default) || ((ref02_digit n ((sidx t0 x6_21).getD default)).getD default)) || (((sidx t0 x6_21).getD default) == 95))) = true then
  rec_22 (add64 x6_21 1)
 else
  (ref02_Keywords n ).bind fun x37_31 =>
  (cut t0 t1 x6_21).bind fun x41_32 =>
  (ref02_Has n x37_31 x41_32).bind fun x42_33 =>
  if x42_33 = true then
   some (2, x6_21)
  else
   some (1, x6_21)
noncomputable def ref02_token (n : Nat) (t0 : List UInt8) (t1 : Int) : Option (Int × Int) :=
 (sidx t0 t1).bind fun x11_1 =>
 (ref02_letter n x11_1).bind fun x12_2 =>
 if x12_2 = true then
  loopF (ref02_token.l1 n t0 t1) n t1
 else
  (sidx t0 t1).bind fun x47_34 =>
  (ref02_digit n x47_34).bind fun x48_35 =>
  if x48_35 = true then
   loopF (ref02_token.l2 n t0) n t1
  else
   (ref02_symbol n t0 t1).bind fun x64_49 =>
   if (decide (0 < x64_49)) = true then
    some (4, add64 t1 x64_49)
   else
    loopF (ref02_token.l3 n t0) n t1
noncomputable def ref02_Scan.l1 (n : Nat) (t0 : List UInt8) (rec_15 : ((List Token) × Int) → Option ((List Token) × Int)) (s : (List Token) × Int) : Option ((List Token) × Int) :=
 let b0_13 := s.1
 let x5_14 := s.2
 (ref02_skip n t0 x5_14).bind fun x15_16 =>
 if (decide (x15_16 < (t0.length : Int))) = true then
  (ref02_skip n t0 x5_14).bind fun x21_17 =>
  (ref02_token n t0 x21_17).bind fun x25_18 =>
  (app 32 b0_13 [(⟨x25_18.1, x5_14, x21_17, x25_18.2⟩ : Token)]).bind fun x35_19 =>
  rec_15 (x35_19, x25_18.2)
 else
  (app 32 b0_13 [(⟨0, x5_14, (t0.length : Int), (t0.length : Int)⟩ : Token)]).bind fun x45_20 =>
  some (x45_20, 0)
noncomputable def ref02_Scan (n : Nat) (t0 : List UInt8) : Option ((List Token) × Int) :=
 if (decide (4096 < (t0.length : Int))) = true then
  some ([], 8)
 else
  loopF (ref02_Scan.l1 n t0) n (([] : List Token), 0)
noncomputable def ref02_Kind (n : Nat) (t0 : List UInt8) : Option Int :=
 (ref02_Scan n t0).bind fun x7_1 =>
 grd (((x7_1.2 != 0) || ((x7_1.1.length : Int) != 2)) || (idx x7_1.1 0).isSome) <|
 grd ((((x7_1.2 != 0) || ((x7_1.1.length : Int) != 2)) || ((((idx x7_1.1 0).getD default).at_) != 0)) || (idx x7_1.1 0).isSome) <|
 if ((((x7_1.2 != 0) || ((x7_1.1.length : Int) != 2)) || ((((idx x7_1.1 0).getD default).at_) != 0)) || ((((idx x7_1.1 0).getD default).end_) != (t0.length : Int))) = true then
  some 0
 else
  (idx x7_1.1 0).bind fun x34_7 =>
  some x34_7.kind
noncomputable def ref02_Name (n : Nat) (t0 : List UInt8) : Option Bool :=
 (ref02_Kind n t0).bind fun x4_1 =>
 some ((x4_1 == 1) && (decide ((t0.length : Int) ≤ 16)))
noncomputable def ref09_strict (n : Nat) (t0 : Int) : Option Bool :=
 some ((t0 == 0) || (t0 == 1))
noncomputable def ref09_Valid.l2 (n : Nat) (t0 : List Int) (t1 : List Table) (x5_56 : Int) (x6_57 : Int) (x7_58 : Int) (k_62 : (Int × Int) → Option Bool) (x32_63 : Table) (rec_69 : Int → Option Bool) (s : Int) : Option Bool :=
 let x9_68 := s
 if (decide (x9_68 < x7_58)) = true then
  (idx t1 x9_68).bind fun x41_70 =>
  if (decide (x41_70.name = x32_63.name)) = true then
   some false
  else
   rec_69 (add64 x9_68 1)
 else
  (ref09_number n t0 x32_63.columns).bind fun x50_71 =>
  (ref02_Name n x32_63.name).bind fun x53_72 =>
  if ((((!x53_72) || (decide (x32_63.kind < 0))) || (decide (5 < x32_63.kind))) || (x50_71 == 0)) = true then
   some false
  else
   if (((decide (x32_63.range.hi < x32_63.range.lo)) || (decide (x32_63.range.lo < (-9999)))) || (decide (9999 < x32_63.range.hi))) = true then
    some false
   else
    if ((((x32_63.kind == 0) || (x32_63.kind == 2)) || (x32_63.kind == 3)) && ((x32_63.range.lo != 0) || (x32_63.range.hi != 1))) = true then
     some false
    else
     (ref09_strict n x32_63.kind).bind fun x115_82 =>
     if x115_82 = true then
      if (x32_63.first != x5_56) = true then
       some false
      else
       k_62 (add64 x5_56 x50_71, x6_57)
     else
      if (x32_63.first != x6_57) = true then
       some false
      else
       k_62 (x5_56, add64 x6_57 x50_71)
noncomputable def ref09_Valid.l1 (n : Nat) (t0 : List Int) (t1 : List Table) (rec_59 : (Int × Int × Int) → Option Bool) (s : Int × Int × Int) : Option Bool :=
 let x5_56 := s.1
 let x6_57 := s.2.1
 let x7_58 := s.2.2
 if (decide (x7_58 < (t1.length : Int))) = true then
  jn (fun (v : Int × Int) =>
   let x5_60 := v.1
   let x6_61 := v.2
   rec_59 (x5_60, x6_61, add64 x7_58 1)) fun k_62 =>
  (idx t1 x7_58).bind fun x32_63 =>
  loopF (ref09_Valid.l2 n t0 t1 x5_56 x6_57 x7_58 k_62 x32_63) n 0
 else
  some ((decide (x5_56 ≤ 128)) && (decide (x6_57 ≤ 64)))
noncomputable def ref09_Valid (n : Nat) (t0 : List Int) (t1 : List Table) : Option Bool :=
 grd ((decide (4 < (t0.length : Int))) || (ref09_sound n t0).isSome) <|
 if (((decide (4 < (t0.length : Int))) || (!((ref09_sound n t0).getD default))) || (decide (12 < (t1.length : Int)))) = true then
  some false
 else
  loopF (ref09_Valid.l1 n t0 t1) n (0, 0, 0)
noncomputable def ref09_Ranges.l2 (n : Nat) (t0 : List Int) (t1 : List Table) (t2 : Bool) (x8_63 : Int) (rec_64 : ((List Range) × Int) → Option (List Range)) (rec_85 : ((List Range) × Int) → Option (List Range)) (s : (List Range) × Int) : Option (List Range) :=
 let b0_83 := s.1
 let x9_84 := s.2
 (idx t1 x8_63).bind fun x24_86 =>
 (ref09_strict n x24_86.kind).bind fun x27_87 =>
 grd (!(x27_87 == t2) || (idx t1 x8_63).isSome) <|
 grd (!(x27_87 == t2) || (ref09_number n t0 (((idx t1 x8_63).getD default).columns)).isSome) <|
 if ((x27_87 == t2) && (decide (x9_84 < ((ref09_number n t0 (((idx t1 x8_63).getD default).columns)).getD default)))) = true then
  (idx t1 x8_63).bind fun x46_91 =>
  (app 16 b0_83 [x46_91.range]).bind fun x50_92 =>
  rec_85 (x50_92, add64 x9_84 1)
 else
  rec_64 (b0_83, add64 x8_63 1)
noncomputable def ref09_Ranges.l1 (n : Nat) (t0 : List Int) (t1 : List Table) (t2 : Bool) (rec_64 : ((List Range) × Int) → Option (List Range)) (s : (List Range) × Int) : Option (List Range) :=
 let b0_62 := s.1
 let x8_63 := s.2
 if (decide (x8_63 < (t1.length : Int))) = true then
  loopF (ref09_Ranges.l2 n t0 t1 t2 x8_63 rec_64) n (b0_62, 0)
 else
  some b0_62
noncomputable def ref09_Ranges (n : Nat) (t0 : List Int) (t1 : List Table) (t2 : Bool) : Option (List Range) :=
 (ref09_Valid n t0 t1).bind fun x13_1 =>
 if (!x13_1) = true then
  some ([] : List Range)
 else
  loopF (ref09_Ranges.l1 n t0 t1 t2) n (([] : List Range), 0)
noncomputable def ref13_strict (n : Nat) (t0 : Model) : Option (List Range) :=
 (ref09_Ranges n t0.sorts t0.tables true).bind fun x7_1 =>
 some x7_1
noncomputable def ref13_Few.l2 (n : Nat) (x39_11 : List Range) (rec_22 : (Int × Int) → Option Bool) (s : Int × Int) : Option Bool :=
 let x5_20 := s.1
 let x6_21 := s.2
 if (decide (x6_21 < (x39_11.length : Int))) = true then
  (idx x39_11 x6_21).bind fun x52_23 =>
  (idx x39_11 x6_21).bind fun x57_24 =>
  if (decide (4096 < mul64 x5_20 (add64 (sub64 x52_23.hi x57_24.lo) 1))) = true then
   some false
  else
   rec_22 (mul64 x5_20 (add64 (sub64 x52_23.hi x57_24.lo) 1), add64 x6_21 1)
 else
  some true
noncomputable def ref13_Few.l1 (n : Nat) (t0 : Model) (rec_9 : Int → Option Bool) (s : Int) : Option Bool :=
 let x3_8 := s
 if (decide (x3_8 < (t0.actions.length : Int))) = true then
  (idx t0.actions x3_8).bind fun x32_10 =>
  if (decide (4 < (x32_10.effect.hold.length : Int))) = true then
   some false
  else
   rec_9 (add64 x3_8 1)
 else
  (ref13_strict n t0).bind fun x39_11 =>
  if (decide (12 < (x39_11.length : Int))) = true then
   some false
  else
   loopF (ref13_Few.l2 n x39_11) n (1, 0)
noncomputable def ref13_Few (n : Nat) (t0 : Model) : Option Bool :=
 (ref13_Bounded n t0).bind fun x8_1 =>
 if (((!x8_1) || (decide (12 < (t0.actions.length : Int)))) || (decide (40 < (t0.constraints.length : Int)))) = true then
  some false
 else
  loopF (ref13_Few.l1 n t0) n 0
noncomputable def ref13_distinct.l1 (n : Nat) (t0 : List (List UInt8)) (rec_16 : Int → Option Bool) (s : Int) : Option Bool :=
 let x3_15 := s
 if (decide (x3_15 < (t0.length : Int))) = true then
  (idx t0 x3_15).bind fun x12_17 =>
  (ref02_Name n x12_17).bind fun x14_18 =>
  grd ((!x14_18) || (cut t0 0 x3_15).isSome) <|
  grd ((!x14_18) || (idx t0 x3_15).isSome) <|
  grd ((!x14_18) || (ref02_Has n ((cut t0 0 x3_15).getD default) ((idx t0 x3_15).getD default)).isSome) <|
  if ((!x14_18) || ((ref02_Has n ((cut t0 0 x3_15).getD default) ((idx t0 x3_15).getD default)).getD default)) = true then
   some false
  else
   rec_16 (add64 x3_15 1)
 else
  some true
noncomputable def ref13_distinct (n : Nat) (t0 : List (List UInt8)) : Option Bool :=
 loopF (ref13_distinct.l1 n t0) n 0
noncomputable def ref11_SameTerms.l1 (n : Nat) (t0 : List Term) (t1 : List Term) (rec_8 : Int → Option Bool) (s : Int) : Option Bool :=
 let x5_7 := s
 if (decide (x5_7 < (t0.length : Int))) = true then
  (idx t0 x5_7).bind fun x19_9 =>
  (idx t1 x5_7).bind fun x23_10 =>
  if (!decide ((x19_9 : Term) = x23_10)) = true then
   some false
  else
   rec_8 (add64 x5_7 1)
 else
  some true
noncomputable def ref11_SameTerms (n : Nat) (t0 : List Term) (t1 : List Term) : Option Bool :=
 if ((t0.length : Int) != (t1.length : Int)) = true then
  some false
 else
  loopF (ref11_SameTerms.l1 n t0 t1) n 0
noncomputable def ref11_SameRow (n : Nat) (t0 : Row) (t1 : Row) : Option Bool :=
 grd (!(t0.bound == t1.bound) || (ref11_SameTerms n t0.terms t1.terms).isSome) <|
 some ((t0.bound == t1.bound) && ((ref11_SameTerms n t0.terms t1.terms).getD default))
noncomputable def ref13_between (n : Nat) (t0 : Int) (t1 : Int) : Option Bool :=
 some ((decide (neg64 t1 ≤ t0)) && (decide (t0 ≤ t1)))
noncomputable def ref13_row.l1 (n : Nat) (t0 : Row) (t1 : Int) (rec_20 : Int → Option Bool) (s : Int) : Option Bool :=
 let x5_19 := s
 if (decide (x5_19 < (t0.terms.length : Int))) = true then
  (idx t0.terms x5_19).bind fun x17_21 =>
  grd (((decide (x17_21.cell < 0)) || (decide (t1 ≤ x17_21.cell))) || (!(decide (0 < x5_19)) || (idx t0.terms (sub64 x5_19 1)).isSome)) <|
  grd (((((decide (x17_21.cell < 0)) || (decide (t1 ≤ x17_21.cell))) || ((decide (0 < x5_19)) && (decide (x17_21.cell ≤ ((idx t0.terms (sub64 x5_19 1)).getD default).cell)))) || (x17_21.factor == 0)) || (ref13_between n x17_21.factor 1000).isSome) <|
  if (((((decide (x17_21.cell < 0)) || (decide (t1 ≤ x17_21.cell))) || ((decide (0 < x5_19)) && (decide (x17_21.cell ≤ ((idx t0.terms (sub64 x5_19 1)).getD default).cell)))) || (x17_21.factor == 0)) || (!((ref13_between n x17_21.factor 1000).getD default))) = true then
   some false
  else
   rec_20 (add64 x5_19 1)
 else
  (ref13_between n t0.bound 1000000000).bind fun x57_29 =>
  some x57_29
noncomputable def ref13_row (n : Nat) (t0 : Row) (t1 : Int) : Option Bool :=
 loopF (ref13_row.l1 n t0 t1) n 0
noncomputable def ref13_graph.l1 (n : Nat) (t0 : Model) (t1 : Constraint) (rec_23 : Int → Option Bool) (s : Int) : Option Bool :=
 let x5_22 := s
 if (decide (x5_22 < (t0.tables.length : Int))) = true then
  (idx t0.tables x5_22).bind fun x28_24 =>
  grd (!((x28_24.kind == 0) && ((x28_24.columns.length : Int) == 2)) || (idx x28_24.columns 0).isSome) <|
  grd (!((x28_24.kind == 0) && ((x28_24.columns.length : Int) == 2)) || (idx x28_24.columns 1).isSome) <|
  grd (!((((x28_24.kind == 0) && ((x28_24.columns.length : Int) == 2)) && (((idx x28_24.columns 0).getD default) == ((idx x28_24.columns 1).getD default))) && (x28_24.first == t1.first)) || (idx x28_24.columns 0).isSome) <|
  grd (!((((x28_24.kind == 0) && ((x28_24.columns.length : Int) == 2)) && (((idx x28_24.columns 0).getD default) == ((idx x28_24.columns 1).getD default))) && (x28_24.first == t1.first)) || (idx t0.sorts ((idx x28_24.columns 0).getD default)).isSome) <|
  if (((((x28_24.kind == 0) && ((x28_24.columns.length : Int) == 2)) && (((idx x28_24.columns 0).getD default) == ((idx x28_24.columns 1).getD default))) && (x28_24.first == t1.first)) && (((idx t0.sorts ((idx x28_24.columns 0).getD default)).getD default) == t1.size)) = true then
   some true
  else
   rec_23 (add64 x5_22 1)
 else
  some false
noncomputable def ref13_graph (n : Nat) (t0 : Model) (t1 : Constraint) : Option Bool :=
 if ((decide (0 < (t1.row.terms.length : Int))) || (t1.row.bound != 0)) = true then
  some false
 else
  loopF (ref13_graph.l1 n t0 t1) n 0
noncomputable def ref13_constraints.l2 (n : Nat) (t0 : Model) (x11_1 : List Range) (rec_51 : Int → Option Bool) (s : Int) : Option Bool :=
 let x7_50 := s
 if (decide (x7_50 < (t0.constraints.length : Int))) = true then
  (idx t0.constraints x7_50).bind fun x83_52 =>
  if ((decide (x83_52.family < 0)) || (decide ((t0.families.length : Int) ≤ x83_52.family))) = true then
   some false
  else
   grd (!(((x83_52.kind == 0) && (x83_52.first == 0)) && (x83_52.size == 0)) || (ref13_row n x83_52.row (x11_1.length : Int)).isSome) <|
   grd (!(!((((x83_52.kind == 0) && (x83_52.first == 0)) && (x83_52.size == 0)) && ((ref13_row n x83_52.row (x11_1.length : Int)).getD default))) || (!((decide (mul64 2 (x11_1.length : Int) ≤ x7_50)) && (x83_52.kind == 1)) || (ref13_graph n t0 x83_52).isSome)) <|
   if ((!((((x83_52.kind == 0) && (x83_52.first == 0)) && (x83_52.size == 0)) && ((ref13_row n x83_52.row (x11_1.length : Int)).getD default))) && (!(((decide (mul64 2 (x11_1.length : Int) ≤ x7_50)) && (x83_52.kind == 1)) && ((ref13_graph n t0 x83_52).getD default)))) = true then
    some false
   else
    rec_51 (add64 x7_50 1)
 else
  some true
noncomputable def ref13_constraints.l1 (n : Nat) (t0 : Model) (x11_1 : List Range) (rec_20 : Int → Option Bool) (s : Int) : Option Bool :=
 let x4_19 := s
 if (decide (x4_19 < (x11_1.length : Int))) = true then
  (idx x11_1 x4_19).bind fun x36_21 =>
  (idx x11_1 x4_19).bind fun x46_22 =>
  (idx t0.constraints (mul64 2 x4_19)).bind fun x54_23 =>
  (ref11_SameRow n x54_23.row (⟨[(⟨x4_19, (-1)⟩ : Term)], neg64 x36_21.lo⟩ : Row)).bind fun x58_24 =>
  grd ((!x58_24) || (idx t0.constraints (add64 (mul64 2 x4_19) 1)).isSome) <|
  grd ((!x58_24) || (ref11_SameRow n (((idx t0.constraints (add64 (mul64 2 x4_19) 1)).getD default).row) (⟨[(⟨x4_19, 1⟩ : Term)], x46_22.hi⟩ : Row)).isSome) <|
  if ((!x58_24) || (!((ref11_SameRow n (((idx t0.constraints (add64 (mul64 2 x4_19) 1)).getD default).row) (⟨[(⟨x4_19, 1⟩ : Term)], x46_22.hi⟩ : Row)).getD default))) = true then
   some false
  else
   rec_20 (add64 x4_19 1)
 else
  loopF (ref13_constraints.l2 n t0 x11_1) n 0
noncomputable def ref13_constraints (n : Nat) (t0 : Model) : Option Bool :=
 (ref13_strict n t0).bind fun x11_1 =>
 if ((decide ((t0.constraints.length : Int) < mul64 2 (x11_1.length : Int))) || (decide (512 < (t0.constraints.length : Int)))) = true then
  some false
 else
  loopF (ref13_constraints.l1 n t0 x11_1) n 0
noncomputable def ref13_less.l1 (n : Nat) (t0 : List Int) (t1 : List Int) (rec_14 : Int → Option Bool) (s : Int) : Option Bool :=
 let x5_13 := s
 if ((decide (x5_13 < (t0.length : Int))) && (decide (x5_13 < (t1.length : Int)))) = true then
  (idx t0 x5_13).bind fun x20_16 =>
  (idx t1 x5_13).bind fun x24_17 =>
  if (x20_16 != x24_17) = true then
   (idx t0 x5_13).bind fun x29_18 =>
   (idx t1 x5_13).bind fun x33_19 =>
   some (decide (x29_18 < x33_19))
  else
   rec_14 (add64 x5_13 1)
 else
  some (decide ((t0.length : Int) < (t1.length : Int)))
noncomputable def ref13_less (n : Nat) (t0 : List Int) (t1 : List Int) : Option Bool :=
 loopF (ref13_less.l1 n t0 t1) n 0
noncomputable def ref09_nth.l1 (n : Nat) (t0 : List Int) (t1 : List Int) (rec_27 : ((List Int) × Int × Int) → Option (List Int)) (s : (List Int) × Int × Int) : Option (List Int) :=
 let b0_24 := s.1
 let x2_25 := s.2.1
 let x8_26 := s.2.2
 if (decide (0 ≤ x8_26)) = true then
  (idx t1 x8_26).bind fun x25_28 =>
  (idx t0 x25_28).bind fun x27_29 =>
  (rem64 x2_25 x27_29).bind fun x29_30 =>
  (idx b0_24 x8_26).bind fun x30_31 =>
  (sto b0_24 x8_26 x29_30).bind fun b0_32 =>
  (idx t1 x8_26).bind fun x35_33 =>
  (idx t0 x35_33).bind fun x37_34 =>
  (quo64 x2_25 x37_34).bind fun x39_35 =>
  rec_27 (b0_32, x39_35, sub64 x8_26 1)
 else
  some b0_24
noncomputable def ref09_nth (n : Nat) (t0 : List Int) (t1 : List Int) (t2 : Int) : Option (List Int) :=
 (mkl 8 (t1.length : Int) (0 : Int)).bind fun x11_1 =>
 loopF (ref09_nth.l1 n t0 t1) n (x11_1, t2, sub64 (t1.length : Int) 1)
noncomputable def ref09_Tuple.l1 (n : Nat) (t0 : List Int) (t1 : List Table) (t2 : Bool) (t3 : Int) (rec_25 : Int → Option (Int × (List Int) × Bool)) (s : Int) : Option (Int × (List Int) × Bool) :=
 let x11_24 := s
 if (decide (x11_24 < (t1.length : Int))) = true then
  (idx t1 x11_24).bind fun x26_26 =>
  (idx t1 x11_24).bind fun x32_27 =>
  (ref09_strict n x32_27.kind).bind fun x35_28 =>
  grd (!(((x35_28 == t2) && (decide (0 ≤ t3))) && (decide (0 ≤ sub64 t3 x26_26.first))) || (idx t1 x11_24).isSome) <|
  grd (!(((x35_28 == t2) && (decide (0 ≤ t3))) && (decide (0 ≤ sub64 t3 x26_26.first))) || (ref09_number n t0 (((idx t1 x11_24).getD default).columns)).isSome) <|
  if ((((x35_28 == t2) && (decide (0 ≤ t3))) && (decide (0 ≤ sub64 t3 x26_26.first))) && (decide (sub64 t3 x26_26.first < ((ref09_number n t0 (((idx t1 x11_24).getD default).columns)).getD default)))) = true then
   (idx t1 x11_24).bind fun x61_34 =>
   (ref09_nth n t0 x61_34.columns (sub64 t3 x26_26.first)).bind fun x65_35 =>
   some (x11_24, x65_35, true)
  else
   rec_25 (add64 x11_24 1)
 else
  some (0, [], false)
noncomputable def ref09_Tuple (n : Nat) (t0 : List Int) (t1 : List Table) (t2 : Bool) (t3 : Int) : Option (Int × (List Int) × Bool) :=
 (ref09_Valid n t0 t1).bind fun x15_1 =>
 if (!x15_1) = true then
  some (0, [], false)
 else
  loopF (ref09_Tuple.l1 n t0 t1 t2 t3) n 0
noncomputable def ref13_set (n : Nat) (t0 : Int) : Option Bool :=
 some ((t0 == 2) || (t0 == 3))
noncomputable def ref13_effect.l3 (n : Nat) (t0 : Model) (t1 : Effect) (rec_71 : Int → Option Bool) (s : Int) : Option Bool :=
 let x9_70 := s
 if (decide (x9_70 < (t1.updates.length : Int))) = true then
  (idx t1.updates x9_70).bind fun x91_72 =>
  (ref09_Tuple n t0.sorts t0.tables false x91_72.cell).bind fun x100_73 =>
  grd ((!x100_73.2.2) || (!(decide (0 < x9_70)) || (idx t1.updates (sub64 x9_70 1)).isSome)) <|
  if ((!x100_73.2.2) || ((decide (0 < x9_70)) && (decide (x91_72.cell ≤ ((idx t1.updates (sub64 x9_70 1)).getD default).cell)))) = true then
   some false
  else
   (idx t0.tables x100_73.1).bind fun x125_77 =>
   (ref13_set n x125_77.kind).bind fun x129_78 =>
   if (x129_78 && (((x91_72.kind != 0) && (x91_72.kind != 1)) || (x91_72.value != 0))) = true then
    some false
   else
    (ref13_set n x125_77.kind).bind fun x147_82 =>
    if ((!x147_82) && (((x91_72.kind != 2) || (decide (x91_72.value < x125_77.range.lo))) || (decide (x125_77.range.hi < x91_72.value)))) = true then
     some false
    else
     rec_71 (add64 x9_70 1)
 else
  some ((decide ((t1.hold.length : Int) ≤ 8)) && (decide ((t1.updates.length : Int) ≤ 32)))
noncomputable def ref13_effect.l2 (n : Nat) (t0 : Model) (t1 : Effect) (x16_1 : List Range) (rec_37 : Int → Option Bool) (s : Int) : Option Bool :=
 let x8_36 := s
 if (decide (x8_36 < (t1.hold.length : Int))) = true then
  (idx t1.hold x8_36).bind fun x76_38 =>
  (ref13_row n x76_38 (x16_1.length : Int)).bind fun x79_39 =>
  if (!x79_39) = true then
   some false
  else
   rec_37 (add64 x8_36 1)
 else
  loopF (ref13_effect.l3 n t0 t1) n 0
noncomputable def ref13_effect.l1 (n : Nat) (t0 : Model) (t1 : Effect) (x16_1 : List Range) (rec_21 : Int → Option Bool) (s : Int) : Option Bool :=
 let x6_20 := s
 if (decide (x6_20 < (t1.delta.length : Int))) = true then
  (idx t1.delta x6_20).bind fun x28_22 =>
  grd (((decide (x28_22.cell < 0)) || (decide ((x16_1.length : Int) ≤ x28_22.cell))) || (!(decide (0 < x6_20)) || (idx t1.delta (sub64 x6_20 1)).isSome)) <|
  grd (((((decide (x28_22.cell < 0)) || (decide ((x16_1.length : Int) ≤ x28_22.cell))) || ((decide (0 < x6_20)) && (decide (x28_22.cell ≤ ((idx t1.delta (sub64 x6_20 1)).getD default).cell)))) || (x28_22.add == 0)) || (ref13_between n x28_22.add 1000000000).isSome) <|
  if (((((decide (x28_22.cell < 0)) || (decide ((x16_1.length : Int) ≤ x28_22.cell))) || ((decide (0 < x6_20)) && (decide (x28_22.cell ≤ ((idx t1.delta (sub64 x6_20 1)).getD default).cell)))) || (x28_22.add == 0)) || (!((ref13_between n x28_22.add 1000000000).getD default))) = true then
   some false
  else
   rec_21 (add64 x6_20 1)
 else
  loopF (ref13_effect.l2 n t0 t1 x16_1) n 0
noncomputable def ref13_effect (n : Nat) (t0 : Model) (t1 : Effect) : Option Bool :=
 (ref13_strict n t0).bind fun x16_1 =>
 loopF (ref13_effect.l1 n t0 t1 x16_1) n 0
noncomputable def ref13_actions.l4 (n : Nat) (t0 : Model) (x7_152 : Int) (rec_153 : Int → Option Bool) (x83_154 : Action) (rec_183 : Int → Option Bool) (s : Int) : Option Bool :=
 let x9_182 := s
 if (decide (x9_182 < (x83_154.arguments.length : Int))) = true then
  (idx t0.operations x83_154.operation).bind fun x121_184 =>
  (idx x121_184.sorts x9_182).bind fun x125_185 =>
  grd (!(decide (x125_185 < 0)) || (idx x83_154.arguments x9_182).isSome) <|
  grd (!(decide (x125_185 < 0)) || (ref13_between n ((idx x83_154.arguments x9_182).getD default) 9999).isSome) <|
  grd (((decide (x125_185 < 0)) && (!((ref13_between n ((idx x83_154.arguments x9_182).getD default) 9999).getD default))) || (!(decide (0 ≤ x125_185)) || (idx x83_154.arguments x9_182).isSome)) <|
  grd (((decide (x125_185 < 0)) && (!((ref13_between n ((idx x83_154.arguments x9_182).getD default) 9999).getD default))) || (!(decide (0 ≤ x125_185)) || ((decide (((idx x83_154.arguments x9_182).getD default) < 0)) || (idx x83_154.arguments x9_182).isSome))) <|
  grd (((decide (x125_185 < 0)) && (!((ref13_between n ((idx x83_154.arguments x9_182).getD default) 9999).getD default))) || (!(decide (0 ≤ x125_185)) || ((decide (((idx x83_154.arguments x9_182).getD default) < 0)) || (idx t0.sorts x125_185).isSome))) <|
  if (((decide (x125_185 < 0)) && (!((ref13_between n ((idx x83_154.arguments x9_182).getD default) 9999).getD default))) || ((decide (0 ≤ x125_185)) && ((decide (((idx x83_154.arguments x9_182).getD default) < 0)) || (decide (((idx t0.sorts x125_185).getD default) ≤ ((idx x83_154.arguments x9_182).getD default)))))) = true then
   some false
  else
   rec_183 (add64 x9_182 1)
 else
  jn (fun (v : Unit) =>
   (ref13_effect n t0 x83_154.effect).bind fun x194_200 =>
   if (!x194_200) = true then
    some false
   else
    rec_153 (add64 x7_152 1)) fun k_195 =>
  if (decide (0 < x7_152)) = true then
   (idx t0.actions (sub64 x7_152 1)).bind fun x169_196 =>
   grd ((decide (x83_154.operation < x169_196.operation)) || (!(x169_196.operation == x83_154.operation) || (ref13_less n x169_196.arguments x83_154.arguments).isSome)) <|
   if ((decide (x83_154.operation < x169_196.operation)) || ((x169_196.operation == x83_154.operation) && (!((ref13_less n x169_196.arguments x83_154.arguments).getD default)))) = true then
    some false
   else
    k_195 ()
  else
   k_195 ()
noncomputable def ref13_actions.l3 (n : Nat) (t0 : Model) (rec_153 : Int → Option Bool) (s : Int) : Option Bool :=
 let x7_152 := s
 if (decide (x7_152 < (t0.actions.length : Int))) = true then
  (idx t0.actions x7_152).bind fun x83_154 =>
  grd (((decide (x83_154.operation < 0)) || (decide ((t0.operations.length : Int) ≤ x83_154.operation))) || (idx t0.operations x83_154.operation).isSome) <|
  if (((decide (x83_154.operation < 0)) || (decide ((t0.operations.length : Int) ≤ x83_154.operation))) || ((x83_154.arguments.length : Int) != ((((idx t0.operations x83_154.operation).getD default).sorts).length : Int))) = true then
   some false
  else
   loopF (ref13_actions.l4 n t0 x7_152 rec_153 x83_154) n 0
 else
  some true
noncomputable def ref13_actions.l2 (n : Nat) (t0 : Model) (x4_36 : Int) (rec_37 : ((List (List UInt8)) × Int) → Option Bool) (x23_38 : Operation) (x29_39 : List (List UInt8)) (rec_49 : Int → Option Bool) (s : Int) : Option Bool :=
 let x6_48 := s
 if (decide (x6_48 < (x23_38.sorts.length : Int))) = true then
  (idx x23_38.sorts x6_48).bind fun x40_50 =>
  grd ((decide (x40_50 < (-1))) || (idx x23_38.sorts x6_48).isSome) <|
  if ((decide (x40_50 < (-1))) || (decide ((t0.sorts.length : Int) ≤ ((idx x23_38.sorts x6_48).getD default)))) = true then
   some false
  else
   rec_49 (add64 x6_48 1)
 else
  if (decide (3 < (x23_38.sorts.length : Int))) = true then
   some false
  else
   rec_37 (x29_39, add64 x4_36 1)
noncomputable def ref13_actions.l1 (n : Nat) (t0 : Model) (rec_37 : ((List (List UInt8)) × Int) → Option Bool) (s : (List (List UInt8)) × Int) : Option Bool :=
 let b0_35 := s.1
 let x4_36 := s.2
 if (decide (x4_36 < (t0.operations.length : Int))) = true then
  (idx t0.operations x4_36).bind fun x23_38 =>
  (app 16 b0_35 [x23_38.name]).bind fun x29_39 =>
  loopF (ref13_actions.l2 n t0 x4_36 rec_37 x23_38 x29_39) n 0
 else
  grd ((decide (8 < (t0.operations.length : Int))) || (ref13_distinct n b0_35).isSome) <|
  if (((decide (8 < (t0.operations.length : Int))) || (!((ref13_distinct n b0_35).getD default))) || (decide (256 < (t0.actions.length : Int)))) = true then
   some false
  else
   loopF (ref13_actions.l3 n t0) n 0
noncomputable def ref13_actions (n : Nat) (t0 : Model) : Option Bool :=
 loopF (ref13_actions.l1 n t0) n (([] : List (List UInt8)), 0)
noncomputable def ref13_leads.l1 (n : Nat) (self : Model → Int → Int → Int → Option Bool) (t0 : Model) (t1 : Int) (t2 : Int) (t3 : Int) (rec_14 : Int → Option Bool) (s : Int) : Option Bool :=
 let x9_13 := s
 if ((decide (x9_13 < (t0.hides.length : Int))) && (decide (0 < t3))) = true then
  (idx t0.hides x9_13).bind fun x27_16 =>
  grd (!(x27_16.table == t1) || (idx t0.hides x9_13).isSome) <|
  grd (!(x27_16.table == t1) || (self t0 (((idx t0.hides x9_13).getD default).to) t2 (sub64 t3 1)).isSome) <|
  if ((x27_16.table == t1) && ((self t0 (((idx t0.hides x9_13).getD default).to) t2 (sub64 t3 1)).getD default)) = true then
   some true
  else
   rec_14 (add64 x9_13 1)
 else
  some false
noncomputable def ref13_leads.body (n : Nat) (self : Model → Int → Int → Int → Option Bool) (t0 : Model) (t1 : Int) (t2 : Int) (t3 : Int) : Option Bool :=
 if (t1 == t2) = true then
  some true
 else
  loopF (ref13_leads.l1 n self t0 t1 t2 t3) n 0
noncomputable def ref13_leads : Nat → Model → Int → Int → Int → Option Bool
 | 0, _, _, _, _ => none
 | n + 1, t0, t1, t2, t3 => ref13_leads.body n (ref13_leads n) t0 t1 t2 t3
noncomputable def ref13_hidden.l2 (n : Nat) (t0 : Model) (rec_56 : Int → Option Bool) (s : Int) : Option Bool :=
 let x7_55 := s
 if (decide (x7_55 < (t0.hides.length : Int))) = true then
  (idx t0.hides x7_55).bind fun x118_57 =>
  (idx t0.hides x7_55).bind fun x124_58 =>
  (ref13_leads n t0 x118_57.to x124_58.table (t0.tables.length : Int)).bind fun x130_59 =>
  if x130_59 = true then
   some false
  else
   rec_56 (add64 x7_55 1)
 else
  some true
noncomputable def ref13_hidden.l1 (n : Nat) (t0 : Model) (rec_32 : Int → Option Bool) (s : Int) : Option Bool :=
 let x3_31 := s
 if (decide (x3_31 < (t0.hides.length : Int))) = true then
  (idx t0.hides x3_31).bind fun x22_33 =>
  if (((((decide (x22_33.table < 0)) || (decide ((t0.tables.length : Int) ≤ x22_33.table))) || (decide (x22_33.to < 0))) || (decide ((t0.tables.length : Int) ≤ x22_33.to))) || (x22_33.table == x22_33.to)) = true then
   some false
  else
   (idx t0.tables x22_33.table).bind fun x59_38 =>
   (idx t0.tables x22_33.to).bind fun x65_39 =>
   grd ((((((x59_38.kind != 0) || (x65_39.kind != 0)) || (decide (x22_33.column < 0))) || (decide ((x59_38.columns.length : Int) ≤ x22_33.column))) || ((x65_39.columns.length : Int) != 1)) || (idx x65_39.columns 0).isSome) <|
   grd ((((((x59_38.kind != 0) || (x65_39.kind != 0)) || (decide (x22_33.column < 0))) || (decide ((x59_38.columns.length : Int) ≤ x22_33.column))) || ((x65_39.columns.length : Int) != 1)) || (idx x59_38.columns x22_33.column).isSome) <|
   if ((((((x59_38.kind != 0) || (x65_39.kind != 0)) || (decide (x22_33.column < 0))) || (decide ((x59_38.columns.length : Int) ≤ x22_33.column))) || ((x65_39.columns.length : Int) != 1)) || (((idx x65_39.columns 0).getD default) != ((idx x59_38.columns x22_33.column).getD default))) = true then
    some false
   else
    rec_32 (add64 x3_31 1)
 else
  loopF (ref13_hidden.l2 n t0) n 0
noncomputable def ref13_hidden (n : Nat) (t0 : Model) : Option Bool :=
 if (decide (12 < (t0.hides.length : Int))) = true then
  some false
 else
  loopF (ref13_hidden.l1 n t0) n 0
noncomputable def ref13_Valid (n : Nat) (t0 : Model) : Option Bool :=
 (ref09_Valid n t0.sorts t0.tables).bind fun x7_1 =>
 grd (((!x7_1) || (decide (24 < (t0.families.length : Int)))) || (ref13_distinct n t0.families).isSome) <|
 if (((!x7_1) || (decide (24 < (t0.families.length : Int)))) || (!((ref13_distinct n t0.families).getD default))) = true then
  some false
 else
  (ref13_constraints n t0).bind fun x22_5 =>
  grd (!x22_5 || (ref13_actions n t0).isSome) <|
  grd (!(x22_5 && ((ref13_actions n t0).getD default)) || (ref13_hidden n t0).isSome) <|
  some ((x22_5 && ((ref13_actions n t0).getD default)) && ((ref13_hidden n t0).getD default))
noncomputable def ref22_Add.l1 (n : Nat) (t0 : Effect) (t1 : Int) (rec_15 : (Int × Int) → Option Int) (s : Int × Int) : Option Int :=
 let x5_13 := s.1
 let x6_14 := s.2
 if (decide (x6_14 < (t0.delta.length : Int))) = true then
  jn (fun (v : Int) =>
   let x5_16 := v
   rec_15 (x5_16, add64 x6_14 1)) fun k_17 =>
  (idx t0.delta x6_14).bind fun x17_18 =>
  if (x17_18.cell == t1) = true then
   (idx t0.delta x6_14).bind fun x26_19 =>
   k_17 (add64 x5_13 x26_19.add)
  else
   k_17 x5_13
 else
  some x5_13
noncomputable def ref22_Add (n : Nat) (t0 : Effect) (t1 : Int) : Option Int :=
 loopF (ref22_Add.l1 n t0 t1) n (0, 0)
noncomputable def ref22_Sum.l1 (n : Nat) (t0 : Effect) (t1 : Row) (rec_13 : (Int × Int) → Option Int) (s : Int × Int) : Option Int :=
 let x5_11 := s.1
 let x6_12 := s.2
 if (decide (x6_12 < (t1.terms.length : Int))) = true then
  (idx t1.terms x6_12).bind fun x18_14 =>
  (idx t1.terms x6_12).bind fun x25_15 =>
  (ref22_Add n t0 x25_15.cell).bind fun x28_16 =>
  rec_13 (add64 x5_11 (mul64 x18_14.factor x28_16), add64 x6_12 1)
 else
  some x5_11
noncomputable def ref22_Sum (n : Nat) (t0 : Effect) (t1 : Row) : Option Int :=
 loopF (ref22_Sum.l1 n t0 t1) n (0, 0)
noncomputable def ref16_Valid (n : Nat) (t0 : Model) (t1 : Question) : Option Bool :=
 (ref13_Valid n t0).bind fun x6_1 =>
 if ((((((!x6_1) || (decide (t1.e < 0))) || (decide (t1.f < 0))) || (decide ((t0.actions.length : Int) ≤ t1.e))) || (decide ((t0.actions.length : Int) ≤ t1.f))) || (decide (t1.target.index < 0))) = true then
  some false
 else
  if t1.target.hold = true then
   (idx t0.actions t1.e).bind fun x50_7 =>
   some (decide (t1.target.index < (x50_7.effect.hold.length : Int)))
  else
   some ((decide (t1.e ≤ t1.f)) && (decide (t1.target.index < (t0.constraints.length : Int))))
noncomputable def ref22_raises.l1 (n : Nat) (t0 : Effect) (t1 : Constraint) (rec_6 : Int → Option Bool) (s : Int) : Option Bool :=
 let x5_5 := s
 if (decide (x5_5 < mul64 t1.size t1.size)) = true then
  (ref22_Add n t0 (add64 t1.first x5_5)).bind fun x20_7 =>
  if (decide (0 < x20_7)) = true then
   some true
  else
   rec_6 (add64 x5_5 1)
 else
  some false
noncomputable def ref22_raises (n : Nat) (t0 : Effect) (t1 : Constraint) : Option Bool :=
 loopF (ref22_raises.l1 n t0 t1) n 0
noncomputable def ref22_open (n : Nat) (t0 : Model) (t1 : Question) : Option Bool :=
 (idx t0.actions t1.e).bind fun x12_1 =>
 (idx t0.actions t1.f).bind fun x19_2 =>
 if t1.target.hold = true then
  (idx x12_1.effect.hold t1.target.index).bind fun x31_3 =>
  (ref22_Sum n x19_2.effect x31_3).bind fun x33_4 =>
  some (decide (0 < x33_4))
 else
  (idx t0.constraints t1.target.index).bind fun x40_5 =>
  if (x40_5.kind == 1) = true then
   (ref22_raises n x12_1.effect x40_5).bind fun x47_6 =>
   grd (!x47_6 || (ref22_raises n x19_2.effect x40_5).isSome) <|
   some (x47_6 && ((ref22_raises n x19_2.effect x40_5).getD default))
  else
   (ref22_Sum n x12_1.effect x40_5.row).bind fun x56_9 =>
   grd (!(decide (0 < x56_9)) || (ref22_Sum n x19_2.effect x40_5.row).isSome) <|
   some ((decide (0 < x56_9)) && (decide (0 < ((ref22_Sum n x19_2.effect x40_5.row).getD default))))
noncomputable def ref16_Strict (n : Nat) (t0 : Int) : Option Bool :=
 some ((t0 == 0) || (t0 == 1))
noncomputable def ref16_Cells.l1 (n : Nat) (t0 : Model) (t1 : Table) (rec_11 : (Int × Int) → Option Int) (s : Int × Int) : Option Int :=
 let x5_9 := s.1
 let x6_10 := s.2
 if (decide (x6_10 < (t1.columns.length : Int))) = true then
  (idx t1.columns x6_10).bind fun x20_12 =>
  (idx t0.sorts x20_12).bind fun x22_13 =>
  rec_11 (mul64 x5_9 x22_13, add64 x6_10 1)
 else
  some x5_9
noncomputable def ref16_Cells (n : Nat) (t0 : Model) (t1 : Table) : Option Int :=
 loopF (ref16_Cells.l1 n t0 t1) n (1, 0)
noncomputable def ref22_Box.l2 (n : Nat) (t0 : Model) (x4_52 : Int) (k_55 : ((List Range)) → Option (List Range)) (rec_72 : ((List Range) × Int) → Option (List Range)) (s : (List Range) × Int) : Option (List Range) :=
 let b0_70 := s.1
 let x5_71 := s.2
 (idx t0.tables x4_52).bind fun x26_73 =>
 (ref16_Cells n t0 x26_73).bind fun x28_74 =>
 if (decide (x5_71 < x28_74)) = true then
  (idx t0.tables x4_52).bind fun x36_75 =>
  (app 16 b0_70 [x36_75.range]).bind fun x40_76 =>
  rec_72 (x40_76, add64 x5_71 1)
 else
  k_55 b0_70
noncomputable def ref22_Box.l1 (n : Nat) (t0 : Model) (rec_53 : ((List Range) × Int) → Option (List Range)) (s : (List Range) × Int) : Option (List Range) :=
 let b0_51 := s.1
 let x4_52 := s.2
 if (decide (x4_52 < (t0.tables.length : Int))) = true then
  jn (fun (v : (List Range)) =>
   let b0_54 := v
   rec_53 (b0_54, add64 x4_52 1)) fun k_55 =>
  (idx t0.tables x4_52).bind fun x17_56 =>
  (ref16_Strict n x17_56.kind).bind fun x20_57 =>
  if x20_57 = true then
   loopF (ref22_Box.l2 n t0 x4_52 k_55) n (b0_51, 0)
  else
   k_55 b0_51
 else
  some b0_51
noncomputable def ref22_Box (n : Nat) (t0 : Model) : Option (List Range) :=
 loopF (ref22_Box.l1 n t0) n (([] : List Range), 0)
noncomputable def ref17_inside (n : Nat) (t0 : Int) (t1 : Int) (t2 : Int) : Option Bool :=
 some ((decide (t1 ≤ t0)) && (decide (t0 ≤ t2)))
noncomputable def ref17_Row.l1 (n : Nat) (t0 : Row) (t1 : Int) (rec_17 : (Int × Int) → Option Bool) (s : Int × Int) : Option Bool :=
 let x5_15 := s.1
 let x6_16 := s.2
 if (decide (x6_16 < (t0.terms.length : Int))) = true then
  (idx t0.terms x6_16).bind fun x18_18 =>
  grd ((((decide (x18_18.cell ≤ x5_15)) || (decide (t1 ≤ x18_18.cell))) || (x18_18.factor == 0)) || (ref17_inside n x18_18.factor (-1000) 1000).isSome) <|
  if ((((decide (x18_18.cell ≤ x5_15)) || (decide (t1 ≤ x18_18.cell))) || (x18_18.factor == 0)) || (!((ref17_inside n x18_18.factor (-1000) 1000).getD default))) = true then
   some false
  else
   rec_17 (x18_18.cell, add64 x6_16 1)
 else
  (ref17_inside n t0.bound (-1000000000) 1000000000).bind fun x45_23 =>
  some x45_23
noncomputable def ref17_Row (n : Nat) (t0 : Row) (t1 : Int) : Option Bool :=
 loopF (ref17_Row.l1 n t0 t1) n ((-1), 0)
noncomputable def ref17_Valid.l2 (n : Nat) (t0 : List Range) (t1 : List Row) (rec_27 : Int → Option Bool) (s : Int) : Option Bool :=
 let x6_26 := s
 if (decide (x6_26 < (t1.length : Int))) = true then
  (idx t1 x6_26).bind fun x40_28 =>
  (ref17_Row n x40_28 (t0.length : Int)).bind fun x44_29 =>
  if (!x44_29) = true then
   some false
  else
   rec_27 (add64 x6_26 1)
 else
  some true
noncomputable def ref17_Valid.l1 (n : Nat) (t0 : List Range) (t1 : List Row) (rec_14 : Int → Option Bool) (s : Int) : Option Bool :=
 let x5_13 := s
 if (decide (x5_13 < (t0.length : Int))) = true then
  (idx t0 x5_13).bind fun x18_15 =>
  (ref17_inside n x18_15.lo (-1000000) 1000000).bind fun x21_16 =>
  grd ((!x21_16) || (idx t0 x5_13).isSome) <|
  grd ((!x21_16) || (ref17_inside n (((idx t0 x5_13).getD default).hi) (-1000000) 1000000).isSome) <|
  if ((!x21_16) || (!((ref17_inside n (((idx t0 x5_13).getD default).hi) (-1000000) 1000000).getD default))) = true then
   some false
  else
   rec_14 (add64 x5_13 1)
 else
  loopF (ref17_Valid.l2 n t0 t1) n 0
noncomputable def ref17_Valid (n : Nat) (t0 : List Range) (t1 : List Row) : Option Bool :=
 if (decide (128 < (t0.length : Int))) = true then
  some false
 else
  loopF (ref17_Valid.l1 n t0 t1) n 0
noncomputable def ref17_Contains.l1 (n : Nat) (t0 : List Range) (t1 : List Int) (rec_12 : Int → Option Bool) (s : Int) : Option Bool :=
 let x5_11 := s
 if (decide (x5_11 < (t0.length : Int))) = true then
  (idx t1 x5_11).bind fun x19_13 =>
  (idx t0 x5_11).bind fun x23_14 =>
  (idx t0 x5_11).bind fun x28_15 =>
  (ref17_inside n x19_13 x23_14.lo x28_15.hi).bind fun x31_16 =>
  if (!x31_16) = true then
   some false
  else
   rec_12 (add64 x5_11 1)
 else
  some true
noncomputable def ref17_Contains (n : Nat) (t0 : List Range) (t1 : List Int) : Option Bool :=
 if ((t0.length : Int) != (t1.length : Int)) = true then
  some false
 else
  loopF (ref17_Contains.l1 n t0 t1) n 0
noncomputable def ref16_Total.l1 (n : Nat) (t0 : Model) (rec_19 : (Int × Int) → Option Int) (s : Int × Int) : Option Int :=
 let x3_17 := s.1
 let x4_18 := s.2
 if (decide (x4_18 < (t0.tables.length : Int))) = true then
  jn (fun (v : Int) =>
   let x3_20 := v
   rec_19 (x3_20, add64 x4_18 1)) fun k_21 =>
  (idx t0.tables x4_18).bind fun x15_22 =>
  (ref16_Strict n x15_22.kind).bind fun x18_23 =>
  if x18_23 = true then
   (idx t0.tables x4_18).bind fun x24_24 =>
   (ref16_Cells n t0 x24_24).bind fun x26_25 =>
   k_21 (add64 x3_17 x26_25)
  else
   k_21 x3_17
 else
  some x3_17
noncomputable def ref16_Total (n : Nat) (t0 : Model) : Option Int :=
 loopF (ref16_Total.l1 n t0) n (0, 0)
noncomputable def ref22_Plus.l1 (n : Nat) (t0 : List Int) (t1 : Effect) (rec_13 : ((List Int) × Int) → Option (List Int)) (s : (List Int) × Int) : Option (List Int) :=
 let b0_11 := s.1
 let x6_12 := s.2
 if (decide (x6_12 < (t0.length : Int))) = true then
  (idx t0 x6_12).bind fun x17_14 =>
  (ref22_Add n t1 x6_12).bind fun x21_15 =>
  (app 8 b0_11 [add64 x17_14 x21_15]).bind fun x24_16 =>
  rec_13 (x24_16, add64 x6_12 1)
 else
  some b0_11
noncomputable def ref22_Plus (n : Nat) (t0 : List Int) (t1 : Effect) : Option (List Int) :=
 loopF (ref22_Plus.l1 n t0 t1) n (([] : List Int), 0)
noncomputable def ref12_inside.l1 (n : Nat) (t0 : Constraint) (t1 : Int) (rec_13 : Int → Option Bool) (s : Int) : Option Bool :=
 let x5_12 := s
 if (decide (x5_12 < (t0.row.terms.length : Int))) = true then
  (idx t0.row.terms x5_12).bind fun x46_14 =>
  grd ((decide (x46_14.cell < 0)) || (idx t0.row.terms x5_12).isSome) <|
  if ((decide (x46_14.cell < 0)) || (decide (t1 ≤ ((idx t0.row.terms x5_12).getD default).cell))) = true then
   some false
  else
   rec_13 (add64 x5_12 1)
 else
  some (t0.kind == 0)
noncomputable def ref12_inside (n : Nat) (t0 : Constraint) (t1 : Int) : Option Bool :=
 if (t0.kind == 1) = true then
  some ((((decide (1 ≤ t0.size)) && (decide (t0.size ≤ 6))) && (decide (0 ≤ t0.first))) && (decide (t0.first ≤ sub64 t1 (mul64 t0.size t0.size))))
 else
  loopF (ref12_inside.l1 n t0 t1) n 0
noncomputable def ref12_edge (n : Nat) (t0 : Constraint) (t1 : List Int) (t2 : Int) (t3 : Int) : Option Bool :=
 (idx t1 (add64 (add64 t0.first (mul64 t2 t0.size)) t3)).bind fun x19_1 =>
 some (decide (1 ≤ x19_1))
noncomputable def ref12_has.l1 (n : Nat) (t0 : List Int) (t1 : Int) (rec_6 : Int → Option Bool) (s : Int) : Option Bool :=
 let x5_5 := s
 if (decide (x5_5 < (t0.length : Int))) = true then
  (idx t0 x5_5).bind fun x14_7 =>
  if (x14_7 == t1) = true then
   some true
  else
   rec_6 (add64 x5_5 1)
 else
  some false
noncomputable def ref12_has (n : Nat) (t0 : List Int) (t1 : Int) : Option Bool :=
 loopF (ref12_has.l1 n t0 t1) n 0
noncomputable def ref12_paths.l1 (n : Nat) (self : Constraint → (List Int) → (List Int) → Int → Option (List (List Int))) (t0 : Constraint) (t1 : List Int) (t2 : List Int) (t3 : Int) (x16_1 : Int) (rec_29 : ((List (List Int)) × Int) → Option (List (List Int))) (s : (List (List Int)) × Int) : Option (List (List Int)) :=
 let b0_27 := s.1
 let x11_28 := s.2
 if (decide (x11_28 < t0.size)) = true then
  jn (fun (v : (List (List Int))) =>
   let b0_30 := v
   rec_29 (b0_30, add64 x11_28 1)) fun k_31 =>
  (ref12_has n t2 x11_28).bind fun x44_32 =>
  grd (x44_32 || (ref12_edge n t0 t1 x16_1 x11_28).isSome) <|
  if (x44_32 || (!((ref12_edge n t0 t1 x16_1 x11_28).getD default))) = true then
   k_31 b0_27
  else
   (app 8 ([] : List Int) t2).bind fun x58_35 =>
   (app 8 x58_35 [x11_28]).bind fun x61_36 =>
   (self t0 t1 x61_36 t3).bind fun x63_37 =>
   (app 24 b0_27 x63_37).bind fun x64_38 =>
   k_31 x64_38
 else
  some b0_27
noncomputable def ref12_paths.body (n : Nat) (self : Constraint → (List Int) → (List Int) → Int → Option (List (List Int))) (t0 : Constraint) (t1 : List Int) (t2 : List Int) (t3 : Int) : Option (List (List Int)) :=
 (idx t2 (sub64 (t2.length : Int) 1)).bind fun x16_1 =>
 if ((t2.length : Int) == t3) = true then
  (idx t2 0).bind fun x26_2 =>
  (ref12_edge n t0 t1 x16_1 x26_2).bind fun x28_3 =>
  if x28_3 = true then
   some [t2]
  else
   some []
 else
  (idx t2 0).bind fun x33_4 =>
  loopF (ref12_paths.l1 n self t0 t1 t2 t3 x16_1) n (([] : List (List Int)), add64 x33_4 1)
noncomputable def ref12_paths : Nat → Constraint → (List Int) → (List Int) → Int → Option (List (List Int))
 | 0, _, _, _, _ => none
 | n + 1, t0, t1, t2, t3 => ref12_paths.body n (ref12_paths n) t0 t1 t2 t3
noncomputable def ref12_Cycle.l2 (n : Nat) (t0 : Constraint) (t1 : List Int) (x5_25 : Int) (rec_26 : Int → Option (List Int)) (rec_34 : Int → Option (List Int)) (s : Int) : Option (List Int) :=
 let x6_33 := s
 if (decide (x6_33 < t0.size)) = true then
  (ref12_paths n t0 t1 [x6_33] x5_25).bind fun x35_35 =>
  if (decide (0 < (x35_35.length : Int))) = true then
   (idx x35_35 0).bind fun x40_36 =>
   some x40_36
  else
   rec_34 (add64 x6_33 1)
 else
  rec_26 (add64 x5_25 1)
noncomputable def ref12_Cycle.l1 (n : Nat) (t0 : Constraint) (t1 : List Int) (rec_26 : Int → Option (List Int)) (s : Int) : Option (List Int) :=
 let x5_25 := s
 if (decide (x5_25 ≤ t0.size)) = true then
  loopF (ref12_Cycle.l2 n t0 t1 x5_25 rec_26) n 0
 else
  some []
noncomputable def ref12_Cycle (n : Nat) (t0 : Constraint) (t1 : List Int) : Option (List Int) :=
 grd ((t0.kind != 1) || (ref12_inside n t0 (t1.length : Int)).isSome) <|
 if ((t0.kind != 1) || (!((ref12_inside n t0 (t1.length : Int)).getD default))) = true then
  some []
 else
  loopF (ref12_Cycle.l1 n t0 t1) n 1
noncomputable def ref12_small.l1 (n : Nat) (t0 : Row) (t1 : List Int) (rec_20 : (Int × Int × Int) → Option Bool) (s : Int × Int × Int) : Option Bool :=
 let x5_17 := s.1
 let x6_18 := s.2.1
 let x7_19 := s.2.2
 if (decide (x7_19 < (t0.terms.length : Int))) = true then
  (idx t0.terms x7_19).bind fun x21_21 =>
  (idx t1 x21_21.cell).bind fun x29_22 =>
  (quo64 x29_22 4294967296).bind fun x31_23 =>
  (idx t1 x21_21.cell).bind fun x40_24 =>
  (rem64 x40_24 4294967296).bind fun x42_25 =>
  rec_20 (add64 x5_17 (mul64 x21_21.factor x31_23), add64 x6_18 (mul64 x21_21.factor x42_25), add64 x7_19 1)
 else
  (shrO .i64 x6_18 32).bind fun x47_26 =>
  (shrO .i64 t0.bound 32).bind fun x53_27 =>
  some ((decide (add64 x5_17 x47_26 < x53_27)) || (((add64 x5_17 x47_26) == x53_27) && (decide (band .i64 x6_18 4294967295 ≤ band .i64 t0.bound 4294967295))))
noncomputable def ref12_small (n : Nat) (t0 : Row) (t1 : List Int) : Option Bool :=
 loopF (ref12_small.l1 n t0 t1) n (0, 0, 0)
noncomputable def ref12_Holds (n : Nat) (t0 : Constraint) (t1 : List Int) : Option Bool :=
 (ref12_inside n t0 (t1.length : Int)).bind fun x8_1 =>
 if (!x8_1) = true then
  some false
 else
  if (t0.kind == 1) = true then
   (ref12_Cycle n t0 t1).bind fun x15_2 =>
   some ((x15_2.length : Int) == 0)
  else
   (ref12_small n t0.row t1).bind fun x21_3 =>
   some x21_3
noncomputable def ref14_Holds (n : Nat) (t0 : Constraint) (t1 : List Int) : Option Bool :=
 (ref12_Holds n t0 t1).bind fun x7_1 =>
 some x7_1
noncomputable def ref22_Row (n : Nat) (t0 : Row) (t1 : List Int) : Option Bool :=
 (ref14_Holds n (⟨0, 0, t0, 0, 0⟩ : Constraint) t1).bind fun x8_1 =>
 some x8_1
noncomputable def ref22_Possible.l2 (n : Nat) (t1 : Effect) (t2 : List Int) (rec_28 : Int → Option Bool) (s : Int) : Option Bool :=
 let x9_27 := s
 if (decide (x9_27 < (t1.hold.length : Int))) = true then
  (idx t1.hold x9_27).bind fun x48_29 =>
  (ref22_Row n x48_29 t2).bind fun x51_30 =>
  if (!x51_30) = true then
   some false
  else
   rec_28 (add64 x9_27 1)
 else
  some true
noncomputable def ref22_Possible.l1 (n : Nat) (t0 : Model) (t1 : Effect) (t2 : List Int) (x12_1 : List Int) (rec_15 : Int → Option Bool) (s : Int) : Option Bool :=
 let x8_14 := s
 if (decide (x8_14 < (t0.constraints.length : Int))) = true then
  (idx t0.constraints x8_14).bind fun x23_16 =>
  (ref14_Holds n x23_16 t2).bind fun x26_17 =>
  grd ((!x26_17) || (idx t0.constraints x8_14).isSome) <|
  grd ((!x26_17) || (ref14_Holds n ((idx t0.constraints x8_14).getD default) x12_1).isSome) <|
  if ((!x26_17) || (!((ref14_Holds n ((idx t0.constraints x8_14).getD default) x12_1).getD default))) = true then
   some false
  else
   rec_15 (add64 x8_14 1)
 else
  loopF (ref22_Possible.l2 n t1 t2) n 0
noncomputable def ref22_Possible (n : Nat) (t0 : Model) (t1 : Effect) (t2 : List Int) : Option Bool :=
 (ref22_Plus n t2 t1).bind fun x12_1 =>
 loopF (ref22_Possible.l1 n t0 t1 t2 x12_1) n 0
noncomputable def ref22_Shows.l2 (n : Nat) (t0 : Model) (t1 : Question) (t2 : List Int) (t3 : List Int) (x44_15 : Action) (x51_16 : Action) (x70_21 : List Int) (rec_37 : Int → Option Bool) (s : Int) : Option Bool :=
 let x13_36 := s
 if (decide (x13_36 < (t2.length : Int))) = true then
  grd (t1.target.hold || (idx t2 x13_36).isSome) <|
  grd (!(t1.target.hold || (t1.target.index != ((idx t2 x13_36).getD default))) || (idx t2 x13_36).isSome) <|
  grd (!(t1.target.hold || (t1.target.index != ((idx t2 x13_36).getD default))) || (idx t0.constraints ((idx t2 x13_36).getD default)).isSome) <|
  grd (!(t1.target.hold || (t1.target.index != ((idx t2 x13_36).getD default))) || (ref14_Holds n ((idx t0.constraints ((idx t2 x13_36).getD default)).getD default) x70_21).isSome) <|
  if ((t1.target.hold || (t1.target.index != ((idx t2 x13_36).getD default))) && (!((ref14_Holds n ((idx t0.constraints ((idx t2 x13_36).getD default)).getD default) x70_21).getD default))) = true then
   some false
  else
   rec_37 (add64 x13_36 1)
 else
  if t1.target.hold = true then
   (idx x44_15.effect.hold t1.target.index).bind fun x111_44 =>
   (ref22_Plus n t3 x51_16.effect).bind fun x115_45 =>
   (ref22_Row n x111_44 x115_45).bind fun x116_46 =>
   some (!x116_46)
  else
   (idx t0.constraints t1.target.index).bind fun x123_47 =>
   (ref14_Holds n x123_47 x70_21).bind fun x126_48 =>
   some (!x126_48)
noncomputable def ref22_Shows.l1 (n : Nat) (t0 : Model) (t1 : Question) (t2 : List Int) (t3 : List Int) (rec_11 : Int → Option Bool) (s : Int) : Option Bool :=
 let x9_10 := s
 if (decide (x9_10 < (t2.length : Int))) = true then
  (idx t2 x9_10).bind fun x27_12 =>
  grd ((decide (x27_12 < 0)) || (idx t2 x9_10).isSome) <|
  if ((decide (x27_12 < 0)) || (decide ((t0.constraints.length : Int) ≤ ((idx t2 x9_10).getD default)))) = true then
   some false
  else
   rec_11 (add64 x9_10 1)
 else
  (idx t0.actions t1.e).bind fun x44_15 =>
  (idx t0.actions t1.f).bind fun x51_16 =>
  (ref22_Possible n t0 x44_15.effect t3).bind fun x57_17 =>
  grd ((!x57_17) || (ref22_Possible n t0 x51_16.effect t3).isSome) <|
  if ((!x57_17) || (!((ref22_Possible n t0 x51_16.effect t3).getD default))) = true then
   some false
  else
   (ref22_Plus n t3 x44_15.effect).bind fun x68_20 =>
   (ref22_Plus n x68_20 x51_16.effect).bind fun x70_21 =>
   loopF (ref22_Shows.l2 n t0 t1 t2 t3 x44_15 x51_16 x70_21) n 0
noncomputable def ref22_Shows (n : Nat) (t0 : Model) (t1 : Question) (t2 : List Int) (t3 : List Int) : Option Bool :=
 (ref16_Total n t0).bind fun x17_1 =>
 if ((t3.length : Int) != x17_1) = true then
  some false
 else
  loopF (ref22_Shows.l1 n t0 t1 t2 t3) n 0
noncomputable def ref17_Least.l1 (n : Nat) (t0 : List Range) (rec_11 : ((List Int) × Int) → Option (List Int)) (s : (List Int) × Int) : Option (List Int) :=
 let b0_9 := s.1
 let x4_10 := s.2
 if (decide (x4_10 < (t0.length : Int))) = true then
  (idx t0 x4_10).bind fun x15_12 =>
  (app 8 b0_9 [x15_12.lo]).bind fun x19_13 =>
  rec_11 (x19_13, add64 x4_10 1)
 else
  some b0_9
noncomputable def ref17_Least (n : Nat) (t0 : List Range) : Option (List Int) :=
 loopF (ref17_Least.l1 n t0) n (([] : List Int), 0)
noncomputable def ref17_Next.l2 (n : Nat) (t0 : List Range) (t1 : List Int) (x6_72 : Int) (rec_98 : ((List Int) × Int) → Option ((List Int) × Bool)) (s : (List Int) × Int) : Option ((List Int) × Bool) :=
 let b0_96 := s.1
 let x8_97 := s.2
 if (decide (x8_97 < (t0.length : Int))) = true then
  jn (fun (v : (List Int)) =>
   let b0_99 := v
   rec_98 (b0_99, add64 x8_97 1)) fun k_100 =>
  if (decide (x8_97 < x6_72)) = true then
   (idx t1 x8_97).bind fun x57_101 =>
   (app 8 b0_96 [x57_101]).bind fun x60_102 =>
   k_100 x60_102
  else
   if (x8_97 == x6_72) = true then
    (idx t1 x8_97).bind fun x68_103 =>
    (app 8 b0_96 [add64 x68_103 1]).bind fun x72_104 =>
    k_100 x72_104
   else
    (idx t0 x8_97).bind fun x45_105 =>
    (app 8 b0_96 [x45_105.lo]).bind fun x49_106 =>
    k_100 x49_106
 else
  some (b0_96, true)
noncomputable def ref17_Next.l1 (n : Nat) (t0 : List Range) (t1 : List Int) (rec_73 : Int → Option ((List Int) × Bool)) (s : Int) : Option ((List Int) × Bool) :=
 let x6_72 := s
 if (decide (0 ≤ x6_72)) = true then
  (idx t1 x6_72).bind fun x27_74 =>
  (idx t0 x6_72).bind fun x31_75 =>
  if (decide (x27_74 < x31_75.hi)) = true then
   loopF (ref17_Next.l2 n t0 t1 x6_72) n (([] : List Int), 0)
  else
   rec_73 (sub64 x6_72 1)
 else
  some ([], false)
noncomputable def ref17_Next (n : Nat) (t0 : List Range) (t1 : List Int) : Option ((List Int) × Bool) :=
 (ref17_Valid n t0 ([] : List Row)).bind fun x10_1 =>
 grd ((!x10_1) || (ref17_Contains n t0 t1).isSome) <|
 if ((!x10_1) || (!((ref17_Contains n t0 t1).getD default))) = true then
  some ([], false)
 else
  loopF (ref17_Next.l1 n t0 t1) n (sub64 (t0.length : Int) 1)
noncomputable def law22_states.l1 (n : Nat) (t1 : (List Int) → Option Bool) (x9_1 : List Range) (rec_13 : ((List Int) × Bool) → Option Bool) (s : (List Int) × Bool) : Option Bool :=
 let x6_11 := s.1
 let x7_12 := s.2
 if x7_12 = true then
  (t1 x6_11).bind fun x15_14 =>
  if (!x15_14) = true then
   some false
  else
   (ref17_Next n x9_1 x6_11).bind fun x20_15 =>
   rec_13 (x20_15.1, x20_15.2)
 else
  some true
noncomputable def law22_states (n : Nat) (t0 : Model) (t1 : (List Int) → Option Bool) : Option Bool :=
 (ref22_Box n t0).bind fun x9_1 =>
 (ref17_Least n x9_1).bind fun x11_2 =>
 loopF (law22_states.l1 n t1 x9_1) n (x11_2, true)
noncomputable def slices_Index_LQuestion_api_Question.l1 (n : Nat) (t0 : List Question) (t1 : Question) (rec_6 : Int → Option Int) (s : Int) : Option Int :=
 let x8_5 := s
 if (decide (x8_5 < (t0.length : Int))) = true then
  (idx t0 x8_5).bind fun x14_7 =>
  if (decide ((t1 : Question) = x14_7)) = true then
   some x8_5
  else
   rec_6 (add64 x8_5 1)
 else
  some (-1)
noncomputable def slices_Index_LQuestion_api_Question (n : Nat) (t0 : List Question) (t1 : Question) : Option Int :=
 loopF (slices_Index_LQuestion_api_Question.l1 n t0 t1) n 0
noncomputable def slices_Contains_LQuestion_api_Question (n : Nat) (t0 : List Question) (t1 : Question) : Option Bool :=
 (slices_Index_LQuestion_api_Question n t0 t1).bind fun x7_1 =>
 some (decide (0 ≤ x7_1))
noncomputable def law22_ConditionOpen_1 (n : Nat) (t0 : List Int) (t1 : Model) (t2 : Question) : Option Bool :=
 (ref22_Shows n t1 t2 ([] : List Int) t0).bind fun x8_1 =>
 some (!x8_1)
noncomputable def law22_ConditionOpen (n : Nat) (t0 : Model) (t1 : Question) : Option Bool :=
 (law22_awake n ).bind fun x6_1 =>
 if (!x6_1) = true then
  some false
 else
  (ref13_Few n t0).bind fun x9_2 =>
  grd ((!x9_2) || (ref16_Valid n t0 t1).isSome) <|
  if ((!x9_2) || (!((ref16_Valid n t0 t1).getD default))) = true then
   some true
  else
   (condition_Open n t0 t1).bind fun x19_5 =>
   (condition_Questions n t0).bind fun x22_6 =>
   (slices_Contains_LQuestion_api_Question n x22_6 t1).bind fun x24_7 =>
   if (x19_5 != x24_7) = true then
    some false
   else
    grd (x19_5 || (law22_states n t0 (fun q0 => law22_ConditionOpen_1 n q0 t0 t1)).isSome) <|
    some (x19_5 || ((law22_states n t0 (fun q0 => law22_ConditionOpen_1 n q0 t0 t1)).getD default))
end Go.Proofs.YtcagdmegicijlaaGreatDoor
namespace Go.Proofs.YtcagdmegicijlaaGreatDoor
open Go Go.RowKit
theorem law22_example_ok (n : Nat) (r : Model) (h : law22_example n = some r) : Pure Tryz.prog 36 [] (Model.enc r) := by
 refine Pure.ot Tryz.func36 I Tryz.ntmps36 I fun A w => .sr<|.allocZ I I I I (.agg Zc30 (ds' := [.sl 1 (List.map D.int []), .sl 6 (List.map Table.enc []), .sl 1 (List.map D.str []), .sl 6 (List.map Constraint.enc []), .sl 3 (List.map Operation.enc []), .sl 5 (List.map Action.enc []), .sl 3 (List.map Hide.enc [])]) (.cons (.nil _) (.cons (.nil _) (.cons (.nil _) (.cons (.nil _) (.cons (.nil _) (.cons (.nil _) (.cons (.nil _) (.nil))))))))) I<|.nil<|.sr<|.p I (.castD (Range.enc (⟨0, 3⟩ : Range)) I (.build I Pl87 (.agg Zc87 (ds' := [_, _]) (.cons (.refl _) (.cons (.refl _) (.nil)))) I I))<|.p I (.castD (Table.enc (⟨[99], 1, [], (⟨0, 3⟩ : Range), 0⟩ : Table)) I (.build I Pl127 (.agg Zc127 (ds' := [_, _, .sl 1 (List.map D.int []), _, _, _]) (.cons (.refl _) (.cons (.refl _) (.cons (.nil _) (.cons (.refl _) (.cons (.refl _) (.cons (.refl _) (.nil)))))))) I I))<|.p I (.buildSl [_] I I E23 I (fun _ => I) I (enc := Table.enc))<|.p I (.buildSl [_] I I E24 I (fun _ => I) I (enc := D.str))<|.p I (.castD (Term.enc (⟨0, (-1)⟩ : Term)) I (.build I Pl41 (.agg Zc41 (ds' := [_, _]) (.cons (.refl _) (.cons (.refl _) (.nil)))) I I))<|.p I (.buildSl [_] I I E31 I (fun _ => I) I (enc := Term.enc))<|.p I (.castD (Row.enc (⟨[(⟨0, (-1)⟩ : Term)], 0⟩ : Row)) I (.build I Pl33 (.agg Zc33 (ds' := [_, _]) (.cons (.refl _) (.cons (.refl _) (.nil)))) I I))<|.p I (.castD (Constraint.enc (⟨0, 0, (⟨[(⟨0, (-1)⟩ : Term)], 0⟩ : Row), 0, 0⟩ : Constraint)) I (.build I Pl78 (.agg Zc78 (ds' := [_, _, _, _, _, _]) (.cons (.refl _) (.cons (.refl _) (.cons (.refl _) (.cons (.refl _) (.cons (.refl _) (.cons (.refl _) (.nil)))))))) I I))<|.p I (.castD (Term.enc (⟨0, 1⟩ : Term)) I (.build I Pl41 (.agg Zc41 (ds' := [_, _]) (.cons (.refl _) (.cons (.refl _) (.nil)))) I I))<|.p I (.buildSl [_] I I E31 I (fun _ => I) I (enc := Term.enc))<|.p I (.castD (Row.enc (⟨[(⟨0, 1⟩ : Term)], 3⟩ : Row)) I (.build I Pl33 (.agg Zc33 (ds' := [_, _]) (.cons (.refl _) (.cons (.refl _) (.nil)))) I I))<|.p I (.castD (Constraint.enc (⟨0, 0, (⟨[(⟨0, 1⟩ : Term)], 3⟩ : Row), 0, 0⟩ : Constraint)) I (.build I Pl78 (.agg Zc78 (ds' := [_, _, _, _, _, _]) (.cons (.refl _) (.cons (.refl _) (.cons (.refl _) (.cons (.refl _) (.cons (.refl _) (.cons (.refl _) (.nil)))))))) I I))<|.p I (.buildSl [_, _] I I E25 I (fun _ => I) I (enc := Constraint.enc))<|.p I (.castD (Operation.enc (⟨[116, 119, 111], false, []⟩ : Operation)) I (.build I Pl129 (.agg Zc129 (ds' := [_, _, .sl 1 (List.map D.int [])]) (.cons (.refl _) (.cons (.refl _) (.cons (.nil _) (.nil))))) I I))<|.p I (.buildSl [_] I I E26 I (fun _ => I) I (enc := Operation.enc))<|.p I (.castD (Change.enc (⟨0, 2⟩ : Change)) I (.build I Pl131 (.agg Zc131 (ds' := [_, _]) (.cons (.refl _) (.cons (.refl _) (.nil)))) I I))<|.p I (.buildSl [_] I I E79 I (fun _ => I) I (enc := Change.enc))<|.p I (.castD (Effect.enc (⟨[(⟨0, 2⟩ : Change)], [], []⟩ : Effect)) I (.build I Pl82 (.agg Zc82 (ds' := [_, .sl 2 (List.map Row.enc []), .sl 3 (List.map Update.enc [])]) (.cons (.refl _) (.cons (.nil _) (.cons (.nil _) (.nil))))) I I))<|.p I (.castD (Action.enc (⟨0, [], (⟨[(⟨0, 2⟩ : Change)], [], []⟩ : Effect)⟩ : Action)) I (.build I Pl84 (.agg Zc84 (ds' := [_, .sl 1 (List.map D.int []), _, _, _]) (.cons (.refl _) (.cons (.nil _) (.cons (.refl _) (.cons (.refl _) (.cons (.refl _) (.nil))))))) I I))<|.p I (.buildSl [_] I I E27 I (fun _ => I) I (enc := Action.enc))<|.p I (.castD (Model.enc (⟨[], [(⟨[99], 1, [], (⟨0, 3⟩ : Range), 0⟩ : Table)], [[99]], [(⟨0, 0, (⟨[(⟨0, (-1)⟩ : Term)], 0⟩ : Row), 0, 0⟩ : Constraint), (⟨0, 0, (⟨[(⟨0, 1⟩ : Term)], 3⟩ : Row), 0, 0⟩ : Constraint)], [(⟨[116, 119, 111], false, []⟩ : Operation)], [(⟨0, [], (⟨[(⟨0, 2⟩ : Change)], [], []⟩ : Effect)⟩ : Action)], []⟩ : Model)) I (.build I Pl30 (.agg Zc30 (ds' := [.sl 1 (List.map D.int []), _, _, _, _, _, .sl 3 (List.map Hide.enc [])]) (.cons (.nil _) (.cons (.refl _) (.cons (.refl _) (.cons (.refl _) (.cons (.refl _) (.cons (.refl _) (.cons (.nil _) (.nil))))))))) I I))<|.store I I I I I I (.ofD I) C30 I (Nat.le_of_ble_eq_true I)<|.nil<|.keep [.box 30 [.d (.sl 1 (List.map D.int [])), .d (.sl 6 (List.map Table.enc [(⟨[99], 1, [], (⟨0, 3⟩ : Range), 0⟩ : Table)])), .d (.sl 1 (List.map D.str [[99]])), .d (.sl 6 (List.map Constraint.enc [(⟨0, 0, (⟨[(⟨0, (-1)⟩ : Term)], 0⟩ : Row), 0, 0⟩ : Constraint), (⟨0, 0, (⟨[(⟨0, 1⟩ : Term)], 3⟩ : Row), 0, 0⟩ : Constraint)])), .d (.sl 3 (List.map Operation.enc [(⟨[116, 119, 111], false, []⟩ : Operation)])), .d (.sl 5 (List.map Action.enc [(⟨0, [], (⟨[(⟨0, 2⟩ : Change)], [], []⟩ : Effect)⟩ : Action)])), .d (.sl 3 (List.map Hide.enc []))]] [0] (.c I .nil) I<|.ret ?_
 cases h
 exact retCell I I Y30 (.cons (.d _) (.cons (.d _) (.cons (.d _) (.cons (.d _) (.cons (.d _) (.cons (.d _) (.cons (.d _) (.nil))))))))
theorem slices_IndexFunc_Lint_int_ok (n : Nat) (t0 : List Int) (t1 : Int → Option Bool) (F1 : D) (hF1 : ∀ (q0 : Int) (y : Bool), t1 q0 = some y → Dyn Tryz.prog F1 [.int q0] (.bool y)) (r : Int) (h : slices_IndexFunc_Lint_int n t0 t1 = some r) : Pure Tryz.prog 199 [.sl 1 (List.map D.int t0), F1] (.int r) := by
 refine Pure.ot Tryz.func199 I Tryz.ntmps199 I fun A w => .sr<|.z I<|.nil<|.seq<|.sr<|.m I<|.p I (.len I U22 I)<|.m I<|.nil<|.block<|.loopS [0, 1, 7] (fun (v : Int) => [(8, .d (.int v))]) (fun (v : Int) => []) (.c2 I<|.c I .nil) h ⟨_, Fz4 I<|Fz2 I<|Fz1 I trivial⟩ (fun _ x7 h => ?_)
 refine .sr<|.p I (.ls I)<|.nil<|.keep [] [0, 1, 7, 8, 9] (.c4 I<|.c I .nil) I<|.seq<|.condS I h (fun h => ?_) fun h => ?_
 ·refine .skip<|.seq<|.block<|.sr<|.m I<|.z I<|.nil<|.sr<|.m I<|.m I<|.m I<|bK h fun x9 q9 h => .p I (.ix I U22 S3 q9)<|.p I (.ld Y3 I)<|bK h fun x10 q10 h => .p I (.dyn I I I (hF1 _ _ q10))<|.nil<|.condS I h (fun h => ?_) fun h => ?_
  ·refine .sr<|.m I<|.z I<|.nil<|.ret (rO h I)
  ·refine .skip<|.region<|.p I (.ad I)<|.m I<|.nil ⟨_, h, _, Fz4 I<|Fz2 I<|Fz1 I trivial⟩
 ·refine .exit<|.sr<|.z I<|.nil<|.ret (rO h I)
theorem slices_ContainsFunc_Lint_int_ok (n : Nat) (t0 : List Int) (t1 : Int → Option Bool) (F1 : D) (hF1 : ∀ (q0 : Int) (y : Bool), t1 q0 = some y → Dyn Tryz.prog F1 [.int q0] (.bool y)) (r : Bool) (h : slices_ContainsFunc_Lint_int n t0 t1 = some r) : Pure Tryz.prog 154 [.sl 1 (List.map D.int t0), F1] (.bool r) := by
 refine Pure.ot Tryz.func154 I Tryz.ntmps154 I fun A w => .sr<|.z I<|.nil<|.sr<|.m I<|.m I<|bK h fun x1 q1 h => .p I (.call I K199 I (slices_IndexFunc_Lint_int_ok _ _ _ _ hF1 _ q1))<|.p I (.ge I)<|.z I<|.nil<|.ret (rO h I)
theorem cells_within_ok (n : Nat) (t0 : Int) (t1 : Int) (t2 : Int) (r : Bool) (h : cells_within n t0 t1 t2 = some r) : Pure Tryz.prog 144 [.int t0, .int t1, .int t2] (.bool r) := by
 refine Pure.ot Tryz.func144 I Tryz.ntmps144 I fun A w => .sr<|.z I<|.nil<|.seq<|.plain 8 I<|.m I<|.m I<|.p I (.ge I)<|.m I<|.jA 3 (decide (t0 ≤ t2)) I (fun b1 => ?_) ?_
 ·refine .qm I<|.qm I<|.q I (.le I)<|.nil I
 refine .nil<|.z I<|.nil<|.ret (rO h I)
theorem cells_sized_1_ok (n : Nat) (t0 : Int) (r : Bool) (h : cells_sized_1 n t0 = some r) : Pure Tryz.prog 192 [.int t0] (.bool r) := by
 refine Pure.ot Tryz.func192 I Tryz.ntmps192 I fun A w => .sr<|.z I<|.nil<|.sr<|.m I<|bK h fun x1 q1 h => .p I (.call I K144 I (cells_within_ok _ _ _ _ _ q1))<|.p I (.nt I)<|.z I<|.nil<|.ret (rO h I)
theorem cells_sized_ok (n : Nat) (t0 : List Int) (r : Bool) (h : cells_sized n t0 = some r) : Pure Tryz.prog 142 [.sl 1 (List.map D.int t0)] (.bool r) := by
 refine Pure.ot Tryz.func142 I Tryz.ntmps142 I fun A w => .sr<|.z I<|.nil<|.sr<|.m I<|bK h fun x1 q1 h => .p I (.call I K154 I (slices_ContainsFunc_Lint_int_ok _ _ _ _ (fun q0 y hq => ⟨_, _, I, K192, cells_sized_1_ok _ q0 _ hq⟩) _ q1))<|.p I (.nt I)<|.z I<|.nil<|.ret (rO h I)
theorem slices_Index_Lbool_bool_ok (n : Nat) (t0 : List Bool) (t1 : Bool) (r : Int) (h : slices_Index_Lbool_bool n t0 t1 = some r) : Pure Tryz.prog 217 [.sl 1 (List.map D.bool t0), .bool t1] (.int r) := by
 refine Pure.ot Tryz.func217 I Tryz.ntmps217 I fun A w => .sr<|.z I<|.nil<|.seq<|.sr<|.m I<|.p I (.len I U144 I)<|.m I<|.nil<|.block<|.loopS [0, 1, 7] (fun (v : Int) => [(8, .d (.int v))]) (fun (v : Int) => []) (.c2 I<|.c I .nil) h ⟨_, Fz4 I<|Fz2 I<|Fz1 I trivial⟩ (fun _ x5 h => ?_)
 refine .sr<|.p I (.ls I)<|.nil<|.keep [] [0, 1, 7, 8, 9] (.c4 I<|.c I .nil) I<|.seq<|.condS I h (fun h => ?_) fun h => ?_
 ·refine .skip<|.seq<|.block<|.sr<|.m I<|.z I<|.nil<|.sr<|.m I<|.m I<|.m I<|bK h fun x7 q7 h => .p I (.ix I U144 S4 q7)<|.p I (.ld Y4 I)<|.p I (.beq I U4 I I)<|.nil<|.condS I h (fun h => ?_) fun h => ?_
  ·refine .sr<|.m I<|.z I<|.nil<|.ret (rO h I)
  ·refine .skip<|.region<|.p I (.ad I)<|.m I<|.nil ⟨_, h, _, Fz4 I<|Fz2 I<|Fz1 I trivial⟩
 ·refine .exit<|.sr<|.z I<|.nil<|.ret (rO h I)
theorem slices_Contains_Lbool_bool_ok (n : Nat) (t0 : List Bool) (t1 : Bool) (r : Bool) (h : slices_Contains_Lbool_bool n t0 t1 = some r) : Pure Tryz.prog 191 [.sl 1 (List.map D.bool t0), .bool t1] (.bool r) := by
 refine Pure.ot Tryz.func191 I Tryz.ntmps191 I fun A w => .sr<|.z I<|.nil<|.sr<|.m I<|.m I<|bK h fun x1 q1 h => .p I (.call I K217 I (slices_Index_Lbool_bool_ok _ _ _ _ q1))<|.p I (.ge I)<|.z I<|.nil<|.ret (rO h I)
theorem cells_all_ok (n : Nat) (t0 : List Bool) (r : Bool) (h : cells_all n t0 = some r) : Pure Tryz.prog 141 [.sl 1 (List.map D.bool t0)] (.bool r) := by
 refine Pure.ot Tryz.func141 I Tryz.ntmps141 I fun A w => .sr<|.z I<|.nil<|.sr<|.m I<|bK h fun x1 q1 h => .p I (.call I K191 I (slices_Contains_Lbool_bool_ok _ _ _ _ q1))<|.p I (.nt I)<|.z I<|.nil<|.ret (rO h I)
theorem strings_FieldsFunc_ok (n : Nat) (t0 : List UInt8) (t1 : Int → Option Bool) (F1 : D) (hF1 : ∀ (q0 : Int) (y : Bool), t1 q0 = some y → Dyn Tryz.prog F1 [.val (.int .i32 q0)] (.bool y)) (r : List (List UInt8)) (h : strings_FieldsFunc n t0 t1 = some r) : Pure Tryz.prog 265 [.str t0, F1] (.sl 1 (List.map D.str r)) := by
 refine Pure.ot Tryz.func265 I Tryz.ntmps265 I fun A w => .sr<|.p I (.nilS 1 (α := List UInt8) D.str I)<|.nil<|.seq<|.region ?_
 cases h
theorem unicode_IsSpace_ok (n : Nat) (t0 : Int) (r : Bool) (h : unicode_IsSpace n t0 = some r) : Pure Tryz.prog 266 [.val (.int .i32 t0)] (.bool r) := by
 refine Pure.ot Tryz.func266 I Tryz.ntmps266 I fun A w => .sr<|.z I<|.nil<|.seq<|.sr<|.m I<|.p I (.conv I U21 U235 I)<|.p I (.le I)<|.nil<|.condS I h (fun h => ?_) fun h => ?_
 ·refine .seq<|.sr<|.m I<|.nil<|.block<|.join [] (fun (v : Bool) => [(7, .d (.bool v))]) (fun (v : Bool) => []) (.nil) h (fun k_2 h => ?_) (fun x1 h => ?_)
  ·refine .sr<|.p I (.eq I)<|.z I<|.nil<|.condS I h (fun h => ?_) fun h => ?_
   ·refine .skip ⟨_, h, _, Fz4 I trivial⟩
   ·refine .sr<|.p I (.eq I)<|.z I<|.nil<|.condS I h (fun h => ?_) fun h => ?_
    ·refine .skip ⟨_, h, _, Fz4 I trivial⟩
    ·refine .sr<|.p I (.eq I)<|.z I<|.nil<|.condS I h (fun h => ?_) fun h => ?_
     ·refine .skip ⟨_, h, _, Fz4 I trivial⟩
     ·refine .sr<|.p I (.eq I)<|.z I<|.nil<|.condS I h (fun h => ?_) fun h => ?_
      ·refine .skip ⟨_, h, _, Fz4 I trivial⟩
      ·refine .sr<|.p I (.eq I)<|.z I<|.nil<|.condS I h (fun h => ?_) fun h => ?_
       ·refine .skip ⟨_, h, _, Fz4 I trivial⟩
       ·refine .sr<|.p I (.eq I)<|.z I<|.nil<|.keep [] [6, 7] (.c2 I .nil) I<|.condS I h (fun h => ?_) fun h => ?_
        ·refine .skip ⟨_, h, _, Fz4 I trivial⟩
        ·refine .sr<|.p I (.eq I)<|.z I<|.nil<|.condS I h (fun h => ?_) fun h => ?_
         ·refine .skip ⟨_, h, _, Fz4 I trivial⟩
         ·refine .region<|.p I (.eq I)<|.z I<|.nil ⟨_, h, _, Fz4 I trivial⟩
  ·refine .condS I h (fun h => ?_) fun h => ?_
   ·refine .sr<|.z I<|.nil<|.keep [] [2] (.c I .nil) I<|.ret (rO h I)
   ·refine .skip<|.keep [] [] (.nil) I<|.sr<|.z I<|.nil<|.ret (rO h I)
 ·refine .skip<|.seq<|.region ?_
  cases h
theorem strings_Fields_ok (n : Nat) (t0 : List UInt8) (r : List (List UInt8)) (h : strings_Fields n t0 = some r) : Pure Tryz.prog 255 [.str t0] (.sl 1 (List.map D.str r)) := by
 refine Pure.ot Tryz.func255 I Tryz.ntmps255 I fun A w => .sr<|.p I (.nilS 1 (α := List UInt8) D.str I)<|.nil<|.sr<|.z I<|.nil<|.sr<|.z I<|.nil<|.sr<|.z I<|.nil<|.seq<|.sr<|.z I<|.nil<|.block<|.loopS [0] (fun (v : Int × Int × Int × Int) => [(3, .d (.int v.1)), (4, .d (.int v.2.1)), (5, .d (.val (.int .u8 v.2.2.1))), (6, .d (.int v.2.2.2))]) (fun (v : Int × Int × Int × Int) => []) (.c I .nil) h ⟨_, Fz8 I trivial⟩ (fun _ v h => ?_)
 obtain ⟨x13, x14, x15, x16⟩ := v
 refine .seq<|.sr<|.m I<|.m I<|.p I (.len_str I U9 I)<|.p I (.ls I)<|.nil<|.keep [] [0, 3, 4, 5, 6, 16] (.c4 I<|.c2 I .nil) I<|.condS I h (fun h => ?_) fun h => ?_
 ·refine .skip<|.seq<|.block<|.sr<|.m I<|.m I<|bK h fun x18 q18 h => .p I (.sidx I I I U9 q18)<|.z I<|.nil<|.sr<|.m I<|.m I<|.p I (.bor I I I)<|.z I<|.nil<|.sr<|.m I<|bK h fun x19 q19 h => .p I (.idxG (l := tab0) I I I gm0 U274 S5 tl0 q19)<|.p I (.ld Y5 I)<|.p I (.conv I U5 U3 I)<|.z I<|.nil<|.sr<|.m I<|.m I<|.m I<|.p I (.bnot I I)<|.p I (.band I I I)<|.p I (.ad I)<|.z I<|.nil<|.keep [] [0, 3, 5, 6, 8] (.c4 I<|.c I .nil) I<|.region<|.m I ?_
  refine .z I<|.nil<|.region<|.m I<|.p I (.ad I)<|.z I<|.nil ⟨_, h, _, Fz8 I trivial⟩
 ·refine .exit<|.seq<|.sr<|.m I<|.p I (.ge I)<|.nil<|.condS I h (fun h => ?_) fun h => ?_
  ·refine .sr<|.m I<|bK h fun x20 q20 h => .p I (.call I K265 I (strings_FieldsFunc_ok _ _ _ _ (fun q0 y hq => ⟨_, _, I, K266, unicode_IsSpace_ok _ q0 _ hq⟩) _ q20))<|.z I<|.nil<|.ret ?_
   cases h
   exact retOne I (.d _)
  ·refine .skip<|.sr<|.m I<|bK h fun x21 q21 h => .makeVec (enc := D.str) (z := ([] : List UInt8)) I I I I E24 I I I (.val Zv9) q21<|.z I<|.nil<|.sr<|.z I<|.nil<|.sr<|.z I<|.nil<|.sr<|.z I<|.nil<|.seq<|.block<|.loopS [0, 9, 10] (fun (v : Int) => [(12, .d (.int v))]) (fun (v : Int) => []) (.c2 I<|.c I .nil) h ⟨_, Fz4 I<|Fz2 I<|Fz1 I trivial⟩ (fun _ x30 h => ?_)
   refine .seq<|.seq<|.plain 12 I<|.m I<|.m I<|.p I (.len_str I U9 I)<|.p I (.ls I)<|.m I<|gK h fun c33 h => gK h fun c34 h => .jA 6 (((idx tab0 ((sidx t0 x30).getD default)).getD default) != 0) I (fun b32 => ?_) ?_
   ·refine .qm I<|.qm I<|.q I (.sidx I I I U9 (someD (impT c33 b32)))<|.q I (.idxG (l := tab0) I I I gm0 U274 S5 tl0 (someD (impT c34 b32)))<|.q I (.ld Y5 I)<|.q I (.ne I)<|.nil I
   refine .nil<|.nil<|.keep [.vec 9 1 (List.map D.str x21)] [0, 9, 10, 12, 53] (.c4 I<|.c I .nil) I<|.condS I h (fun h => ?_) fun h => ?_
   ·refine .skip<|.block<|.region<|.m I<|.p I (.ad I)<|.z I<|.nil ⟨_, h, _, Fz4 I<|Fz2 I<|Fz1 I trivial⟩
   ·refine .exit<|.sr<|.m I<|.z I<|.nil<|.seq<|.block<|.loopS [0] (fun (v : (List (List UInt8)) × Int × Int × Int) => [(9, .vec 0 (List.length v.1)), (10, .d (.int v.2.1)), (11, .d (.int v.2.2.1)), (12, .d (.int v.2.2.2))]) (fun (v : (List (List UInt8)) × Int × Int × Int) => [(0, .vec 9 1 (List.map D.str v.1))]) (.c I .nil) h ⟨_, Fz8 I trivial⟩ (fun _ v h => ?_)
    obtain ⟨b0_79, x80, x81, x82⟩ := v
    refine .seq<|.sr<|.m I<|.m I<|.p I (.len_str I U9 I)<|.p I (.ls I)<|.nil<|.keep [.vec 9 1 (List.map D.str b0_79)] [0, 9, 10, 11, 12, 60] (.c4 I<|.c2 I .nil) I<|.condS I h (fun h => ?_) fun h => ?_
    ·refine .skip<|.block<|.seq<|.sr<|.m I<|.m I<|bK h fun x84 q84 h => .p I (.sidx I I I U9 q84)<|bK h fun x85 q85 h => .p I (.idxG (l := tab0) I I I gm0 U274 S5 tl0 q85)<|.p I (.ld Y5 I)<|.p I (.eq I)<|.nil<|.condS I h (fun h => ?_) fun h => ?_
     ·refine .sr<|.m I<|.p I (.ad I)<|.z I<|.nil<|.exit ⟨_, h, _, Fz8 I trivial⟩
     ·refine .skip<|.sr<|.m I<|.m I<|.m I<|.m I<|.m I<|bK h fun x86 q86 h => .p I (.cutStrLH I I I I U9 q86)<|bK h fun x87 q87 h => .p I (.idxV I I I I I U24 S9 q87)<|bK h fun b0_88 hb0_88 h => .storeEl (enc := D.str) I I I I I I I I I C9 hb0_88<|.relen 9 I (sto_len hb0_88)<|.relen 69 I (sto_len hb0_88)<|.nil<|.sr<|.m I<|.p I (.ad I)<|.z I<|.nil<|.keep [.vec 9 1 (List.map D.str b0_88)] [0, 9, 10, 12] (.c4 I .nil) I<|.sr<|.m I<|.p I (.ad I)<|.z I<|.nil<|.seq<|.block<|.loopS [0, 9, 10] (fun (v : Int) => [(12, .d (.int v))]) (fun (v : Int) => []) (.c2 I<|.c I .nil) h ⟨_, Fz4 I<|Fz2 I<|Fz1 I trivial⟩ (fun _ x97 h => ?_)
      refine .seq<|.seq<|.plain 12 I<|.m I<|.m I<|.p I (.len_str I U9 I)<|.p I (.ls I)<|.m I<|gK h fun c100 h => gK h fun c101 h => .jA 6 (((idx tab0 ((sidx t0 x97).getD default)).getD default) != 0) I (fun b99 => ?_) ?_
      ·refine .qm I<|.qm I<|.q I (.sidx I I I U9 (someD (impT c100 b99)))<|.q I (.idxG (l := tab0) I I I gm0 U274 S5 tl0 (someD (impT c101 b99)))<|.q I (.ld Y5 I)<|.q I (.ne I)<|.nil I
      refine .nil<|.nil<|.keep [.vec 9 1 (List.map D.str b0_88)] [0, 9, 10, 12, 91] (.c4 I<|.c I .nil) I<|.condS I h (fun h => ?_) fun h => ?_
      ·refine .skip<|.block<|.region<|.m I<|.p I (.ad I)<|.z I<|.nil ⟨_, h, _, Fz4 I<|Fz2 I<|Fz1 I trivial⟩
      ·refine .exit<|.region<|.m I<|.z I<|.nil ⟨_, h, _, Fz8 I trivial⟩
    ·refine .exit<|.join [] (fun (v : (List (List UInt8))) => [(9, .vec 0 (List.length v))]) (fun (v : (List (List UInt8))) => [(0, .vec 9 1 (List.map D.str v))]) (.nil) h (fun k_103 h => ?_) (fun b0_102 h => ?_)
     ·refine .sr<|.m I<|.m I<|.p I (.len_str I U9 I)<|.p I (.ls I)<|.nil<|.condS I h (fun h => ?_) fun h => ?_
      ·refine .region<|.m I<|.m I<|.m I<|.m I<|bK h fun x104 q104 h => .p I (.cutStrL I I I U9 q104)<|bK h fun x105 q105 h => .p I (.idxV I I I I I U24 S9 q105)<|bK h fun b0_106 hb0_106 h => .storeEl (enc := D.str) I I I I I I I I I C9 hb0_106<|.relen 9 I (sto_len hb0_106)<|.relen 99 I (sto_len hb0_106)<|.nil ⟨_, h, _, Fz4 I trivial⟩
      ·refine .skip ⟨_, h, _, Fz4 I trivial⟩
     ·refine .sr<|.m I<|.z I<|.nil<|.keep [.vec 9 1 (List.map D.str b0_102)] [2] (.c I .nil) I<|.ret ?_
      cases h
      exact retOne I (.vec I (by simp))
theorem lexer_keywords_ok (n : Nat) (r : GMap (List UInt8) Bool) (h : lexer_keywords n = some r) : Pure Tryz.prog 238 [] (GMap.dat (fun l : List UInt8 => Value.string ⟨l.toArray⟩) D.bool r) := by
 refine Pure.ot Tryz.func238 I Tryz.ntmps238 I fun A w => .sr<|.z I<|.nil<|.sr<|.makeMap (fun l : List UInt8 => Value.string ⟨l.toArray⟩) D.bool I I I I<|.z I<|.nil<|.seq<|.sr<|bK h fun x1 q1 h => .p I (.call I K255 I (strings_Fields_ok _ _ _ q1))<|.p I (.len I U24 I)<|.m I<|.nil<|.block<|.loopS [1, 5, 6] (fun (v : (GMap (List UInt8) Bool) × Int) => [(7, .d (.int v.2))]) (fun (v : (GMap (List UInt8) Bool) × Int) => [(0, GMap.blk (fun l : List UInt8 => Value.string ⟨l.toArray⟩) D.bool v.1)]) (.c2 I<|.c I .nil) h ⟨_, Fz4 I<|Fz2 I<|Fz1 I trivial⟩ (fun _ v h => ?_)
 obtain ⟨m0_8, x9⟩ := v
 refine .sr<|.p I (.ls I)<|.nil<|.keep [GMap.blk (fun l : List UInt8 => Value.string ⟨l.toArray⟩) D.bool m0_8] [1, 5, 6, 7, 8] (.c4 I<|.c I .nil) I<|.seq<|.condS I h (fun h => ?_) fun h => ?_
 ·refine .skip<|.seq<|.block<|.sr<|bK h fun x11 q11 h => .p I (.ix I U24 S9 q11)<|.p I (.ld Y9 I)<|.z I<|.nil<|.region<|.m I<|.m I<|.mapPut (k := x11) (v := true) I I I U167 KT9 I I I I<|.nil<|.region<|.p I (.ad I)<|.m I<|.nil ⟨_, h, _, Fz4 I<|Fz2 I<|Fz1 I trivial⟩
 ·refine .exit<|.sr<|.m I<|.z I<|.nil<|.ret ?_
  cases h
  exact retOne I (.mp I)
theorem lexer_white_ok (n : Nat) (t0 : Int) (r : Bool) (h : lexer_white n t0 = some r) : Pure Tryz.prog 246 [.val (.int .u8 t0)] (.bool r) := by
 refine Pure.ot Tryz.func246 I Tryz.ntmps246 I fun A w => .sr<|.z I<|.nil<|.seq<|.plain 14 I<|.m I<|.p I (.eq I)<|.m I<|.jO 2 (t0 == 9) I (fun b1 => ?_) ?_
 ·refine .qm I<|.q I (.eq I)<|.nil I
 refine .m I<|.jO 2 (t0 == 10) I (fun b2 => ?_) ?_
 ·refine .qm I<|.q I (.eq I)<|.nil I
 refine .m I<|.jO 2 (t0 == 13) I (fun b3 => ?_) ?_
 ·refine .qm I<|.q I (.eq I)<|.nil I
 refine .nil<|.z I<|.nil<|.keep [] [2] (.c I .nil) I<|.ret (rO h I)
theorem lexer_run_ok (n : Nat) (t0 : List UInt8) (t1 : Int → Option Bool) (F1 : D) (hF1 : ∀ (q0 : Int) (y : Bool), t1 q0 = some y → Dyn Tryz.prog F1 [.val (.int .u8 q0)] (.bool y)) (r : Int) (h : lexer_run n t0 t1 = some r) : Pure Tryz.prog 242 [.str t0, F1] (.int r) := by
 refine Pure.ot Tryz.func242 I Tryz.ntmps242 I fun A w => .sr<|.z I<|.nil<|.sr<|.z I<|.nil<|.seq<|.block<|.loopS [0, 1] (fun (v : Int) => [(5, .d (.int v))]) (fun (v : Int) => []) (.c2 I .nil) h ⟨_, Fz4 I<|Fz2 I trivial⟩ (fun _ x9 h => ?_)
 refine .seq<|.seq<|.plain 11 I<|.m I<|.m I<|.p I (.len_str I U9 I)<|.p I (.ls I)<|.m I<|gK h fun c12 h => gK h fun c13 h => .jA 5 (((t1 ((sidx t0 x9).getD default)).getD default)) I (fun b11 => ?_) ?_
 ·refine .qm I<|.qm I<|.qm I<|.q I (.sidx I I I U9 (someD (impT c12 b11)))<|.q I (.dyn I I I (hF1 _ _ (someD (impT c13 b11))))<|.nil I
 refine .nil<|.nil<|.keep [] [0, 1, 5, 16] (.c4 I .nil) I<|.condS I h (fun h => ?_) fun h => ?_
 ·refine .skip<|.block<|.region<|.m I<|.p I (.ad I)<|.z I<|.nil ⟨_, h, _, Fz4 I<|Fz2 I trivial⟩
 ·refine .exit<|.sr<|.m I<|.z I<|.nil<|.ret (rO h I)
theorem lexer_skip_1_ok (n : Nat) (t0 : Int) (r : Bool) (h : lexer_skip_1 n t0 = some r) : Pure Tryz.prog 256 [.val (.int .u8 t0)] (.bool r) := by
 refine Pure.ot Tryz.func256 I Tryz.ntmps256 I fun A w => .sr<|.z I<|.nil<|.sr<|.m I<|.p I (.ne I)<|.z I<|.nil<|.ret (rO h I)
theorem lexer_skip_ok (n : Nat) (t0 : List UInt8) (r : Int) (h : lexer_skip n t0 = some r) : Pure Tryz.prog 240 [.str t0] (.int r) := by
 refine Pure.ot Tryz.func240 I Tryz.ntmps240 I fun A w => .sr<|.z I<|.nil<|.sr<|.z I<|.nil<|.seq<|.block<|.loopS [0] (fun (v : Int) => [(3, .d (.int v))]) (fun (v : Int) => []) (.c I .nil) h ⟨_, Fz4 I<|Fz1 I trivial⟩ (fun _ x13 h => ?_)
 refine .seq<|.sr<|.m I<|.m I<|.p I (.len_str I U9 I)<|.p I (.ls I)<|.nil<|.keep [] [0, 3, 7] (.c2 I<|.c I .nil) I<|.condS I h (fun h => ?_) fun h => ?_
 ·refine .skip<|.block<|.block<|.sr<|.m I<|.m I<|bK h fun x15 q15 h => .p I (.sidx I I I U9 q15)<|bK h fun x16 q16 h => .p I (.call I K246 I (lexer_white_ok _ _ _ q16))<|.z I<|.nil<|.condS I h (fun h => ?_) fun h => ?_
  ·refine .region<|.m I<|.p I (.ad I)<|.z I<|.nil ⟨_, h, _, Fz4 I<|Fz1 I trivial⟩
  ·refine .sr<|.m I<|.m I<|bK h fun x17 q17 h => .p I (.sidx I I I U9 q17)<|.p I (.eq I)<|.z I<|.nil<|.condS I h (fun h => ?_) fun h => ?_
   ·refine .region<|.m I<|.m I<|.m I<|bK h fun x18 q18 h => .p I (.cutStrL I I I U9 q18)<|bK h fun x19 q19 h => .p I (.call I K242 I (lexer_run_ok _ _ _ _ (fun q0 y hq => ⟨_, _, I, K256, lexer_skip_1_ok _ q0 _ hq⟩) _ q19))<|.p I (.ad I)<|.z I<|.nil ⟨_, h, _, Fz4 I<|Fz1 I trivial⟩
   ·refine .sr<|.m I<|.z I<|.nil<|.ret (rO h I)
 ·refine .exit<|.sr<|.m I<|.z I<|.nil<|.ret (rO h I)
theorem lexer_letter_ok (n : Nat) (t0 : Int) (r : Bool) (h : lexer_letter n t0 = some r) : Pure Tryz.prog 241 [.val (.int .u8 t0)] (.bool r) := by
 refine Pure.ot Tryz.func241 I Tryz.ntmps241 I fun A w => .sr<|.z I<|.nil<|.seq<|.plain 6 I<|.m I<|.p I (.ge I)<|.m I<|.jA 2 (decide (t0 ≤ 122)) I (fun b1 => ?_) ?_
 ·refine .qm I<|.q I (.le I)<|.nil I
 refine .nil<|.z I<|.nil<|.ret (rO h I)
theorem lexer_digit_ok (n : Nat) (t0 : Int) (r : Bool) (h : lexer_digit n t0 = some r) : Pure Tryz.prog 244 [.val (.int .u8 t0)] (.bool r) := by
 refine Pure.ot Tryz.func244 I Tryz.ntmps244 I fun A w => .sr<|.z I<|.nil<|.seq<|.plain 6 I<|.m I<|.p I (.ge I)<|.m I<|.jA 2 (decide (t0 ≤ 57)) I (fun b1 => ?_) ?_
 ·refine .qm I<|.q I (.le I)<|.nil I
 refine .nil<|.z I<|.nil<|.ret (rO h I)
theorem lexer_part_ok (n : Nat) (t0 : Int) (r : Bool) (h : lexer_part n t0 = some r) : Pure Tryz.prog 243 [.val (.int .u8 t0)] (.bool r) := by
 refine Pure.ot Tryz.func243 I Tryz.ntmps243 I fun A w => .sr<|.z I<|.nil<|.seq<|.plain 10 I<|.m I<|bK h fun x1 q1 h => .p I (.call I K241 I (lexer_letter_ok _ _ _ q1))<|.m I<|gK h fun c3 h => .jO 2 (((lexer_digit n t0).getD default)) I (fun b2 => ?_) ?_
 ·refine .qm I<|.q I (.call I K244 I (lexer_digit_ok _ _ _ (someD (impF c3 b2))))<|.nil I
 refine .m I<|.jO 2 (t0 == 95) I (fun b4 => ?_) ?_
 ·refine .qm I<|.q I (.eq I)<|.nil I
 refine .nil<|.z I<|.nil<|.ret (rO h I)
theorem internal_stringslite_HasPrefix_ok (n : Nat) (t0 : List UInt8) (t1 : List UInt8) (r : Bool) (h : internal_stringslite_HasPrefix n t0 t1 = some r) : Pure Tryz.prog 267 [.str t0, .str t1] (.bool r) := by
 refine Pure.ot Tryz.func267 I Tryz.ntmps267 I fun A w => .sr<|.z I<|.nil<|.seq<|.plain 13 I<|.m I<|.p I (.len_str I U9 I)<|.m I<|.p I (.len_str I U9 I)<|.p I (.ge I)<|.m I<|gK h fun c2 h => .jA 6 (decide (((cut t0 0 (t1.length : Int)).getD default) = t1)) I (fun b1 => ?_) ?_
 ·refine .qm I<|.qm I<|.q I (.len_str I U9 I)<|.q I (.cutStrH I I I U9 (someD (impT c2 b1)))<|.qm I<|.q I (.str_eql I I I)<|.nil I
 refine .nil<|.z I<|.nil<|.ret (rO h I)
theorem strings_HasPrefix_ok (n : Nat) (t0 : List UInt8) (t1 : List UInt8) (r : Bool) (h : strings_HasPrefix n t0 t1 = some r) : Pure Tryz.prog 257 [.str t0, .str t1] (.bool r) := by
 refine Pure.ot Tryz.func257 I Tryz.ntmps257 I fun A w => .sr<|.z I<|.nil<|.sr<|.m I<|.m I<|bK h fun x1 q1 h => .p I (.call I K267 I (internal_stringslite_HasPrefix_ok _ _ _ _ q1))<|.z I<|.nil<|.ret (rO h I)
theorem internal_stringslite_IndexByte_ok (n : Nat) (t0 : List UInt8) (t1 : Int) (r : Int) (h : internal_stringslite_IndexByte n t0 t1 = some r) : Pure Tryz.prog 268 [.str t0, .val (.int .u8 t1)] (.int r) := by
 refine Pure.ot Tryz.func268 I Tryz.ntmps268 I fun A w => .sr<|.z I<|.nil<|.sr<|.m I<|.m I<|.p I (.idxByte I IB271 I I)<|.z I<|.nil<|.ret (rO h I)
theorem strings_IndexByte_ok (n : Nat) (t0 : List UInt8) (t1 : Int) (r : Int) (h : strings_IndexByte n t0 t1 = some r) : Pure Tryz.prog 258 [.str t0, .val (.int .u8 t1)] (.int r) := by
 refine Pure.ot Tryz.func258 I Tryz.ntmps258 I fun A w => .sr<|.z I<|.nil<|.sr<|.m I<|.m I<|bK h fun x1 q1 h => .p I (.call I K268 I (internal_stringslite_IndexByte_ok _ _ _ _ q1))<|.z I<|.nil<|.ret (rO h I)
theorem lexer_symbol_ok (n : Nat) (t0 : List UInt8) (r : Int) (h : lexer_symbol n t0 = some r) : Pure Tryz.prog 245 [.str t0] (.int r) := by
 refine Pure.ot Tryz.func245 I Tryz.ntmps245 I fun A w => .sr<|.z I<|.nil<|.seq<|.sr<|.p I (.buildSl [_, _, _, _, _] I I E24 I (fun _ => I) I (enc := D.str))<|.p I (.len I U24 I)<|.m I<|.nil<|.block<|.loopS [0, 5, 6] (fun (v : Int) => [(7, .d (.int v))]) (fun (v : Int) => []) (.c2 I<|.c I .nil) h ⟨_, Fz4 I<|Fz2 I<|Fz1 I trivial⟩ (fun _ x7 h => ?_)
 refine .sr<|.p I (.ls I)<|.nil<|.keep [] [0, 5, 6, 7, 8] (.c4 I<|.c I .nil) I<|.seq<|.condS I h (fun h => ?_) fun h => ?_
 ·refine .skip<|.seq<|.block<|.sr<|bK h fun x9 q9 h => .p I (.ix I U24 S9 q9)<|.p I (.ld Y9 I)<|.z I<|.nil<|.sr<|.m I<|.m I<|bK h fun x10 q10 h => .p I (.call I K257 I (strings_HasPrefix_ok _ _ _ _ q10))<|.nil<|.condS I h (fun h => ?_) fun h => ?_
  ·refine .sr<|.z I<|.nil<|.ret (rO h I)
  ·refine .skip<|.region<|.p I (.ad I)<|.m I<|.nil ⟨_, h, _, Fz4 I<|Fz2 I<|Fz1 I trivial⟩
 ·refine .exit<|.seq<|.seq<|.plain 8 I<|.m I<|.p I (.str_neq I I I)<|.m I<|gK h fun c12 h => gK h fun c13 h => .jA 4 (decide (0 ≤ ((strings_IndexByte n [60, 62, 61, 43, 45, 42, 40, 41, 123, 125, 44, 58, 59] ((sidx t0 0).getD default)).getD default))) I (fun b11 => ?_) ?_
  ·refine .qm I<|.q I (.sidx I I I U9 (someD (impT c12 b11)))<|.q I (.call I K258 I (strings_IndexByte_ok _ _ _ _ (someD (impT c13 b11))))<|.q I (.ge I)<|.nil I
  refine .nil<|.nil<|.condS I h (fun h => ?_) fun h => ?_
  ·refine .sr<|.z I<|.nil<|.ret (rO h I)
  ·refine .skip<|.sr<|.z I<|.nil<|.ret (rO h I)
theorem lexer_begins_ok (n : Nat) (t0 : List UInt8) (r : Bool) (h : lexer_begins n t0 = some r) : Pure Tryz.prog 247 [.str t0] (.bool r) := by
 refine Pure.ot Tryz.func247 I Tryz.ntmps247 I fun A w => .sr<|.z I<|.nil<|.seq<|.plain 13 I<|.m I<|bK h fun x1 q1 h => .p I (.sidx I I I U9 q1)<|bK h fun x2 q2 h => .p I (.call I K241 I (lexer_letter_ok _ _ _ q2))<|.m I<|gK h fun c4 h => gK h fun c5 h => .jO 3 (((lexer_digit n ((sidx t0 0).getD default)).getD default)) I (fun b3 => ?_) ?_
 ·refine .qm I<|.q I (.sidx I I I U9 (someD (impF c4 b3)))<|.q I (.call I K244 I (lexer_digit_ok _ _ _ (someD (impF c5 b3))))<|.nil I
 refine .m I<|gK h fun c7 h => .jO 3 (decide (0 < ((lexer_symbol n t0).getD default))) I (fun b6 => ?_) ?_
 ·refine .qm I<|.q I (.call I K245 I (lexer_symbol_ok _ _ _ (someD (impF c7 b6))))<|.q I (.gt I)<|.nil I
 refine .nil<|.z I<|.nil<|.ret (rO h I)
theorem lexer_tokens_1_tri (n : Nat) (t1 : List UInt8) (t2 : GMap (List UInt8) Bool) (F0 : D) (C : Ctx) (hC : C.n = 93) (hG : C.gn = 0) (Q0 : Exit → St → Prop) (r : Token) (h : lexer_tokens_1 n t1 t2 = some r)
  (hY : ∀ (Q : Exit → St → Prop) (T : List (Nat × V)) (H : List Blk) (j : Nat), look 0 T = some (.d F0) → look 5 T = some (.loc j 0) → H[j]? = some (.box 234 (V.cellsV (.d (Token.enc r)))) → Tri Tryz.prog C tokX Q ⟨T, H⟩) :
  Tri Tryz.prog C (bodyOf Tryz.prog 239) Q0 ⟨params 0 [F0, .ref (.str t1), .ref (GMap.dat (fun l : List UInt8 => Value.string ⟨l.toArray⟩) D.bool t2)], []⟩ := by
 obtain ⟨A0, own0, w0, n0, esc, gh, gn⟩ := C
 simp only at hC hG
 subst hC
 subst hG
 rw [bodyOf_eq Tryz.func239 I]
 refine .sr<|.z I<|.nil<|.block<|.loopS [0, 1, 2, 4] (fun (v : Unit) => []) (fun (v : Unit) => []) (.c4 I .nil) h ⟨_, Fz4 I<|Fz2 I<|Fz1 I trivial⟩ (fun _ v h => ?_)
 refine .block<|.sr<|.m I<|.m I<|.p I (.ld Y9 I)<|.m I<|bK h fun x45 q45 h => .p I (.cutStrL I I I U9 q45)<|bK h fun x46 q46 h => .p I (.call I K240 I (lexer_skip_ok _ _ _ q46))<|.p I (.ad I)<|.p I (.castD (Token.enc (⟨0, 0, add64 0 x46, 0⟩ : Token)) I (.build I Pl234 (.agg Zc234 (ds' := [_, _, _, _]) (.cons (.refl _) (.cons (.refl _) (.cons (.refl _) (.cons (.refl _) (.nil)))))) I I))<|.allocZ I I I I (.agg Zc234 (ds' := [.int 0, .int 0, .int 0, .int 0]) (.cons (.refl _) (.cons (.refl _) (.cons (.refl _) (.cons (.refl _) (.nil)))))) I<|.store I I I I I I (.ofD I) C234 I (Nat.le_of_ble_eq_true I)<|.nil<|.keep [.box 234 [.d (.int 0), .d (.int 0), .d (.int (add64 0 x46)), .d (.int 0)]] [0, 1, 2, 5] (.c4 I .nil) I<|.sr<|.p I (.ld Y9 I)<|.p I (.fieldAddrLoc I I I F234_2)<|.p I (.loadLoc1 I I I Y3 I)<|bK h fun x47 q47 h => .p I (.cutStrL I I I U9 q47)<|.z I<|.nil<|.sr<|.z I<|.nil<|.join [0, 1, 2, 5] (fun (v : Int × Int) => [(7, .d (.int v.2))]) (fun (v : Int × Int) => [(0, .box 234 [.d (.int v.1), .d (.int 0), .d (.int (add64 0 x46)), .d (.int 0)])]) (.c4 I .nil) h (fun k_50 h => ?_) (fun v h => ?_)
 ·refine .block<|.sr<|.m I<|.p I (.str_eql I I I)<|.z I<|.nil<|.condS I h (fun h => ?_) fun h => ?_
  ·refine .skip ⟨_, h, _, Fz8 I trivial⟩
  ·refine .sr<|.m I<|bK h fun x51 q51 h => .p I (.sidx I I I U9 q51)<|bK h fun x52 q52 h => .p I (.call I K241 I (lexer_letter_ok _ _ _ q52))<|.z I<|.nil<|.condS I h (fun h => ?_) fun h => ?_
   ·refine .sr<|.m I<|bK h fun x53 q53 h => .p I (.call I K242 I (lexer_run_ok _ _ _ _ (fun q0 y hq => ⟨_, _, I, K243, lexer_part_ok _ q0 _ hq⟩) _ q53))<|.z I<|.p I (.fieldAddrLoc I I I F234_0)<|.store I I I I I I (.ofD I) C3 I (Nat.le_of_ble_eq_true I)<|.nil<|.keep [.box 234 [.d (.int 1), .d (.int 0), .d (.int (add64 0 x46)), .d (.int 0)]] [0, 1, 2, 5, 6, 7] (.c4 I<|.c2 I .nil) I<|.seq<|.draw 5 Hm (by kernel_rfl) (by kernel_rfl)<|.p I (.ld Y167 I)<|.m I<|.m I<|bK h fun x54 q54 h => .p I (.cutStrH I I I U9 q54)<|.p I (.mapGetD (ke := (fun l : List UInt8 => Value.string ⟨l.toArray⟩)) (ve := D.bool) I U167 KT9 I I (z := (false : Bool)) (.val Zv4))<|.nil<|.nil<|.condS I h (fun h => ?_) fun h => ?_
    ·refine .region<|.p I (.fieldAddrLoc I I I F234_0)<|.store I I I I I I (.ofD I) C3 I (Nat.le_of_ble_eq_true I)<|.nil ⟨_, h, _, Fz8 I trivial⟩
    ·refine .skip ⟨_, h, _, Fz8 I trivial⟩
   ·refine .sr<|.m I<|bK h fun x55 q55 h => .p I (.sidx I I I U9 q55)<|bK h fun x56 q56 h => .p I (.call I K244 I (lexer_digit_ok _ _ _ q56))<|.z I<|.nil<|.keep [.box 234 [.d (.int 0), .d (.int 0), .d (.int (add64 0 x46)), .d (.int 0)]] [0, 1, 2, 5, 6, 63] (.c4 I<|.c2 I .nil) I<|.condS I h (fun h => ?_) fun h => ?_
    ·refine .region<|.m I<|bK h fun x57 q57 h => .p I (.call I K242 I (lexer_run_ok _ _ _ _ (fun q0 y hq => ⟨_, _, I, K244, lexer_digit_ok _ q0 _ hq⟩) _ q57))<|.z I<|.p I (.fieldAddrLoc I I I F234_0)<|.store I I I I I I (.ofD I) C3 I (Nat.le_of_ble_eq_true I)<|.nil ⟨_, h, _, Fz8 I trivial⟩
    ·refine .sr<|.m I<|bK h fun x58 q58 h => .p I (.call I K245 I (lexer_symbol_ok _ _ _ q58))<|.p I (.gt I)<|.z I<|.nil<|.condS I h (fun h => ?_) fun h => ?_
     ·refine .region<|.m I<|bK h fun x59 q59 h => .p I (.call I K245 I (lexer_symbol_ok _ _ _ q59))<|.z I<|.p I (.fieldAddrLoc I I I F234_0)<|.store I I I I I I (.ofD I) C3 I (Nat.le_of_ble_eq_true I)<|.nil ⟨_, h, _, Fz8 I trivial⟩
     ·refine .sr<|.p I (.fieldAddrLoc I I I F234_0)<|.store I I I I I I (.ofD I) C3 I (Nat.le_of_ble_eq_true I)<|.nil<|.sr<|.z I<|.nil<|.block<|.loopS [0, 1, 2, 5, 6] (fun (v : Int) => [(7, .d (.int v))]) (fun (v : Int) => []) (.c4 I<|.c I .nil) h ⟨_, Fz8 I<|Fz1 I trivial⟩ (fun _ x78 h => ?_)
      refine .seq<|.seq<|.plain 24 I<|.m I<|.m I<|.p I (.len_str I U9 I)<|.p I (.ls I)<|.m I<|gK h fun c81 h => gK h fun c82 h => .jA 5 (!((lexer_white n ((sidx x47 x78).getD default)).getD default)) I (fun b80 => ?_) ?_
      ·refine .qm I<|.qm I<|.q I (.sidx I I I U9 (someD (impT c81 b80)))<|.q I (.call I K246 I (lexer_white_ok _ _ _ (someD (impT c82 b80))))<|.q I (.nt I)<|.nil I
      refine .m I<|gK h fun c84 h => .jA 4 (((sidx x47 x78).getD default) != 35) I (fun b83 => ?_) ?_
      ·refine .qm I<|.qm I<|.q I (.sidx I I I U9 (someD (impT c84 b83)))<|.q I (.ne I)<|.nil I
      refine .m I<|gK h fun c86 h => gK h fun c87 h => .jA 5 (!((lexer_begins n ((cut x47 x78 (x47.length : Int)).getD default)).getD default)) I (fun b85 => ?_) ?_
      ·refine .qm I<|.qm I<|.q I (.cutStrL I I I U9 (someD (impT c86 b85)))<|.q I (.call I K247 I (lexer_begins_ok _ _ _ (someD (impT c87 b85))))<|.q I (.nt I)<|.nil I
      refine .nil<|.nil<|.keep [.box 234 [.d (.int 5), .d (.int 0), .d (.int (add64 0 x46)), .d (.int 0)]] [0, 1, 2, 5, 6, 7, 44] (.c4 I<|.c2 I<|.c I .nil) I<|.condS I h (fun h => ?_) fun h => ?_
      ·refine .skip<|.seq<|.block<|.skip<|.region<|.m I<|.p I (.ad I)<|.z I<|.nil ⟨_, h, _, Fz8 I<|Fz1 I trivial⟩
      ·refine .exit ⟨_, h, _, Fz8 I trivial⟩
 ·obtain ⟨c0_0_48, x49⟩ := v
  refine .sr<|.p I (.fieldAddrLoc I I I F234_2)<|.p I (.loadLoc1 I I I Y3 I)<|.m I<|.p I (.ad I)<|.p I (.fieldAddrLoc I I I F234_3)<|.store I I I I I I (.ofD I) C3 I (Nat.le_of_ble_eq_true I)<|.nil<|.keep [.box 234 [.d (.int c0_0_48), .d (.int 0), .d (.int (add64 0 x46)), .d (.int (add64 (add64 0 x46) x49))]] [0, 1, 2, 5] (.c4 I .nil) I<|.sr<|.p I (.fieldAddrLoc I I I F234_3)<|.p I (.loadLoc1 I I I Y3 I)<|.z I<|.nil ?_
  cases h
  refine hY _ _ _ 0 ?_ ?_ ?_
  all_goals rfl
end Go.Proofs.YtcagdmegicijlaaGreatDoor
namespace Go.Proofs.YtcagdmegicijlaaGreatDoor
open Go Go.RowKit Go.Proofs
attribute [local go_sem] Oper.semAt_some
def kAsg : Code := (Code.region 4 #[{ dst := some 3, op := Op.alloc 234, type := 0, pos := "lexer.go:137", after := #[], guard := none }, { dst := none, op := Op.store 234 (Operand.tmp 3) (Operand.tmp 13), type := 0, pos := "lexer.go:137", after := #[{ on := 0, ground := Ground.data }, { on := 0, ground := Ground.phase }], guard := none }] false)
def kBody : Code := (Code.block 1 (((Code.region 5 #[{ dst := some 14, op := Op.fieldAddr 234 (Operand.tmp 3) 2, type := 0, pos := "lexer.go:138", after := #[], guard := none }, { dst := some 15, op := Op.load 3 (Operand.tmp 14), type := 3, pos := "lexer.go:138", after := #[{ on := 0, ground := Ground.data }], guard := none }, { dst := some 16, op := Op.binOp BinOp.neq 3 (Operand.tmp 15) (Operand.const (Value.int IntKind.i64 0)) 3, type := 4, pos := "lexer.go:138", after := #[{ on := 1, ground := Ground.data }], guard := none }, { dst := some 17, op := Op.move (Operand.tmp 16), type := 4, pos := "lexer.go:138", after := #[{ on := 2, ground := Ground.data }], guard := none }, { dst := some 18, op := Op.fieldAddr 234 (Operand.tmp 3) 3, type := 0, pos := "lexer.go:138", after := #[{ on := 3, ground := Ground.guard }], guard := some (3, false) }, { dst := some 19, op := Op.load 3 (Operand.tmp 18), type := 3, pos := "lexer.go:138", after := #[{ on := 4, ground := Ground.data }, { on := 3, ground := Ground.guard }], guard := some (3, false) }, { dst := some 20, op := Op.load 9 (Operand.tmp 1), type := 9, pos := "lexer.go:138", after := #[{ on := 3, ground := Ground.guard }], guard := some (3, false) }, { dst := some 21, op := Op.call { callee := Callee.builtin Builtin.len, args := #[Operand.tmp 20], argTypes := #[9] }, type := 3, pos := "lexer.go:138", after := #[{ on := 6, ground := Ground.data }, { on := 3, ground := Ground.guard }], guard := some (3, false) }, { dst := some 22, op := Op.binOp BinOp.neq 3 (Operand.tmp 19) (Operand.tmp 21) 3, type := 4, pos := "lexer.go:138", after := #[{ on := 5, ground := Ground.data }, { on := 7, ground := Ground.data }, { on := 3, ground := Ground.guard }], guard := some (3, false) }, { dst := some 23, op := Op.pick (Operand.tmp 17) (Operand.const (Value.bool true)) (Operand.tmp 22), type := 4, pos := "lexer.go:138", after := #[{ on := 3, ground := Ground.data }, { on := 8, ground := Ground.data }], guard := none }] false).seq (Code.cond (Operand.tmp 23) (Code.exit 0) Code.skip)).seq ((Code.region 6 #[{ dst := some 24, op := Op.fieldAddr 234 (Operand.tmp 3) 0, type := 0, pos := "lexer.go:141", after := #[], guard := none }, { dst := some 25, op := Op.load 3 (Operand.tmp 24), type := 3, pos := "lexer.go:141", after := #[{ on := 0, ground := Ground.data }], guard := none }, { dst := none, op := Op.store 3 (Operand.tmp 2) (Operand.tmp 25), type := 0, pos := "lexer.go:141", after := #[{ on := 1, ground := Ground.data }, { on := 0, ground := Ground.phase }, { on := 1, ground := Ground.phase }], guard := none }] false).seq Code.ret)))
def kRec (fn : FuncId) (tm : Array Value) (Dd : Nat) (st : LoopState) (pend : Option Code) : Loop :=
  { state := st, pending := pend, fn, tmps := tm, params := #[13], assign := kAsg, body := kBody, defers := Dd }
theorem kRound (fn : FuncId) (l Dd B : Nat) (p1 : Addr) (s : ByteArray) (k f a e : Int) (x0 x3 x4 x5 x6 x7 x8 x9 x10 x11 x12 x13 x14 x15 x16 x17 x18 x19 x20 x21 x22 x23 x24 x25 : Value) (W : World) (hBl : B ≠ l) (hp : p1.block ≠ l)
    (hl : W.heap[l]? = some (.loop (kRec fn #[x0, .pointer (some p1), .pointer (some ⟨B, 0, none⟩), x3, x4, x5, x6, x7, x8, x9, x10, x11, x12, x13, x14, x15, x16, x17, x18, x19, x20, x21, x22, x23, x24, x25] Dd .ready none))) (h1 : W.cell? p1 = some (.string s)) (hB : W.heap[B]? = some (.cells #[.int .i64 0] 3 (0, 0))) :
    RoundIn Fence.wide 0 Tryz.prog l fn #[x0, .pointer (some p1), .pointer (some ⟨B, 0, none⟩), x3, x4, x5, x6, x7, x8, x9, x10, x11, x12, (.agg #[.int .i64 k, .int .i64 f, .int .i64 a, .int .i64 e]), x14, x15, x16, x17, x18, x19, x20, x21, x22, x23, x24, x25] kAsg kBody W (fun en W' => en = .returned (.bool false) ∧ Fr (fun b => b = l ∨ b = B) W W' ∧
      ((((a != 0) || (e != (s.size : Int))) = true ∧ W'.heap[l]? = some (.loop (kRec fn #[x0, .pointer (some p1), .pointer (some ⟨B, 0, none⟩), x3, x4, x5, x6, x7, x8, x9, x10, x11, x12, x13, x14, x15, x16, x17, x18, x19, x20, x21, x22, x23, x24, x25] Dd .done (some (.exit 0)))) ∧ W'.heap[B]? = some (.cells #[.int .i64 0] 3 (0, 0))) ∨
       (((a != 0) || (e != (s.size : Int))) = false ∧ W'.heap[l]? = some (.loop (kRec fn #[x0, .pointer (some p1), .pointer (some ⟨B, 0, none⟩), x3, x4, x5, x6, x7, x8, x9, x10, x11, x12, x13, x14, x15, x16, x17, x18, x19, x20, x21, x22, x23, x24, x25] Dd .done (some .ret))) ∧ W'.heap[B]? = some (.cells #[.int .i64 k] 3 (0, 0))))) := by
  refine roundIn_of_wpIn trivial ?_
  unfold kAsg
  gi_wp2_with (rw [Oper.semAt_eq _ _ _ (fun c h => by cases h)]; go_simp; try go_bits)
  have hlt : l < W.heap.size := (Array.getElem?_eq_some_iff.1 hl).1
  have hBlt : B < W.heap.size := (Array.getElem?_eq_some_iff.1 hB).1
  have hplt : p1.block < W.heap.size := by
    refine Nat.lt_of_not_le fun h => ?_
    have e0 : W.heap[p1.block]? = none := Array.getElem?_eq_none_iff.2 h
    simp [World.cell?, e0] at h1
  obtain ⟨W1, hW1⟩ : ∃ W1, W.alloc (.cells #[.int .i64 k, .int .i64 f, .int .i64 a, .int .i64 e] 234) = W1 := ⟨_, rfl⟩
  have hold : ∀ q, q < W.heap.size → W1.heap[q]? = W.heap[q]? := fun q hq => by rw [← hW1]; exact Below.heap_alloc _ _ q hq
  have hnew : W1.heap[W.heap.size]? = some (.cells #[.int .i64 k, .int .i64 f, .int .i64 a, .int .i64 e] 234) := by rw [← hW1]; exact World.alloc_heap_new W _
  have hsz1 : W1.heap.size = W.heap.size + 1 := by rw [← hW1]; simp
  have hfr1 : Fr NoBlock W W1 := by rw [← hW1]; exact ⟨rfl, rfl, rfl, by simp, fun b hb _ => Below.heap_alloc W _ b hb, Nat.le_refl _⟩
  simp only [hW1]
  clear hW1
  have hL1 := (hold l hlt).trans hl
  have hbr := run_beginRound (P := Tryz.prog) hL1 rfl
  obtain ⟨W2, hW2⟩ : ∃ W2, W1.putObj l (.loop { kRec fn #[x0, .pointer (some p1), .pointer (some ⟨B, 0, none⟩), x3, x4, x5, x6, x7, x8, x9, x10, x11, x12, x13, x14, x15, x16, x17, x18, x19, x20, x21, x22, x23, x24, x25] Dd .ready none with state := .busy }) = W2 := ⟨_, rfl⟩
  have hfr2 : Fr (fun b => b = l) W1 W2 := by rw [← hW2]; exact ⟨rfl, rfl, rfl, by simp, fun b _ hne => World.putObj_heap_other hne, Nat.le_refl _⟩
  rw [hW2] at hbr
  have hput : ∀ q, q ≠ l → W2.heap[q]? = W1.heap[q]? := fun q hq => by rw [← hW2]; exact World.putObj_heap_other hq
  have hL2 := (World.putObj_heap_same (w := W1) (o := .loop { kRec fn #[x0, .pointer (some p1), .pointer (some ⟨B, 0, none⟩), x3, x4, x5, x6, x7, x8, x9, x10, x11, x12, x13, x14, x15, x16, x17, x18, x19, x20, x21, x22, x23, x24, x25] Dd .ready none with state := .busy }) (by omega : l < W1.heap.size))
  rw [hW2] at hL2
  refine ⟨W2, hbr, ?_⟩
  clear hW2 hbr
  have hT2 := (hput W.heap.size (by omega)).trans hnew
  have hB2 := ((hput B hBl).trans (hold B hBlt)).trans hB
  have hp2 : W2.cell? p1 = some (.string s) := ((World.cell?_of_block (hput p1.block hp)).trans (World.cell?_of_block (hold p1.block hplt))).trans h1
  have c0 : W2.cell? ⟨W.heap.size, 0, none⟩ = some (.int .i64 k) := by rw [cell_of_heap hT2]; rfl
  have c2 : W2.cell? ⟨W.heap.size, 2, none⟩ = some (.int .i64 a) := by rw [cell_of_heap hT2]; rfl
  have c3 : W2.cell? ⟨W.heap.size, 3, none⟩ = some (.int .i64 e) := by rw [cell_of_heap hT2]; rfl
  have cB : W2.cell? ⟨B, 0, none⟩ = some (.int .i64 0) := by rw [cell_of_heap hB2]; rfl
  have fB : W2.frozen? ⟨B, 0, none⟩ = false := by simp [World.frozen?, hB2]
  unfold kBody
  gi_wp2_with (rw [Oper.semAt_eq _ _ _ (fun c h => by cases h)]; go_simp; try go_bits)
  all_goals first
    | (refine ⟨_, _, run_endRound (some (.exit 0)) hL2, rfl, ?_, ?_, (World.putObj_heap_other hBl).trans hB2⟩
       · refine ((hfr1.mono fun _ _ x => x.elim).trans (hfr2.mono fun _ _ x => .inl x)).trans ⟨rfl, rfl, rfl, by simp, fun b _ hne => World.putObj_heap_other (fun h => hne (.inl h)), Nat.le_refl _⟩
       · exact World.putObj_heap_same (Array.getElem?_eq_some_iff.1 hL2).1)
    | (have hL3 : (W2.setCell ⟨B, 0, none⟩ (.int .i64 k)).heap[l]? = some (.loop { kRec fn #[x0, .pointer (some p1), .pointer (some ⟨B, 0, none⟩), x3, x4, x5, x6, x7, x8, x9, x10, x11, x12, x13, x14, x15, x16, x17, x18, x19, x20, x21, x22, x23, x24, x25] Dd .ready none with state := .busy }) := (Below.heap_setCell W2 ⟨B, 0, none⟩ _ l (Ne.symm hBl)).trans hL2
       refine ⟨_, _, run_endRound (some .ret) hL3, rfl, ?_, ?_, (World.putObj_heap_other hBl).trans ?_⟩
       · have f3 : Fr (fun b => b = l ∨ b = B) W2 (W2.setCell ⟨B, 0, none⟩ (.int .i64 k)) := ⟨rfl, rfl, rfl, by simp, fun b _ hne => Below.heap_setCell W2 ⟨B, 0, none⟩ _ b (fun h => hne (.inr h)), Nat.le_refl _⟩
         exact (((hfr1.mono fun _ _ x => x.elim).trans (hfr2.mono fun _ _ x => .inl x)).trans f3).trans ⟨rfl, rfl, rfl, by simp, fun b _ hne => World.putObj_heap_other (fun h => hne (.inl h)), Nat.le_refl _⟩
       · exact World.putObj_heap_same (Array.getElem?_eq_some_iff.1 hL3).1
       · simp [World.setCell, Array.getElem?_modify, hB2])
def kTailC : Code := .seq (Code.region 7 #[{ dst := none, op := Op.store 3 (Operand.tmp 2) (Operand.const (Value.int IntKind.i64 0)), type := 0, pos := "lexer.go:143", after := #[], guard := none }] false) .ret
theorem kTail (B : Nat) (x0 x1 x3 x4 x5 x6 x7 x8 x9 x10 x11 x12 x13 x14 x15 x16 x17 x18 x19 x20 x21 x22 x23 x24 x25 : Value) (df : List Deferred) (W : World) (Qf : Exit → Act → World → Prop) (hB : W.heap[B]? = some (.cells #[.int .i64 0] 3 (0, 0)))
  (h : Qf .ret { tmps := #[x0, x1, .pointer (some ⟨B, 0, none⟩), x3, x4, x5, x6, x7, x8, x9, x10, x11, x12, x13, x14, x15, x16, x17, x18, x19, x20, x21, x22, x23, x24, x25], defers := df } (W.setCell ⟨B, 0, none⟩ (.int .i64 0))) : kTailC.wp Tryz.prog Qf { tmps := #[x0, x1, .pointer (some ⟨B, 0, none⟩), x3, x4, x5, x6, x7, x8, x9, x10, x11, x12, x13, x14, x15, x16, x17, x18, x19, x20, x21, x22, x23, x24, x25], defers := df } W := by
 have cB : W.cell? ⟨B, 0, none⟩ = some (.int .i64 0) := by rw [cell_of_heap hB]; rfl
 have fB : W.frozen? ⟨B, 0, none⟩ = false := by simp [World.frozen?, hB]
 refine (wpIn_wide (n := 0)).1 ?_
 unfold kTailC
 gi_wp2
 exact h
theorem kTail' (B : Nat) (tm : Array Value) (hs : tm.size = 26) (ht2 : tm[2]? = some (.pointer (some ⟨B, 0, none⟩))) (df : List Deferred) (W : World) (Qf : Exit → Act → World → Prop) (hB : W.heap[B]? = some (.cells #[.int .i64 0] 3 (0, 0)))
  (h : Qf .ret { tmps := tm, defers := df } (W.setCell ⟨B, 0, none⟩ (.int .i64 0))) : kTailC.wp Tryz.prog Qf { tmps := tm, defers := df } W := by
 rcases tm with ⟨_ | ⟨x0, _ | ⟨x1, _ | ⟨x2, _ | ⟨x3, _ | ⟨x4, _ | ⟨x5, _ | ⟨x6, _ | ⟨x7, _ | ⟨x8, _ | ⟨x9, _ | ⟨x10, _ | ⟨x11, _ | ⟨x12, _ | ⟨x13, _ | ⟨x14, _ | ⟨x15, _ | ⟨x16, _ | ⟨x17, _ | ⟨x18, _ | ⟨x19, _ | ⟨x20, _ | ⟨x21, _ | ⟨x22, _ | ⟨x23, _ | ⟨x24, _ | ⟨x25, _ | ⟨x26, xs⟩⟩⟩⟩⟩⟩⟩⟩⟩⟩⟩⟩⟩⟩⟩⟩⟩⟩⟩⟩⟩⟩⟩⟩⟩⟩⟩⟩
 all_goals first | (exfalso; simp at hs; done) | skip
 all_goals first | (exfalso; simp at hs; omega) | skip
 simp at ht2
 subst ht2
 exact kTail B x0 x1 x3 x4 x5 x6 x7 x8 x9 x10 x11 x12 x13 x14 x15 x16 x17 x18 x19 x20 x21 x22 x23 x24 x25 df W Qf hB h
theorem Fr.past {w W0 W : World} {S : Nat → Prop} (h : Fr NoBlock w W0) (k : Fr S W0 W) (hS : ∀ b, S b → w.heap.size ≤ b) : Fr NoBlock w W :=
 ⟨k.os.trans h.os, k.tape.trans h.tape, k.output.trans h.output, Nat.le_trans h.size k.size, fun b hb _ => (k.block b (Nat.lt_of_lt_of_le hb h.size) fun hs => by have := hS b hs; omega).trans (h.block b hb fun x => x.elim), Nat.le_trans h.drawn k.drawn⟩
theorem kLeave {A : Nat → Prop} {w W : World} {tm : Array Value} {B Dd : Nat} {k : Int} (hs : tm.size = 26) (ht2 : tm[2]? = some (.pointer (some ⟨B, 0, none⟩))) (hB : W.heap[B]? = some (.cells #[.int .i64 k] 3 (0, 0))) (hD : W.heap[Dd]? = some (.deferred (some []))) (hBD : B ≠ Dd)
  (hf : Fr NoBlock w W) (hDw : w.heap.size ≤ Dd) : LeavesInM Fence.wide 0 Tryz.prog Tryz.f193 tm (pureEnd A w (.int k)) [{ target := .collected Dd, args := #[] }] .returning W := by
 refine ⟨by simp, .inl ⟨_, _, rfl, run_takeDeferred hD, ?_⟩⟩
 have hB2 : (W.putObj Dd (.deferred none)).heap[B]? = some (.cells #[.int .i64 k] 3 (0, 0)) := (World.putObj_heap_other hBD).trans hB
 have hl := run_loadAt_D (P := Tryz.prog) (A := fun _ => False) (w := W.putObj Dd (.deferred none)) (t := 3) (k := none) Y3 (b := B) (off := 0) (d := .int k) (u := .int .i64 k) (by simp only [D.rep]) rfl (fun q hq => by
  have hq0 : q = 0 := by simp [Value.cells] at hq; omega
  subst hq0
  rw [cell_of_heap hB2]; simp [Value.cells])
 simp only [Instr.loadAt, Instr.sureAddr, Sem.run_bind, Sem.run_pure, Result.andThen_ok] at hl
 refine ⟨.int .i64 k, ?_, _, rfl, ?_, by simp only [D.rep]⟩
 ·have hp : tm.getD 2 undef = .pointer (some ⟨B, 0, none⟩) := by
   have h2 : (2 : Nat) < tm.size := by omega
   rw [Array.getElem?_eq_getElem h2] at ht2
   simpa [Array.getD, h2] using ht2
  have hr : (resOne tm (.cell 2 3)).run Tryz.prog (W.putObj Dd (.deferred none)) = .ok (.int .i64 k) (W.putObj Dd (.deferred none)) := by
   simp only [resOne, Sem.run_bind, hp, asAddr, Sem.run_pure, Result.andThen_ok, hl]
  rw [results_eq]
  have hm : ((Tryz.f193).results.mapM (resOne tm)).run Tryz.prog (W.putObj Dd (.deferred none)) = .ok #[.int .i64 k] (W.putObj Dd (.deferred none)) := by
   show (#[ResultVar.cell 2 3].mapM (resOne tm)).run Tryz.prog _ = _
   rw [List.mapM_toArray]
   simp [Sem.run_map, hr]
  simp only [Sem.run_bind, hm, Result.andThen_ok, Sem.run_pure]
  rfl
 ·exact hf.past (S := fun b => b = Dd) ⟨rfl, rfl, rfl, by simp, fun b _ hne => World.putObj_heap_other hne, Nat.le_refl _⟩ (fun b hb => by rw [hb]; exact hDw)
theorem kRound' (fn : FuncId) (l Dd B : Nat) (p1 : Addr) (s : ByteArray) (k f a e : Int) (tm : Array Value) (hs : tm.size = 26) (ht1 : tm[1]? = some (.pointer (some p1))) (ht2 : tm[2]? = some (.pointer (some ⟨B, 0, none⟩))) (W : World) (hBl : B ≠ l) (hp : p1.block ≠ l)
    (hl : W.heap[l]? = some (.loop (kRec fn tm Dd .ready none))) (h1 : W.cell? p1 = some (.string s)) (hB : W.heap[B]? = some (.cells #[.int .i64 0] 3 (0, 0))) :
    RoundIn Fence.wide 0 Tryz.prog l fn (tm.setIfInBounds 13 (.agg #[.int .i64 k, .int .i64 f, .int .i64 a, .int .i64 e])) kAsg kBody W (fun en W' => en = .returned (.bool false) ∧ Fr (fun b => b = l ∨ b = B) W W' ∧
      ((((a != 0) || (e != (s.size : Int))) = true ∧ W'.heap[l]? = some (.loop (kRec fn tm Dd .done (some (.exit 0)))) ∧ W'.heap[B]? = some (.cells #[.int .i64 0] 3 (0, 0))) ∨
       (((a != 0) || (e != (s.size : Int))) = false ∧ W'.heap[l]? = some (.loop (kRec fn tm Dd .done (some .ret))) ∧ W'.heap[B]? = some (.cells #[.int .i64 k] 3 (0, 0))))) := by
  rcases tm with ⟨_ | ⟨x0, _ | ⟨x1, _ | ⟨x2, _ | ⟨x3, _ | ⟨x4, _ | ⟨x5, _ | ⟨x6, _ | ⟨x7, _ | ⟨x8, _ | ⟨x9, _ | ⟨x10, _ | ⟨x11, _ | ⟨x12, _ | ⟨x13, _ | ⟨x14, _ | ⟨x15, _ | ⟨x16, _ | ⟨x17, _ | ⟨x18, _ | ⟨x19, _ | ⟨x20, _ | ⟨x21, _ | ⟨x22, _ | ⟨x23, _ | ⟨x24, _ | ⟨x25, _ | ⟨x26, xs⟩⟩⟩⟩⟩⟩⟩⟩⟩⟩⟩⟩⟩⟩⟩⟩⟩⟩⟩⟩⟩⟩⟩⟩⟩⟩⟩⟩
  all_goals first | (exfalso; simp at hs; done) | skip
  all_goals first | (exfalso; simp at hs; omega) | skip
  simp at ht1 ht2
  subst ht1; subst ht2
  exact kRound fn l Dd B p1 s k f a e x0 x3 x4 x5 x6 x7 x8 x9 x10 x11 x12 x13 x14 x15 x16 x17 x18 x19 x20 x21 x22 x23 x24 x25 W hBl hp hl h1 hB
theorem hK238 : callable Tryz.prog 238 = true := by kernel_rfl
theorem hK218 : callable Tryz.prog 218 = true := by kernel_rfl
theorem hK239 : callable Tryz.prog 239 = true := by kernel_rfl
theorem hZ167 : zeroFits Tryz.prog 167 none = true := by kernel_rfl
abbrev KE : List UInt8 → Value := fun l : List UInt8 => Value.string ⟨l.toArray⟩
theorem lexer_tokens_ok (n : Nat) (t0 : List UInt8) (kw : GMap (List UInt8) Bool) (h : lexer_keywords n = some kw) : Pure Tryz.prog 218 [.str t0] (.fn (.func 239) [] [.ref (.str t0), .ref (GMap.dat KE D.bool kw)]) := by
 refine Pure.of_tri Tryz.func218 rfl (by rw [Tryz.ntmps218]; simp) fun A w => ?_
 rw [Tryz.ntmps218]
 refine .seq ?_
 refine .region ?_
 refine .op rfl rfl (.box rfl rfl) ?_
 refine .op rfl rfl (.assign rfl rfl) ?_
 refine .nil ?_
 refine .seq ?_
 refine .region ?_
 refine .op rfl rfl (.call rfl hK238 rfl (lexer_keywords_ok _ _ h)) ?_
 refine .allocStore rfl rfl rfl rfl rfl rfl rfl rfl (by simp) rfl rfl hZ167 ?_
 refine .nil ?_
 refine .seq ?_
 refine .region ?_
 refine .op rfl rfl (.makeFunc rfl rfl) ?_
 refine .op rfl rfl (.assign rfl rfl) ?_
 refine .nil ?_
 refine .ret ?_
 exact retOne rfl (.d _)
theorem lexer_Kind_ok (n : Nat) (t0 : List UInt8) (r : Int) (h : lexer_Kind n t0 = some r) : Pure Tryz.prog 193 [.str t0] (.int r) := by
  unfold lexer_Kind at h
  refine Pure.of_triM Tryz.func193 rfl (by rw [Tryz.ntmps193]; simp) fun A w => ?_
  rw [Tryz.ntmps193]
  refine .seq ?_
  refine .region ?_
  refine .op rfl rfl (.box rfl rfl) ?_
  refine .allocZ rfl rfl rfl rfl (.val Zv3) rfl ?_
  refine .nil ?_
  refine .seq ?_
  refine .seq ?_
  refine .plain 7 rfl ?_
  refine .op rfl rfl rfl rfl (.load rfl rfl Y9 rfl) ?_
  refine .op rfl rfl rfl rfl (.str_eql rfl rfl rfl) ?_
  refine .op rfl rfl rfl rfl (.move rfl rfl) ?_
  refine .jOr 3 (b2 := decide (4096 < (t0.length : Int))) rfl rfl rfl rfl (.inl rfl) (fun _ _ _ h1 => (by cases h1)) rfl rfl (fun hb_1 => ?_) ?_
  · refine .gop rfl rfl rfl rfl rfl rfl (.load rfl rfl Y9 rfl) ?_
    refine .gop rfl rfl rfl rfl rfl rfl (.len_str rfl U9 rfl) ?_
    refine .gop rfl rfl rfl rfl rfl rfl (.gtr rfl rfl rfl) ?_
    exact .nil rfl
  refine .nil ?_
  refine .nil ?_
  refine .condS rfl h (fun h => ?_) (fun h => ?_)
  · refine .seq ?_
    refine .region ?_
    refine .store rfl rfl rfl rfl rfl rfl (.ofD rfl) C3 rfl (Nat.le_of_ble_eq_true rfl) ?_
    refine .nil ?_
    refine .ret ?_
    cases h
    exact retCell1 rfl rfl Y3 (.d _)
  refine .skip ?_
  obtain ⟨kw, hkw, h⟩ := bindS h
  obtain ⟨tok, htok, h⟩ := bindS h
  refine Tri.le (t := ⟨[(1, .d (.ref (.str t0))), (2, .loc 0 0)], [.box 3 [.d (.int 0)]]⟩) ⟨rfl, rfl, rfl, trivial⟩ ?_
  refine ⟨fun bs a w' hR => ?_⟩
  have hR0 : R ⟨A, NoBlock, w, 26, fun _ _ => False, [], 0, []⟩ bs ⟨[(1, .d (.ref (.str t0))), (2, .loc 0 0)], [.box 3 [.d (.int 0)]]⟩ a w' := hR.noEsc
  refine wp_seq (wp_seq (Code.wp_mono ?_ (Tri.run (C := ⟨A, NoBlock, w, 26, fun _ _ => False, [], 0, []⟩) (Q := fun e s => e = .normal ∧ look 12 s.T = some (.d (.fn (.func 239) [] [.ref (.str t0), .ref (GMap.dat KE D.bool kw)])) ∧ look 1 s.T = some (.d (.ref (.str t0))) ∧ look 2 s.T = some (.loc 0 0) ∧ s.H[0]? = some (.box 3 [.d (.int 0)])) ?_ bs a w' hR0)))
  case refine_2 =>
    refine .region ?_
    refine .op rfl rfl (.load rfl rfl Y9 rfl) ?_
    refine .op rfl rfl (.call rfl hK218 rfl (lexer_tokens_ok _ _ _ hkw)) ?_
    refine .nil ?_
    exact ⟨rfl, rfl, rfl, rfl, rfl⟩
  rintro e a3 w3 (⟨bs3, s3, ⟨rfl, g12, g1, g2, gH⟩, hR3⟩ | ⟨_, hE⟩)
  case inr => exact hE.elim
  simp only [Exit.then]
  -- what the temporaries hold
  have e12 := hR3.ev (x := .tmp 12) (by simpa [ev] using g12)
  have e1 := hR3.ev (x := .tmp 1) (by simpa [ev] using g1)
  have e2 := hR3.ev (x := .tmp 2) (by simpa [ev] using g2)
  have hbox := hR3.blk 0 _ gH
  simp only [V.rep, gH] at e2
  obtain ⟨B, hB0, e2⟩ := e2
  simp only [Blk.rep] at hbox
  obtain ⟨B', vs, hB1, hBh, hvs⟩ := hbox
  obtain rfl : B = B' := by rw [hB0] at hB1; simpa using hB1
  have hvs : vs = #[.int .i64 0] := by
    simp only [V.reps, V.rep, D.rep] at hvs
    obtain ⟨v, vs', hv, rfl, rfl⟩ := hvs
    exact Array.toList_inj.1 hv
  subst hvs
  simp only [V.rep] at e12 e1
  simp only [D.rep] at e1
  obtain ⟨pb, po, pu, e1, hpA, hplt, hpu, hpc⟩ := e1
  subst hpu
  have hstr : w3.cell? ⟨pb, po, none⟩ = some (.string ⟨t0.toArray⟩) := by have := hpc 0 (by simp [Value.cells]); simpa [Value.cells] using this
  have e12' := e12
  simp only [D.rep] at e12
  obtain ⟨vs, us, e12, hv0, hus⟩ := e12
  simp only [D.reps] at hv0
  have hv0 : vs = #[] := by simpa using hv0
  subst hv0
  have hsz : a3.tmps.size = 26 := hR3.size
  have hdf : a3.defers = [] := hR3.defers
  have hown := hR3.own
  have hBlt : B < w3.heap.size := (Array.getElem?_eq_some_iff.1 hBh).1
  refine (wpIn_wide (n := 0)).1 (wpIn_block (wpIn_rangeFunc ?_))
  intro fn _
  obtain ⟨w4, hw4⟩ : ∃ w4, (w3.alloc (.deferred (some []))).alloc (.loop (kRec fn a3.tmps w3.heap.size .ready none)) = w4 := ⟨_, rfl⟩
  have hold : ∀ q, q < w3.heap.size → w4.heap[q]? = w3.heap[q]? := fun q hq => by rw [← hw4]; exact (Below.heap_alloc _ _ q (by simp; omega)).trans (Below.heap_alloc _ _ q hq)
  have hL4 : w4.heap[w3.heap.size + 1]? = some (.loop (kRec fn a3.tmps w3.heap.size .ready none)) := by rw [← hw4]; have := World.alloc_heap_new (w3.alloc (.deferred (some []))) (.loop (kRec fn a3.tmps w3.heap.size .ready none)); rwa [World.size_alloc] at this
  have hD4 : w4.heap[w3.heap.size]? = some (.deferred (some [])) := by rw [← hw4]; exact (Below.heap_alloc _ _ _ (by simp)).trans (World.alloc_heap_new w3 _)
  have hs4 : w4.heap.size = w3.heap.size + 2 := by rw [← hw4]; simp
  have hfr4 : Fr NoBlock w3 w4 := by
    rw [← hw4]
    exact (⟨rfl, rfl, rfl, by simp, fun b hb _ => Below.heap_alloc _ _ b hb, Nat.le_refl _⟩ : Fr NoBlock w3 (w3.alloc (.deferred (some [])))).trans ⟨rfl, rfl, rfl, by simp, fun b hb _ => Below.heap_alloc _ _ b hb, Nat.le_refl _⟩
  refine ⟨w3.heap.size + 1, [{ target := .collected w3.heap.size, args := #[] }], w4, { target := .fn (.func 239) us, args := #[.func (.yield (w3.heap.size + 1)) #[] #[]] }, w4, 239, #[.func (.yield (w3.heap.size + 1)) #[] #[]] ++ us, w4, ?_, ?_, fun _ _ => trivial, ?_, fun h => by simp [Fence.wide] at h, ?_⟩
  · rw [← hw4]; exact run_enterLoop_outer _ _ _ _ _
  · have ek : ∀ v, a3.eval (.const v) = v := fun _ => rfl
    simp [resolve, e12, Deferred.ofValue, ek]
  · simp only [invoke]; exact run_callFunc hK239 _ w4
  -- the blocks that are not the iterator's to touch
  obtain ⟨A', hA'⟩ : ∃ A' : Nat → Prop, A' = fun b => Own A bs3 b ∨ b = w3.heap.size ∨ b = w3.heap.size + 1 := ⟨_, rfl⟩
  have hAlt : ∀ b, A' b → b < w4.heap.size := fun b hb => by
    subst hA'
    rcases hb with (hb | hb) | rfl | rfl
    · have := hown.foreign b hb; omega
    · have := hown.lt b hb; omega
    · omega
    · omega
  have hAin : ∀ b, b < w3.heap.size → A' b → Own A bs3 b := fun b hb hb' => by
    subst hA'
    rcases hb' with hb' | rfl | rfl
    · exact hb'
    · omega
    · omega
  have hG4 : GlobOK A' w4 := hown.glob.fr hfr4 (fun _ x => x.elim) hAin
  have hargs : D.reps A' w4 [.fn (.yield (w3.heap.size + 1)) [] [], .ref (.str t0), .ref (GMap.dat KE D.bool kw)] ((#[Value.func (.yield (w3.heap.size + 1)) #[] #[]] : Array Value) ++ us).toList := by
    have := D.reps_fr hfr4 (fun _ x => x.elim) hAin _ _ hus
    simp only [Array.toList_append, List.cons_append, List.nil_append, D.reps, D.rep] at this ⊢
    exact ⟨_, _, rfl, ⟨#[], #[], rfl, rfl, rfl⟩, this⟩
  have hstr4 : w4.cell? ⟨pb, po, none⟩ = some (.string ⟨t0.toArray⟩) := by rw [World.cell?_of_block (hold pb hplt)]; exact hstr
  have hB4 : w4.heap[B]? = some (.cells #[.int .i64 0] 3 (0, 0)) := (hold B hBlt).trans hBh
  have ht1 : a3.tmps[1]? = some (.pointer (some ⟨pb, po, none⟩)) := by
    have : a3.tmps.getD 1 undef = .pointer (some ⟨pb, po, none⟩) := e1
    simpa [Array.getD, hsz] using this
  have ht2 : a3.tmps[2]? = some (.pointer (some ⟨B, 0, none⟩)) := by
    have : a3.tmps.getD 2 undef = .pointer (some ⟨B, 0, none⟩) := e2
    simpa [Array.getD, hsz] using this
  obtain ⟨Post, hPost⟩ : ∃ Post : World → Prop, Post = (fun W' => ∃ W0, Fr NoBlock w4 W0 ∧ Fr (fun b => b = w3.heap.size + 1 ∨ b = B) W0 W' ∧
      ((((tok.at_ != 0) || (tok.end_ != (t0.length : Int))) = true ∧ W'.heap[w3.heap.size + 1]? = some (.loop (kRec fn a3.tmps w3.heap.size .done (some (.exit 0)))) ∧ W'.heap[B]? = some (.cells #[.int .i64 0] 3 (0, 0))) ∨
       (((tok.at_ != 0) || (tok.end_ != (t0.length : Int))) = false ∧ W'.heap[w3.heap.size + 1]? = some (.loop (kRec fn a3.tmps w3.heap.size .done (some .ret))) ∧ W'.heap[B]? = some (.cells #[.int .i64 tok.kind] 3 (0, 0))))) := ⟨_, rfl⟩
  refine callsIn_wide.2 ((calls_of_triE (A := A') (w := w4) (Post := Post) Tryz.func239 rfl rfl (by rw [Tryz.ntmps239]; exact Nat.le_of_ble_eq_true rfl) hAlt hG4 hargs ?_).mono ?_)
  · have htri := lexer_tokens_1_tri n t0 kw (.fn (.yield (w3.heap.size + 1)) [] []) ⟨A', NoBlock, w4, 93, fun a W' => a.defers = [] ∧ Post W', [], 0, []⟩ rfl rfl (fun _ _ => False) tok htok (fun Q T H j q0 q5 qj => tokX_tri (Post := Post) (w3.heap.size + 1) tok ?_ Q T H j q0 q5 qj)
    · rw [bodyOf_eq Tryz.func239 rfl] at htri
      exact htri
    · intro W v hf hv
      simp only [Token.enc, D.rep, D.reps] at hv
      obtain ⟨vs, rfl, v1, l1, hvs, rfl, v2, l2, rfl, rfl, v3, l3, rfl, rfl, v4, l4, rfl, rfl, rfl⟩ := hv
      have hvs : vs = #[.int .i64 tok.kind, .int .i64 tok.from_, .int .i64 tok.at_, .int .i64 tok.end_] := Array.toList_inj.1 (by simpa using hvs)
      subst hvs
      have hLW : W.heap[w3.heap.size + 1]? = some (.loop (kRec fn a3.tmps w3.heap.size .ready none)) := (hf.block _ (by omega) (fun x => x.elim)).trans hL4
      refine ⟨fn, a3.tmps.setIfInBounds 13 (.agg #[.int .i64 tok.kind, .int .i64 tok.from_, .int .i64 tok.at_, .int .i64 tok.end_]), kAsg, kBody, ?_, (kRound' fn (w3.heap.size + 1) w3.heap.size B ⟨pb, po, none⟩ ⟨t0.toArray⟩ tok.kind tok.from_ tok.at_ tok.end_ a3.tmps hsz ht1 ht2 W (by omega) (by simp only; omega) hLW ?_ ?_).mono ?_⟩
      · have := run_yield (P := Tryz.prog) (args := #[.agg #[.int .i64 tok.kind, .int .i64 tok.from_, .int .i64 tok.at_, .int .i64 tok.end_]]) hLW rfl
        simpa [kRec] using this
      · rw [World.cell?_of_block (hf.block pb (by omega) (fun x => x.elim))]; exact hstr4
      · exact (hf.block B (by omega) (fun x => x.elim)).trans hB4
      · rintro e W' ⟨rfl, hf2, hcase⟩
        exact ⟨rfl, by rw [hPost]; exact ⟨W, hf, hf2, hcase⟩⟩
  · rintro e W ⟨⟨u, rfl⟩, hP⟩
    rw [hPost] at hP
    obtain ⟨W0, f1, f2, hcase⟩ := hP
    have hs0 : w4.heap.size ≤ W0.heap.size := f1.size
    have hD0 : W0.heap[w3.heap.size]? = some (.deferred (some [])) := (f1.block w3.heap.size (by omega) (fun x => x.elim)).trans hD4
    have hDW : W.heap[w3.heap.size]? = some (.deferred (some [])) := (f2.block w3.heap.size (by omega) (by rintro (h | h) <;> omega)).trans hD0
    have hww : w.heap.size ≤ w3.heap.size := hR3.fr.size
    have hBw : w.heap.size ≤ B := (hR3.new B (List.mem_of_getElem? hB0)).resolve_left (fun h => h)
    have hfr3 : Fr NoBlock w w3 := hR3.fr
    have hfW : Fr NoBlock w W := ((hfr3.trans hfr4).trans f1).past f2 (by rintro b (rfl | rfl) <;> omega)
    rcases hcase with ⟨hc, hL, hBW⟩ | ⟨hc, hL, hBW⟩
    · rw [if_pos hc] at h
      cases h
      refine ⟨some (.exit 0), _, run_endLoop hL (by simp [kRec]), ?_⟩
      have hB5 : (W.putObj (w3.heap.size + 1) (.loop { kRec fn a3.tmps w3.heap.size .done (some (.exit 0)) with state := .exhausted })).heap[B]? = some (.cells #[.int .i64 0] 3 (0, 0)) := (World.putObj_heap_other (by omega)).trans hBW
      have hD5 : (W.putObj (w3.heap.size + 1) (.loop { kRec fn a3.tmps w3.heap.size .done (some (.exit 0)) with state := .exhausted })).heap[w3.heap.size]? = some (.deferred (some [])) := (World.putObj_heap_other (by omega)).trans hDW
      have hf5 : Fr NoBlock w (W.putObj (w3.heap.size + 1) (.loop { kRec fn a3.tmps w3.heap.size .done (some (.exit 0)) with state := .exhausted })) := hfW.past (S := fun b => b = w3.heap.size + 1) ⟨rfl, rfl, rfl, by simp, fun b _ hne => World.putObj_heap_other hne, Nat.le_refl _⟩ (by rintro b rfl; omega)
      generalize W.putObj (w3.heap.size + 1) (.loop { kRec fn a3.tmps w3.heap.size .done (some (.exit 0)) with state := .exhausted }) = W5 at hB5 hD5 hf5 ⊢
      refine wpIn_exit ?_
      simp only [Exit.inBlock, if_true, Exit.then]
      have hB6 : (W5.setCell ⟨B, 0, none⟩ (.int .i64 0)).heap[B]? = some (.cells #[.int .i64 0] 3 (0, 0)) := by simp [World.setCell, Array.getElem?_modify, hB5]
      have hD6 : (W5.setCell ⟨B, 0, none⟩ (.int .i64 0)).heap[w3.heap.size]? = some (.deferred (some [])) := (Below.heap_setCell W5 ⟨B, 0, none⟩ _ _ (by simp only; omega)).trans hD5
      have hf6 : Fr NoBlock w (W5.setCell ⟨B, 0, none⟩ (.int .i64 0)) := by
        have k6 : Fr (fun b => b = B) W5 (W5.setCell ⟨B, 0, none⟩ (.int .i64 0)) := ⟨rfl, rfl, rfl, by simp, fun b _ hne => Below.heap_setCell W5 ⟨B, 0, none⟩ _ b hne, Nat.le_refl _⟩
        exact hf5.past k6 (by rintro b rfl; exact hBw)
      exact kTail' B a3.tmps hsz ht2 _ W5 _ hB5 (.inr ⟨rfl, by rw [hdf]; exact kLeave hsz ht2 hB6 hD6 (by omega) hf6 hww⟩)
    · rw [if_neg (by rw [hc]; simp)] at h
      cases h
      refine ⟨some .ret, _, run_endLoop hL (by simp [kRec]), ?_⟩
      have hB5 : (W.putObj (w3.heap.size + 1) (.loop { kRec fn a3.tmps w3.heap.size .done (some .ret) with state := .exhausted })).heap[B]? = some (.cells #[.int .i64 tok.kind] 3 (0, 0)) := (World.putObj_heap_other (by omega)).trans hBW
      have hD5 : (W.putObj (w3.heap.size + 1) (.loop { kRec fn a3.tmps w3.heap.size .done (some .ret) with state := .exhausted })).heap[w3.heap.size]? = some (.deferred (some [])) := (World.putObj_heap_other (by omega)).trans hDW
      have hf5 : Fr NoBlock w (W.putObj (w3.heap.size + 1) (.loop { kRec fn a3.tmps w3.heap.size .done (some .ret) with state := .exhausted })) := hfW.past (S := fun b => b = w3.heap.size + 1) ⟨rfl, rfl, rfl, by simp, fun b _ hne => World.putObj_heap_other hne, Nat.le_refl _⟩ (by rintro b rfl; omega)
      generalize W.putObj (w3.heap.size + 1) (.loop { kRec fn a3.tmps w3.heap.size .done (some .ret) with state := .exhausted }) = W5 at hB5 hD5 hf5 ⊢
      refine wpIn_ret ?_
      simp only [Exit.inBlock, Exit.then]
      exact .inr ⟨rfl, by rw [hdf]; exact kLeave hsz ht2 hB5 hD5 (by omega) hf5 hww⟩
end Go.Proofs.YtcagdmegicijlaaGreatDoor
