/- Part of the proof of one law of the seat. -/
import Derived.Test.YtcagdmegicijlaaGreatDoorMi03
import Derived.Shelf.SlGeneric
import Derived.Ground.SlsfProg
set_option linter.unusedVariables false
set_option linter.unusedSectionVars false
set_option linter.unusedSimpArgs false
set_option maxHeartbeats 4000000
namespace Go.Proofs.YtcagdmegicijlaaGreatDoor
open Go Go.RowKit
abbrev yv:=@_root_.List.take_succ_eq_append_getElem
theorem lexer_Name_ok (n t0 r) (h:zfV n t0=some r):Pure pg 143 [.str t0] (.bool r):=by
 refine Pure.ot Tryz.func143 I Tryz.ntmps143 I λA w=>.sA 1 I<|.seq<|.plain 8 I<|.A 1 I<|.p I (.len_str I U9 I)<|.A 2 I<|gK h λc2 h=>.jA 3 (((zeK n t0).getD default)==1) I (λb1=>?_) ?_
 ·refine .A 1 I<|.q I (.call I (kC I) I (lexer_Kind_ok _ _ _ (someD (impT c2 b1))))<|.A 1 I<|.nil I
 refine .nil<|.A 1 I<|.nil<|.ret (rO h I)
theorem cells_columned_1_ok (n t0 t1 r) (h:zcB n t0 t1=some r):Pure pg 194 [.int t0,.ref (eA t1)] (.bool r):=by
 refine Pure.ot Tryz.func194 I Tryz.ntmps194 I λA w=>.sA 1 I<|.seq<|.plain 8 I<|.A 3 I<|.jO 4 (decide ((t1.length:Int)≤t0)) I (λb1=>?_) ?_
 ·refine .A 2 I<|.q I (.len I U22 I)<|.A 1 I<|.nil I
 refine .nil<|.A 1 I<|.nil<|.ret (rO h I)
theorem cells_columned_ok (n t0 t1 r) (h:zee n t0 t1=some r):Pure pg 145 [eA t0,eA t1] (.bool r):=by
 refine Pure.ot Tryz.func145 I Tryz.ntmps145 I λA w=>.sA 2 I<|.seq<|.plain 9 I<|.A 1 I<|.p I (.len I U22 I)<|.A 2 I<|gK h λc2 h=>.jA 4 (!((zw n t1 (λq0=>zcB n q0 t0)).getD default)) I (λb1=>?_) ?_
 ·refine .A 1 I<|.q I (.makeFunc I I)<|.q I (.call I (kC I) I (zaW _ _ _ _ (λq0 y hq=>⟨_,_,I,K194,cells_columned_1_ok _ q0 _ _ hq⟩) _ (someD (impT c2 b1))))<|.A 1 I<|.nil I
 refine .nil<|.A 1 I<|.nil<|.ret (rO h I)
theorem cells_ranged_ok (n t0 r) (h:zfe n t0=some r):Pure pg 146 [Table.enc t0] (.bool r):=by
 refine Pure.ot Tryz.func146 I Tryz.ntmps146 I λA w=>.sA 2 I<|.seq<|.sA 2 I<|.block<|.J [1] h (λv=>[(5,.d (.bool v))]) (λv=>[]) I (λk_2 h=>?_) (λx1 h=>?_)
 ·refine .sA 2 I<|.condS I h (λh=>?_) λh=>?_
  ·refine .skip (ndE h I)
  ·refine .sA 2 I<|.condS I h (λh=>?_) λh=>?_
   ·refine .skip (ndE h I)
   ·refine .rA 2 I (ndE h I)
 ·refine .condS I h (λh=>?_) λh=>?_
  ·refine .seq<|.plain 19 I<|.p I (.fa I (zd2 _))<|.A 2 I<|.p I (.fa I (zd2 _))<|.A 4 I<|.jA 4 (decide ((-9999)≤t0.range.lo)) I (λb3=>?_) ?_
   ·refine .q I (.fa I (zd2 _))<|.A 3 I<|.nil I
   refine .A 1 I<|.jA 4 (decide (t0.range.hi≤9999)) I (λb4=>?_) ?_
   ·refine .q I (.fa I (zd2 _))<|.A 3 I<|.nil I
   refine .nil<|.A 1 I<|.nil<|.K [2] I<|.ret (rO h I)
  ·refine .skip<|.K [1] I<|.sr<|.p I (.fa I (zd2 _))<|.A 1 I<|.p I (.castD (Range.enc (⟨0,1⟩:Range)) I (.build I Pl87 (.agg Zc87 (ds':=[_,_]) (.e .e1)) I I))<|.p I (.seql I SE87 I I (xs:=Range.vals _) (ys:=Range.vals _) I I I I (SQ87 _ _))<|.A 1 I<|.nil<|.ret (rO h I)
theorem zd4 (n t0 r) (h:zca n t0=some r):Pure pg 147 [Table.enc t0] (.bool r):=by
 refine Pure.ot Tryz.func147 I Tryz.ntmps147 I λA w=>.sA 2 I<|.seq<|.plain 8 I<|.A 4 I<|.jO 3 (t0.kind==1) I (λb1=>?_) ?_
 ·refine .A 3 I<|.nil I
 refine .nil<|.A 1 I<|.nil<|.ret (rO h I)
theorem zef (n t0 t1 r) (h:zbh n t0 t1=some r):Pure pg 148 [eA t0,eA t1] (.int r):=by
 refine Pure.ot Tryz.func148 I Tryz.ntmps148 I λA w=>.sA 1 I<|.sA 1 I<|.seq<|.S 1 I<|.p I (.len I U22 I)<|.A 1 I<|.nil<|.block<|.L [0,8,9] h (λv=>[(5,.d (.int v.1)),(10,.d (.int v.2))]) (λv=>[]) I λ_ ⟨x9,x10⟩ h=>.sA 1 I<|.seq<|.condS I h (λh=>?_) λh=>?_
 ·refine .skip<|.seq<|.block<|.sr<|.X h I λx12 h=>.A 2 I<|.nil<|.region<|.A 3 I<|.X h I λx13 h=>.A 3 I<|.nil<|.rA 2 I (ndE h I)
 ·refine .exit<|.sA 2 I<|.ret (rO h I)
theorem zfw (n t0 t1 r) (h:zbS n t0 t1=some r):Pure pg 94 [eA t0,eB t1] (.bool r):=by
 refine Pure.ot Tryz.func94 I Tryz.ntmps94 I λA w=>.sA 1 I<|.seq<|.S 1 I<|.p I (.len I U22 I)<|.A 2 I<|.p I (.len I U23 I)<|.A 2 I<|.Z h I (cells_sized_ok _ _) λx1 h=>.p I (.buildSl [_,_,_] I I E144 I (λ_=>I) I (enc:=D.bool))<|.Z h I (cells_all_ok _ _) λx2 h=>.A 1 I<|.nil<|.condS I h (λh=>?_) λh=>?_
 ·refine .sA 1 I<|.ret (rO h I)
 ·refine .skip<|.sr<|.makeMap (λl:List UInt8=>Value.string ⟨l.toArray⟩) D.bool I I I I<|.A 1 I<|.nil<|.sr<|.allocZ I I I I (.val Zv3) I<|.allocZ I I I I (.val Zv3) I<|.store I I I I I I (.ofD I) C3 I (yh I)<|.store I I I I I I (.ofD I) C3 I (yh I)<|.nil<|.K [0,1,5,6,7] I<|.seq<|.S 1 I<|.p I (.len I U23 I)<|.A 1 I<|.nil<|.block<|.L [0,5,6,7,23,24] h (λv=>[(25,.d (.int v.2.2.2))]) (λv=>[(0,GMap.blk (λl:List UInt8=>Value.string ⟨l.toArray⟩) D.bool v.1),(1,.box 3 [.d (.int v.2.1)]),(2,.box 3 [.d (.int v.2.2.1)])]) I λ_ ⟨m0_37,c1_0_38,c2_0_39,x40⟩ h=>.sA 1 I<|.K [0,5,6,7,23,24,25,26] I<|.seq<|.condS I h (λh=>?_) λh=>?_
  ·refine .skip<|.J [0,5,6,7,23,24,25] h (λv=>[]) (λv=>[(0,GMap.blk (λl:List UInt8=>Value.string ⟨l.toArray⟩) D.bool v.1),(1,.box 3 [.d (.int v.2.1)]),(2,.box 3 [.d (.int v.2.2)])]) I (λk_45 h=>?_) (λv h=>?_)
   ·refine .block<|.sr<|.X h I λx46 h=>.A 1 I<|.allocStore I I I I I I I I (by simp) I I Z127<|.nil<|.seq<|.seq<|.draw 20 Hm (by kernel_rfl) (by kernel_rfl)<|.A 2 I<|.Z h I (lexer_Name_ok _ _) λx47 h=>.A 3 I<|.p I (.mapGet I U167 KT9 I I I (z:=(false:Bool)) (.val Zv4))<|.A 3 I<|.Z h I (zgQ _ _ _ _) λx48 h=>.A 3 I<|.Z h I (cells_columned_ok _ _ _) λx49 h=>.A 1 I<|.Z h I (cells_ranged_ok _ _) λx50 h=>.p I (.buildSl [_,_,_,_,_] I I E144 I (λ_=>I) I (enc:=D.bool))<|.Z h I (cells_all_ok _ _) λx51 h=>.A 1 I<|.nil<|.nil<|.K [0,5,6,7,9,23,24,25,48] I<|.condS I h (λh=>?_) λh=>?_
    ·refine .sA 1 I<|.ret (rO h I)
    ·refine .skip<|.S 3 I<|.mapPut (k:=x46.name) (v:=true) I I I U167 KT9 I I I I<|.nil<|.sA 1 I<|.seq<|.S 1 I<|.Z h I (zd4 _ _) λx52 h=>.nil<|.condS I h (λh=>?_) λh=>?_
     ·refine .rA 1 I<|.seq<|.seq<|.draw 6 Hm (by kernel_rfl) (by kernel_rfl)<|.A 3 I<|.p I (.nilCheck_loc I I I)<|.p I (.loadLoc1 I I I Y3 I)<|.A 1 I<|.nil<|.nil<|.condS I h (λh=>?_) λh=>?_
      ·refine .sA 1 I<|.ret (rO h I)
      ·refine .skip<|.draw 9 Hm (by kernel_rfl) (by kernel_rfl)<|.A 1 I<|.p I (.nilCheck_loc I I I)<|.p I (.loadLoc1 I I I Y3 I)<|.A 3 I<|.Z h I (zef _ _ _) λx53 h=>.A 1 I<|.p I (.nilCheck_loc I I I)<|.nil<|.store I I I I I I (.ofD I) C3 I (yh I)<|.nil (ndE h I)
     ·refine .skip<|.seq<|.seq<|.draw 6 Hm (by kernel_rfl) (by kernel_rfl)<|.A 3 I<|.p I (.nilCheck_loc I I I)<|.p I (.loadLoc1 I I I Y3 I)<|.A 1 I<|.nil<|.nil<|.condS I h (λh=>?_) λh=>?_
      ·refine .sA 1 I<|.ret (rO h I)
      ·refine .skip<|.draw 9 Hm (by kernel_rfl) (by kernel_rfl)<|.A 1 I<|.p I (.nilCheck_loc I I I)<|.p I (.loadLoc1 I I I Y3 I)<|.A 3 I<|.Z h I (zef _ _ _) λx54 h=>.A 1 I<|.p I (.nilCheck_loc I I I)<|.nil<|.store I I I I I I (.ofD I) C3 I (yh I)<|.nil (ndE h I)
   ·obtain ⟨m0_42,c1_0_43,c2_0_44⟩:=v
    refine .rA 2 I (ndE h I)
  ·refine .exit<|.seq<|.plain 6 I<|.p I (.loadLoc1 I I I Y3 I)<|.A 2 I<|.jA 2 (decide (c2_0_39≤64)) I (λb55=>?_) ?_
   ·refine .q I (.loadLoc1 I I I Y3 I)<|.A 1 I<|.nil I
   refine .nil<|.A 1 I<|.nil<|.ret (rO h I)
theorem zfY (n t0 r) (h:zav n t0=some r):Pure pg 95 [eC t0] (.bool r):=by
 refine Pure.ot Tryz.func95 I Tryz.ntmps95 I λA w=>.sA 1 I<|.sr<|.makeMap (λl:List UInt8=>Value.string ⟨l.toArray⟩) D.bool I I I I<|.A 1 I<|.nil<|.seq<|.S 1 I<|.p I (.len I U24 I)<|.A 1 I<|.nil<|.block<|.L [3,7,8] h (λv=>[(9,.d (.int v.2))]) (λv=>[(0,GMap.blk (λl:List UInt8=>Value.string ⟨l.toArray⟩) D.bool v.1)]) I λ_ ⟨m0_11,x12⟩ h=>.sA 1 I<|.K [3,7,8,9,10] I<|.seq<|.condS I h (λh=>?_) λh=>?_
 ·refine .skip<|.seq<|.block<|.sr<|.X h I λx14 h=>.A 2 I<|.nil<|.seq<|.seq<|.plain 8 I<|.A 1 I<|.Z h I (lexer_Name_ok _ _) λx15 h=>.A 2 I<|.jO 3 ((m0_11.get? x14).getD false) I (λb16=>?_) ?_
  ·refine .A 2 I<|.q I (.mapGet I U167 KT9 I I I (z:=(false:Bool)) (.val Zv4))<|.nil I
  refine .nil<|.nil<|.condS I h (λh=>?_) λh=>?_
  ·refine .sA 1 I<|.ret (rO h I)
  ·refine .skip<|.region<|.A 2 I<|.mapPut (k:=x14) (v:=true) I I I U167 KT9 I I I I<|.nil<|.rA 2 I (ndE h I)
 ·refine .exit<|.sA 1 I<|.ret (rO h I)
theorem math_bits_Mul64_ok (n t0 t1 r) (h:zeT n t0 t1=some r):Pure pg 220 [.val (.int .u64 t0),.val (.int .u64 t1)] (.tup [.val (.int .u64 r.1),.val (.int .u64 r.2)]):=by
 refine Pure.ot Tryz.func220 I Tryz.ntmps220 I λA w=>.sA 2 I<|.S 1 I<|.p I (.band I I I)<|.A 1 I<|.nil<|.S 1 I<|bK h λx1 q1 h=>.p I (.shr I I I q1)<|.A 1 I<|.nil<|.S 1 I<|.p I (.band I I I)<|.A 1 I<|.nil<|.S 1 I<|bK h λx2 q2 h=>.p I (.shr I I I q2)<|.A 1 I<|.nil<|.S 2 I<|.p I (.mul I I I)<|.A 1 I<|.nil<|.K [0,1,6,7,8,9,10] I<|.S 2 I<|.p I (.mul I I I)<|.A 1 I<|bK h λx3 q3 h=>.p I (.shr I I I q3)<|.p I (.add I I I)<|.A 1 I<|.nil<|.S 1 I<|.p I (.band I I I)<|.A 1 I<|.nil<|.S 1 I<|bK h λx4 q4 h=> ?_
 refine .p I (.shr I I I q4)<|.A 1 I<|.nil<|.S 3 I<|.p I (.mul I I I)<|.p I (.add I I I)<|.A 1 I<|.nil<|.K [0,1,7,9,12,13] I<|.S 2 I<|.p I (.mul I I I)<|.A 1 I<|.p I (.add I I I)<|.A 1 I<|bK h λx5 q5 h=>.p I (.shr I I I q5)<|.p I (.add I I I)<|.A 1 I<|.nil<|.S 2 I<|.p I (.mul I I I)<|.A 1 I<|.nil<|.ret ?_
 cases h
 exact zcd I I (.d _) (.d _)
theorem math_bits_Mul_ok (n t0 t1 r) (h:zeF n t0 t1=some r):Pure pg 195 [.val (.int .u64 t0),.val (.int .u64 t1)] (.tup [.val (.int .u64 r.1),.val (.int .u64 r.2)]):=by
 refine Pure.ot Tryz.func195 I Tryz.ntmps195 I λA w=>.sA 2 I<|.seq<|.condF I<|.skip<|.S 2 I<|.Z h I (math_bits_Mul64_ok _ _ _) λx1 h=>.A 1 I<|.p I (.extract I I I)<|.p I (.extract I I I)<|.A 2 I<|.nil<|.sA 4 I<|.ret ?_
 cases h
 exact zcd I I (.d _) (.d _)
theorem zdX (n t0 t1 r) (h:zJ n t0 t1=some r):Pure pg 149 [eK t0,.int t1] (eK r):=by
 refine Pure.ot Tryz.func149 I Tryz.ntmps149 I λA w=>.sr<|.p I (.nilS 2 (α:=Range) Range.enc I)<|.nil<|.seq<|.sA 2 I<|.condS I h (λh=>?_) λh=>?_
 ·refine .region ?_
  cases h
 ·refine .skip<|.S 1 I<|.p I (.len I U48 I)<|.p I (.conv I U3 U210 I)<|.A 1 I<|.p I (.conv I U3 U210 I)<|.Z h I (math_bits_Mul_ok _ _ _) λx1 h=>.A 1 I<|.p I (.extract I I I)<|.p I (.extract I I I)<|.A 2 I<|.nil<|.seq<|.seq<|.plain 6 I<|.A 3 I<|.jO 2 (decide (9223372036854775807<x1.2)) I (λb2=>?_) ?_
  ·refine .A 2 I<|.nil I
  refine .nil<|.nil<|.K [0,6,26] I<|.condS I h (λh=>?_) λh=>?_
  ·refine .region ?_
   cases h
  ·refine .skip<|.S 1 I<|.p I (.conv I U210 U3 I)<|bK h λx3 q3 h=>.makeVec (enc:=Range.enc) (z:=(⟨0,0⟩:Range)) I I I I E48 I I I (.agg Zc87 (ds':=[.int 0,.int 0]) (.e .e1)) q3<|.A 1 I<|.nil<|.S 2 I<|.asSub 31 I<|.copySub (enc:=Range.enc) (l:=x3) (ys:=t0) I I I I E48 I I I (.d I) (λ_=>I)<|.relen 7 I (copyTo_lenW _ t0).symm<|.relen 30 I (copyTo_lenW _ t0).symm<|.A 1 I<|.nil<|.seq<|.block<|.L [] h (λv=>[(7,.vec 0 (List.length v.1)),(8,.d (.int v.2))]) (λv=>[(0,.vec 87 2 (List.map Range.enc v.1))]) I λ_ ⟨b0_12,x13⟩ h=>.seq<|.S 2 I<|.p I (.lenV I U48 I I I)<|.A 1 I<|.nil<|.K [7,8,37] I<|.condS I h (λh=>?_) λh=>?_
   ·refine .skip<|.block<|.drawF 7 [0] Hm (by kernel_rfl) (by kernel_rfl)<|.A 3 I<|bK h λx15 q15 h=>.p I (.subL I I I I I U48 S87 q15)<|.A 2 I<|bK h λx16 q16 h=>.p I (.subH I I I I I U48 S87 q16)<|.nil ⟨.move I I .nil,?_⟩
    refine .copySub (enc:=Range.enc) (l:=b0_12) (ys:=((b0_12.drop 0).take (x13.toNat - 0))) I I I I E48 I I I (.sub I I I) (λ_=>I)<|.relen 7 I (zeP q15 ((b0_12.drop 0).take (x13.toNat - 0))).symm<|.relen 39 I (zeP q15 ((b0_12.drop 0).take (x13.toNat - 0))).symm<|.relen 42 I (zeP q15 ((b0_12.drop 0).take (x13.toNat - 0))).symm<|.A 2 I<|.nil (ndE h I)
   ·refine .exit<|.sA 2 I<|.ret ?_
    cases h
    exact zb8 I (.vec I (by simp))
theorem zgO (n t0 t1 t2 r) (h:zbM n t0 t1 t2=some r):Pure pg 96 [eA t0,eB t1,.bool t2] (eK r):=by
 refine Pure.ot Tryz.func96 I Tryz.ntmps96 I λA w=>.sr<|.p I (.nilS 2 (α:=Range) Range.enc I)<|.nil<|.seq<|.S 2 I<|.Z h I (zfw _ _ _) λx1 h=>.A 1 I<|.nil<|.condS I h (λh=>?_) λh=>?_
 ·refine .sr<|.p I (.nilS 2 (α:=Range) Range.enc I)<|.nil<|.ret ?_
  cases h
  exact zb8 I (.d _)
 ·refine .skip<|.S 1 I<|.nilVec 7 2 87 I<|.nil<|.seq<|.S 1 I<|.p I (.len I U23 I)<|.A 1 I<|.nil<|.block<|.L [0,2,14,15] h (λv=>[(7,.vec 0 (List.length v.1)),(16,.d (.int v.2))]) (λv=>[(0,.vec 87 2 (List.map Range.enc v.1))]) I λ_ ⟨b0_20,x21⟩ h=>.sA 1 I<|.K [0,2,7,14,15,16,17] I<|.seq<|.condS I h (λh=>?_) λh=>?_
  ·refine .skip<|.J [0,2,14,15,16] h (λv=>[(7,.vec 0 (List.length v))]) (λv=>[(0,.vec 87 2 (List.map Range.enc v))]) I (λk_24 h=>?_) (λb0_23 h=>?_)
   ·refine .block<|.sr<|.X h I λx25 h=>.A 1 I<|.allocStore I I I I I I I I (by simp) I I Z127<|.nil<|.S 1 I<|.Z h I (zd4 _ _) λx26 h=>.A 1 I<|.p I (.beq I U4 I I)<|.nil<|.condS I h (λh=>?_) λh=>?_
    ·refine .draw 9 Hm (by kernel_rfl) (by kernel_rfl)<|.A 1 I<|.p I (.fa I (zd2 _))<|.A 1 I<|.p I (.buildSl [_] I I E48 I (λ_=>I) I (enc:=Range.enc))<|.A 3 I<|.Z h I (zef _ _ _) λx27 h=>.Z h I (zdX _ _ _) λx28 h=>.nil<|bK h λx29 q29 h=>.app I I I I I I I I E48 I (λ_=>I) q29<|.A 1 I<|.nil (ndE h I)
    ·refine .skip (ndE h I)
   ·refine .rA 2 I (ndE h I)
  ·refine .exit<|.sA 2 I<|.ret ?_
   cases h
   exact zb8 I (.vec I (by simp))
theorem zcF (n t0 t1 r) (h:zas n t0 t1=some r):Pure pg 150 [.int t0,.int t1] (.bool r):=by
 refine Pure.ot Tryz.func150 I Tryz.ntmps150 I λA w=>.sA 1 I<|.seq<|.plain 7 I<|.A 3 I<|.jA 3 (decide (t0<t1)) I (λb1=>?_) ?_
 ·refine .A 3 I<|.nil I
 refine .nil<|.A 1 I<|.nil<|.ret (rO h I)
theorem zdS (n t0 t1 r) (h:zaJ n t0 t1=some r):Pure pg 156 [.int t0,.int t1] (.bool r):=by
 refine Pure.ot Tryz.func156 I Tryz.ntmps156 I λA w=>.sA 1 I<|.seq<|.plain 9 I<|.A 2 I<|.p I (.neg6 I I)<|.A 2 I<|.jA 3 (decide (t0≤t1)) I (λb1=>?_) ?_
 ·refine .A 3 I<|.nil I
 refine .nil<|.A 1 I<|.nil<|.ret (rO h I)
theorem zfi (n t0 t1 r) (h:zaF n t0 t1=some r):Pure pg 151 [Judge.enc t0,Row.enc t1] (.bool r):=by
 refine Pure.ot Tryz.func151 I Tryz.ntmps151 I λA w=>.sA 3 I<|.sA 1 I<|.seq<|.S 2 I<|.p I (.len I U31 I)<|.A 1 I<|.nil<|.block<|.L [2,3,9,10] h (λv=>[(5,.d (.int v.1)),(11,.d (.int v.2))]) (λv=>[]) I λ_ ⟨x15,x16⟩ h=>.sA 1 I<|.seq<|.condS I h (λh=>?_) λh=>?_
 ·refine .skip<|.seq<|.block<|.sr<|.X h I λx18 h=>.A 1 I<|.allocStore I I I I I I I I (by simp) I I Z41<|.nil<|.seq<|.seq<|.plain 23 I<|.A 5 I<|.jO 6 (decide ((t0.strict.length:Int)≤x18.cell)) I (λb19=>?_) ?_
  ·refine .A 4 I<|.q I (.len I U48 I)<|.A 1 I<|.nil I
  refine .A 1 I<|.jO 3 (x18.factor==0) I (λb20=>?_) ?_
  ·refine .A 3 I<|.nil I
  refine .A 1 I<|gK h λc22 h=>.jO 4 (!((zaJ n x18.factor 1000).getD default)) I (λb21=>?_) ?_
  ·refine .A 2 I<|.q I (.call I (kC I) I (zdS _ _ _ _ (someD (impF c22 b21))))<|.A 1 I<|.nil I
  refine .nil<|.nil<|.K [2,3,7,9,10,11,37] I<|.condS I h (λh=>?_) λh=>?_
  ·refine .sA 1 I<|.ret (rO h I)
  ·refine .skip<|.rA 3 I<|.rA 2 I (ndE h I)
 ·refine .exit<|.S 2 I<|.Z h I (zdS _ _ _) λx23 h=>.A 1 I<|.nil<|.ret (rO h I)
theorem zgJ (n t0 t1 t2 r) (h:zbr n t0 t1 t2=some r):Pure pg 197 [Table.enc t0,.ref (Constraint.enc t1),.ref (Judge.enc t2)] (.bool r):=by
 refine Pure.ot Tryz.func197 I Tryz.ntmps197 I λA w=>.sA 2 I<|.seq<|.draw 42 Hm (by kernel_rfl) (by kernel_rfl)<|.A 4 I<|.jA 4 ((t0.columns.length:Int)==2) I (λb1=>?_) ?_
 ·refine .A 2 I<|.q I (.len I U22 I)<|.A 1 I<|.nil I
 refine .A 1 I<|gK h λc3 h=>gK h λc4 h=>.jA 9 (((idx t0.columns 0).getD default)==((idx t0.columns 1).getD default)) I (λb2=>?_) ?_
 ·refine .A 2 I<|.q I (.ix I U22 S3 (someD (impT c3 b2)))<|.A 3 I<|.q I (.ix I U22 S3 (someD (impT c4 b2)))<|.A 2 I<|.nil I
 refine .A 1 I<|.jA 5 (t0.first==t1.first) I (λb5=>?_) ?_
 ·refine .A 5 I<|.nil I
 refine .A 1 I<|gK h λc7 h=>gK h λc8 h=>.jA 12 (((idx t2.model.sorts ((idx t0.columns 0).getD default)).getD default)==t1.size) I (λb6=>?_) ?_
 ·refine .q I (.fa I (zch _))<|.A 4 I<|.q I (.ix I U22 S3 (someD (impT c7 b6)))<|.A 1 I<|.q I (.ix I U22 S3 (someD (impT c8 b6)))<|.A 4 I<|.nil I
 refine .A 1 I<|.nil<|.nil<|.K [4] I<|.ret (rO h I)
theorem zdk (n t0) (t1:Table→Option Bool) (F1:D) (hF1:∀ (q0:Table) (y:Bool),t1 q0=some y→Dyn pg F1 [Table.enc q0] (.bool y)) (r) (h:zx n t0 t1=some r):Pure pg 221 [eB t0,F1] (.int r):=by
 refine Pure.ot Tryz.func221 I Tryz.ntmps221 I λA w=>.sA 1 I<|.seq<|.S 1 I<|.p I (.len I U23 I)<|.A 1 I<|.nil<|.block<|.L [0,1,7] h (λv=>[(8,.d (.int v))]) (λv=>[]) I λ_ x7 h=>.sA 1 I<|.seq<|.condS I h (λh=>?_) λh=>?_
 ·refine .skip<|.seq<|.block<|.sA 2 I<|.S 3 I<|.X h I λx9 h=>.A 1 I<|bK h λx10 q10 h=>.p I (.dyn I I I (hF1 _ _ q10))<|.nil<|.condS I h (λh=>?_) λh=>?_
  ·refine .sA 2 I<|.ret (rO h I)
  ·refine .skip<|.rA 2 I (ndE h I)
 ·refine .exit<|.sA 1 I<|.ret (rO h I)
theorem zc0 (n t0) (t1:Table→Option Bool) (F1:D) (hF1:∀ (q0:Table) (y:Bool),t1 q0=some y→Dyn pg F1 [Table.enc q0] (.bool y)) (r) (h:zN n t0 t1=some r):Pure pg 196 [eB t0,F1] (.bool r):=by
 refine Pure.ot Tryz.func196 I Tryz.ntmps196 I λA w=>.sA 1 I<|.S 2 I<|.Z h I (zdk _ _ _ _ hF1) λx1 h=>.A 2 I<|.nil<|.ret (rO h I)
theorem model_judge_graph_ok (n t0 t1 r) (h:zbQ n t0 t1=some r):Pure pg 152 [Judge.enc t0,Constraint.enc t1] (.bool r):=by
 refine Pure.ot Tryz.func152 I Tryz.ntmps152 I λA w=>.sA 3 I<|.seq<|.plain 18 I<|.p I (.fa I (G78_2 _))<|.A 2 I<|.p I (.len I U31 I)<|.A 2 I<|.jA 4 (t1.row.bound==0) I (λb1=>?_) ?_
 ·refine .q I (.fa I (G78_2 _))<|.A 3 I<|.nil I
 refine .A 1 I<|gK h λc3 h=>.jA 5 (((zN n t0.model.tables (λq0=>zbr n q0 t1 t0)).getD default)) I (λb2=>?_) ?_
 ·refine .q I (.fa I (zch _))<|.A 2 I<|.q I (.makeFunc I I)<|.q I (.call I (kC I) I (zc0 _ _ _ _ (λq0 y hq=>⟨_,_,I,K197,zgJ _ q0 _ _ _ hq⟩) _ (someD (impT c3 b2))))<|.nil I
 refine .nil<|.A 1 I<|.nil<|.K [4] I<|.ret (rO h I)
theorem zep (n t0 t1 r) (h:zM n t0 t1=some r):Pure pg 198 [eL t0,eL t1] (.bool r):=by
 refine Pure.ot Tryz.func198 I Tryz.ntmps198 I λA w=>.sA 1 I<|.seq<|.S 1 I<|.p I (.len I U31 I)<|.A 1 I<|.p I (.len I U31 I)<|.A 1 I<|.nil<|.condS I h (λh=>?_) λh=>?_
 ·refine .sA 1 I<|.ret (rO h I)
 ·refine .skip<|.seq<|.S 1 I<|.p I (.len I U31 I)<|.A 1 I<|.nil<|.block<|.L [0,1,12] h (λv=>[(13,.d (.int v))]) (λv=>[]) I λ_ x7 h=>.sA 1 I<|.seq<|.condS I h (λh=>?_) λh=>?_
  ·refine .skip<|.seq<|.block<|.sA 2 I<|.seq<|.draw 9 Hm (by kernel_rfl) (by kernel_rfl)<|.A 2 I<|.X h I λx9 h=>.A 3 I<|.X h I λx10 h=>.A 1 I<|.p I (.sneq I SE41 I I (xs:=Term.vals _) (ys:=Term.vals _) I I I I (SQ41 _ _))<|.nil<|.nil<|.condS I h (λh=>?_) λh=>?_
   ·refine .sA 1 I<|.ret (rO h I)
   ·refine .skip<|.rA 2 I (ndE h I)
  ·refine .exit<|.sA 1 I<|.ret (rO h I)
theorem model_single_ok (n t0 t1 t2 t3 r) (h:zdD n t0 t1 t2 t3=some r):Pure pg 153 [Row.enc t0,.int t1,.int t2,.int t3] (.bool r):=by
 refine Pure.ot Tryz.func153 I Tryz.ntmps153 I λA w=>.sA 2 I<|.seq<|.plain 13 I<|.A 4 I<|.p I (.castD (Term.enc (⟨t1,t2⟩:Term)) I (.build I Pl41 (.agg Zc41 (ds':=[_,_]) (.e .e1)) I I))<|.p I (.buildSl [_] I I E31 I (λ_=>I) I (enc:=Term.enc))<|.Z h I (zep _ _ _) λx1 h=>.A 1 I<|.jA 4 (t0.bound==t3) I (λb2=>?_) ?_
 ·refine .A 4 I<|.nil I
 refine .nil<|.A 1 I<|.nil<|.K [8] I<|.ret (rO h I)
theorem zfa (n t0 r) (h:zab n t0=some r):Pure pg 97 [Judge.enc t0] (.bool r):=by
 refine Pure.ot Tryz.func97 I Tryz.ntmps97 I λA w=>.sA 2 I<|.seq<|.seq<|.plain 16 I<|.p I (.fa I (zch _))<|.A 2 I<|.p I (.len I U25 I)<|.A 2 I<|.jO 9 (decide ((t0.model.constraints.length:Int)<mul64 2 (t0.strict.length:Int))) I (λb1=>?_) ?_
 ·refine .q I (.fa I (zch _))<|.A 2 I<|.q I (.len I U25 I)<|.A 2 I<|.q I (.len I U48 I)<|.A 2 I<|.nil I
 refine .nil<|.nil<|.K [1,23] I<|.condS I h (λh=>?_) λh=>?_
 ·refine .sA 1 I<|.ret (rO h I)
 ·refine .skip<|.seq<|.sr<|.p I (.fa I (zch _))<|.A 2 I<|.p I (.len I U25 I)<|.A 1 I<|.nil<|.block<|.L [1,26,27] h (λv=>[(28,.d (.int v))]) (λv=>[]) I λ_ x42 h=>.sA 1 I<|.seq<|.condS I h (λh=>?_) λh=>?_
  ·refine .skip<|.J [1,26,27,28] h (λv=>[]) (λv=>[]) I (λk_44 h=>?_) (λv h=>?_)
   ·refine .block<|.S 1 I<|.X h I λx45 h=>.A 1 I<|.allocZ I I I I (.agg Zc78 (ds':=[.int 0,.int 0,eL [],.int 0,.int 0,.int 0]) (.e (.e (.o (.e (.e .e1)))))) I<|.A 1 I<|.store I I I I I I (.ofD I) C78 I (yh I)<|.nil<|.J [1,3,4,26,27,28] h (λv=>[]) (λv=>[]) I (λk_46 h=>?_) (λv h=>?_)
    ·refine .block<|.sr<|.p I (.fieldAddrLoc I I I F78_1)<|.p I (.loadLoc1 I I I Y3 I)<|.p I (.fa I (zch _))<|.A 2 I<|.p I (.len I U24 I)<|.Z h I (zcF _ _ _) λx47 h=>.A 2 I<|.nil<|.condS I h (λh=>?_) λh=>?_
     ·refine .sA 1 I<|.K [2] I<|.ret (rO h I)
     ·refine .sr<|.p I (.fieldAddrLoc I I I F78_0)<|.p I (.loadLoc1 I I I Y3 I)<|.A 2 I<|.nil<|.K [1,3,4,26,27,28,42] I<|.condS I h (λh=>?_) λh=>?_
      ·refine .seq<|.plain 15 I<|.p I (.fieldAddrLoc I I I F78_3)<|.p I (.loadLoc1 I I I Y3 I)<|.A 2 I<|.jO 3 (x45.size != 0) I (λb48=>?_) ?_
       ·refine .q I (.fieldAddrLoc I I I F78_4)<|.q I (.loadLoc1 I I I Y3 I)<|.A 1 I<|.nil I
       refine .A 1 I<|gK h λc50 h=>.jO 5 (!((zaF n t0 x45.row).getD default)) I (λb49=>?_) ?_
       ·refine .A 1 I<|.q I (.fieldAddrLoc I I I F78_2)<|.q I (.loadLoc I I I Y33 (yh I) (v:=.d (Row.enc x45.row)) I)<|.q I (.call I (kC I) I (zfi _ _ _ _ (someD (impF c50 b49))))<|.A 1 I<|.nil I
       refine .nil<|.nil<|.condS I h (λh=>?_) λh=>?_
       ·refine .sA 1 I<|.K [2] I<|.ret (rO h I)
       ·refine .skip (ndE h I)
      ·refine .seq<|.plain 9 I<|.p I (.fieldAddrLoc I I I F78_0)<|.p I (.loadLoc1 I I I Y3 I)<|.A 2 I<|gK h λc52 h=>.jO 4 (!((zbQ n t0 x45).getD default)) I (λb51=>?_) ?_
       ·refine .A 1 I<|.q I (.loadLoc I I I Y78 (yh I) (v:=.d (Constraint.enc x45)) I)<|.q I (.call I (kC I) I (model_judge_graph_ok _ _ _ _ (someD (impF c52 b51))))<|.A 1 I<|.nil I
       refine .nil<|.A 1 I<|.nil<|.condS I h (λh=>?_) λh=>?_
       ·refine .sA 1 I<|.ret (rO h I)
       ·refine .skip (ndE h I)
    ·refine .S 1 I<|bK h λx53 q53 h=>.p I (.quo6 I I I q53)<|.A 2 I<|.p I (.len I U48 I)<|.A 1 I<|.nil<|.K [1,3,4,26,27,28,76] I<|.condS I h (λh=>?_) λh=>?_
     ·refine .S 3 I<|bK h λx54 q54 h=>.p I (.quo6 I I I q54)<|.X h I λx55 h=>.A 1 I<|.allocStore I I I I I I I I (by simp) I I Z87<|.A 2 I<|.nil<|.J [1,3,4,26,27,28] h (λv=>[(6,.d (.int v.1)),(7,.d (.int v.2))]) (λv=>[]) I (λk_58 h=>?_) (λv h=>?_)
      ·refine .sA 3 I<|.S 1 I<|bK h λx59 q59 h=>.p I (.rem6 I I I q59)<|.A 1 I<|.nil<|.K [1,3,4,5,6,7,26,27,28,87] I<|.condS I h (λh=>?_) λh=>?_
       ·refine .draw 5 Hm (by kernel_rfl) (by kernel_rfl)<|.A 2 I<|.p I (.neg6 I I)<|.A 2 I<|.nil<|.nil (ndE h I)
       ·refine .skip (ndE h I)
      ·obtain ⟨x56,x57⟩:=v
       refine .seq<|.plain 13 I<|.p I (.fieldAddrLoc I I I F78_0)<|.p I (.loadLoc1 I I I Y3 I)<|.A 2 I<|gK h λc61 h=>gK h λc62 h=>.jO 8 (!((zdD n x45.row ((quo64 x42 2).getD default) x56 x57).getD default)) I (λb60=>?_) ?_
       ·refine .q I (.fieldAddrLoc I I I F78_2)<|.q I (.loadLoc I I I Y33 (yh I) (v:=.d (Row.enc x45.row)) I)<|.A 1 I<|.q I (.quo6 I I I (someD (impF c61 b60)))<|.A 2 I<|.q I (.call I (kC I) I (model_single_ok _ _ _ _ _ _ (someD (impF c62 b60))))<|.A 1 I<|.nil I
       refine .nil<|.nil<|.K [1,26,27,28,103] I<|.condS I h (λh=>?_) λh=>?_
       ·refine .sA 1 I<|.ret (rO h I)
       ·refine .skip (ndE h I)
     ·refine .skip (ndE h I)
   ·refine .rA 2 I (ndE h I)
  ·refine .exit<|.sA 1 I<|.ret (rO h I)
theorem zeU (n t0 t1 r) (h:zba n t0 t1=some r):Pure pg 155 [.int t0,.ref (Judge.enc t1)] (.bool r):=by
 refine Pure.ot Tryz.func155 I Tryz.ntmps155 I λA w=>.sA 1 I<|.seq<|.plain 10 I<|.A 3 I<|.jO 6 (decide ((t1.model.sorts.length:Int)≤t0)) I (λb1=>?_) ?_
 ·refine .A 1 I<|.q I (.fa I (zch _))<|.A 2 I<|.q I (.len I U22 I)<|.A 1 I<|.nil I
 refine .nil<|.A 1 I<|.nil<|.ret (rO h I)
theorem zfz (n t0 r) (h:zF n t0=some r):Pure pg 98 [Judge.enc t0] (.bool r):=by
 refine Pure.ot Tryz.func98 I Tryz.ntmps98 I λA w=>.sA 2 I<|.S 1 I<|.nilVec 3 1 9 I<|.nil<|.seq<|.sr<|.p I (.fa I (zch _))<|.A 2 I<|.p I (.len I U26 I)<|.A 1 I<|.nil<|.block<|.L [1,8,9] h (λv=>[(3,.vec 0 (List.length v.1)),(10,.d (.int v.2))]) (λv=>[(0,.vec 9 1 (List.map D.str v.1))]) I λ_ ⟨b0_13,x14⟩ h=>.sA 1 I<|.K [1,3,8,9,10,11] I<|.seq<|.condS I h (λh=>?_) λh=>?_
 ·refine .skip<|.seq<|.block<|.sr<|.X h I λx16 h=>.A 1 I<|.allocStore I I I I I I I I (by simp) I I Z129<|.nil<|.S 3 I<|.p I (.buildSl [_] I I E24 I (λ_=>I) I (enc:=D.str))<|bK h λx17 q17 h=>.app I I I I I I I I E24 I (λ_=>I) q17<|.A 1 I<|.nil<|.seq<|.plain 10 I<|.A 2 I<|.p I (.len I U22 I)<|.A 2 I<|gK h λc19 h=>.jO 4 (((zw n x16.sorts (λq0=>zba n q0 t0)).getD default)) I (λb18=>?_) ?_
  ·refine .A 2 I<|.q I (.makeFunc I I)<|.q I (.call I (kC I) I (zaW _ _ _ _ (λq0 y hq=>⟨_,_,I,K155,zeU _ q0 _ _ hq⟩) _ (someD (impF c19 b18))))<|.nil I
  refine .nil<|.nil<|.K [1,3,8,9,10,28] I<|.condS I h (λh=>?_) λh=>?_
  ·refine .sA 1 I<|.ret (rO h I)
  ·refine .skip<|.rA 2 I (ndE h I)
 ·refine .exit<|.seq<|.plain 7 I<|.A 1 I<|.p I (.lenV I U24 I I I)<|.A 2 I<|gK h λc21 h=>.jA 2 (((zav n b0_13).getD default)) I (λb20=>?_) ?_
  ·refine .A 1 I<|.q I (.callB I (kC I) (.cons I (.vec I (by simp)) .nil) I (zfY _ _ _ (someD (impT c21 b20))))<|.nil I
  refine .nil<|.A 1 I<|.nil<|.ret (rO h I)
theorem zgz (n t0 r) (h:zdJ n t0=some r):Pure pg 222 [.int t0] (.bool r):=by
 refine Pure.ot Tryz.func222 I Tryz.ntmps222 I λA w=>.sA 1 I<|.sA 4 I<|.ret (rO h I)
theorem zff (n t0 t1 r) (h:zci n t0 t1=some r):Pure pg 200 [.int t0,.int t1] (.int r):=by
 refine Pure.ot Tryz.func200 I Tryz.ntmps200 I λA w=>.sA 1 I<|.S 1 I<|.Z h I (zgz _ _) λx1 h=>.A 1 I<|.nil<|.S 1 I<|.Z h I (zgz _ _) λx2 h=>.A 1 I<|.nil<|.seq<|.sA 1 I<|.condS I h (λh=>?_) λh=>?_
 ·refine .seq<|.sA 1 I<|.condS I h (λh=>?_) λh=>?_
  ·refine .sA 1 I<|.ret (rO h I)
  ·refine .skip<|.sA 1 I<|.ret (rO h I)
 ·refine .skip<|.seq<|.sA 1 I<|.condS I h (λh=>?_) λh=>?_
  ·refine .sA 1 I<|.ret (rO h I)
  ·refine .skip<|.seq<|.sA 3 I<|.condS I h (λh=>?_) λh=>?_
   ·refine .sA 1 I<|.ret (rO h I)
   ·refine .skip<|.seq<|.sA 3 I<|.condS I h (λh=>?_) λh=>?_
    ·refine .sA 1 I<|.K [4] I<|.ret (rO h I)
    ·refine .skip<|.sA 1 I<|.K [4] I<|.ret (rO h I)
theorem zdc (n t0 t1 r) (h:zl n t0 t1=some r):Pure pg 157 [eA t0,eA t1] (.int r):=by
 refine Pure.ot Tryz.func157 I Tryz.ntmps157 I λA w=>.sA 1 I<|.seq<|.S 1 I<|.p I (.len I U22 I)<|.A 1 I<|.nil<|.block<|.L [0,1,9,10] h (λv=>[(11,.d (.int v))]) (λv=>[]) I λ_ x9 h=>.sA 1 I<|.seq<|.condS I h (λh=>?_) λh=>?_
 ·refine .skip<|.seq<|.block<|.S 1 I<|.X h I λx11 h=>.A 3 I<|.nil<|.seq<|.S 2 I<|.p I (.len I U22 I)<|.A 1 I<|.nil<|.condS I h (λh=>?_) λh=>?_
  ·refine .sA 1 I<|.ret (rO h I)
  ·refine .skip<|.S 2 I<|.X h I λx12 h=>.A 2 I<|.nil<|.S 2 I<|.Z h I (zff _ _ _) λx13 h=>.A 1 I<|.nil<|.K [0,1,8,9,10,11] I<|.sA 2 I<|.condS I h (λh=>?_) λh=>?_
   ·refine .sA 2 I<|.ret (rO h I)
   ·refine .skip<|.rA 2 I (ndE h I)
 ·refine .exit<|.seq<|.S 1 I<|.p I (.len I U22 I)<|.A 1 I<|.p I (.len I U22 I)<|.A 1 I<|.nil<|.condS I h (λh=>?_) λh=>?_
  ·refine .sA 1 I<|.ret (rO h I)
  ·refine .skip<|.sA 1 I<|.ret (rO h I)
theorem cells_Tuple_ok (n t0 t1 t2 t3 r) (h:zbg n t0 t1 t2 t3=some r):Pure pg 223 [eA t0,eB t1,.bool t2,.int t3] (.tup [.int r.1,eA r.2.1,.bool r.2.2]):=by
 refine Pure.ot Tryz.func223 I Tryz.ntmps223 I λA w=>.S 1 I<|.p I (.nilS 1 (α:=Int) D.int I)<|.A 1 I<|.nil<|.seq<|.seq<|.plain 8 I<|.A 2 I<|.Z h I (zfw _ _ _) λx1 h=>.A 2 I<|.jO 2 (decide (t3<0)) I (λb2=>?_) ?_
 ·refine .A 2 I<|.nil I
 refine .nil<|.nil<|.condS I h (λh=>?_) λh=>?_
 ·refine .S 1 I<|.p I (.nilS 1 (α:=Int) D.int I)<|.A 1 I<|.nil<|.ret ?_
  cases h
  exact retThree I I I (.d _) (.d _) (.d _)
 ·refine .skip<|.seq<|.S 1 I<|.p I (.len I U23 I)<|.A 1 I<|.nil<|.block<|.L [0,2,3,25,26] h (λv=>[(27,.d (.int v))]) (λv=>[]) I λ_ x73 h=>.sA 1 I<|.seq<|.condS I h (λh=>?_) λh=>?_
  ·refine .skip<|.seq<|.block<|.S 1 I<|.X h I λx75 h=>.A 1 I<|.allocZ I I I I (.agg Zc127 (ds':=[.str [],.int 0,eA [],.int 0,.int 0,.int 0]) (.e (.e (.o (.e (.e .e1)))))) I<|.A 1 I<|.store I I I I I I (.ofD I) C127 I (yh I)<|.nil<|.S 1 I<|.p I (.fieldAddrLoc I I I F127_4)<|.p I (.loadLoc1 I I I Y3 I)<|.A 2 I<|.nil<|.seq<|.seq<|.plain 16 I<|.p I (.loadLoc I I I Y127 (yh I) (v:=.d (Table.enc x75)) I)<|.Z h I (zd4 _ _) λx76 h=>.A 1 I<|.p I (.bne I U4 I I)<|.A 1 I<|.jO 2 (decide (sub64 t3 x75.first<0)) I (λb77=>?_) ?_
   ·refine .A 2 I<|.nil I
   refine .A 1 I<|gK h λc79 h=>.jO 6 (decide (((zbh n t0 x75.columns).getD default)≤sub64 t3 x75.first)) I (λb78=>?_) ?_
   ·refine .A 2 I<|.q I (.fieldAddrLoc I I I F127_2)<|.q I (.loadLoc1 I I I Y22 I)<|.q I (.call I (kC I) I (zef _ _ _ _ (someD (impF c79 b78))))<|.A 1 I<|.nil I
   refine .nil<|.nil<|.K [0,2,3,11,12,13,25,26,27,51] I<|.condS I h (λh=>?_) λh=>?_
   ·refine .exit<|.rA 2 I (ndE h I)
   ·refine .skip<|.sr<|.p I (.fieldAddrLoc I I I F127_2)<|.p I (.loadLoc1 I I I Y22 I)<|.p I (.len I U22 I)<|bK h λx80 q80 h=>.makeVec (enc:=D.int) (z:=(0:Int)) I I I I E22 I I I (.val Zv3) q80<|.A 1 I<|.nil<|.seq<|.S 1 I<|.p I (.lenV I U22 I I I)<|.A 2 I<|.nil<|.block<|.L [0,11,12] h (λv=>[(13,.d (.int v.2.1)),(14,.vec 1 (List.length v.1)),(15,.d (.int v.2.2))]) (λv=>[(1,.vec 3 1 (List.map D.int v.1))]) I λ_ ⟨b1_99,x100,x101⟩ h=>.seq<|.sA 2 I<|.K [0,11,12,13,14,15,60] I<|.condS I h (λh=>?_) λh=>?_
    ·refine .skip<|.seq<|.block<|.S 1 I<|.p I (.fieldAddrLoc I I I F127_2)<|.p I (.loadLoc1 I I I Y22 I)<|.A 1 I<|.X h I λx103 h=>.A 1 I<|.X h I λx104 h=>.A 2 I<|.nil<|.drawF 9 [5,6,7] Hm (by kernel_rfl) (by kernel_rfl)<|.A 4 I<|bK h λx105 q105 h=>.p I (.rem6 I I I q105)<|.A 2 I<|bK h λx106 q106 h=>.p I (.quo6 I I I q106)<|bK h λx107 q107 h=>.p I (.idxV I I I I I U22 S3 q107)<|.nil ⟨.move I I (.move I I (.ints I I I I .nil)),?_⟩
     refine bK h λb1_108 hb1_108 h=>.storeEl (enc:=D.int) I I I I I I I I I C3 hb1_108<|.relen 14 I (zdy hb1_108)<|.relen 71 I (zdy hb1_108)<|.A 1 I<|.nil<|.K [0,11,12,13,14,15] I<|.rA 3 I (ndE h I)
    ·refine .exit<|.sA 5 I<|.ret ?_
     cases h
     exact retThree I I I (.d _) (.vec I (by simp)) (.d _)
  ·refine .exit<|.S 1 I<|.p I (.nilS 1 (α:=Int) D.int I)<|.A 1 I<|.nil<|.ret ?_
   cases h
   exact retThree I I I (.d _) (.d _) (.d _)
theorem model_judge_update_ok (n t0 t1 r) (h:zbD n t0 t1=some r):Pure pg 201 [Judge.enc t0,Update.enc t1] (.bool r):=by
 refine Pure.ot Tryz.func201 I Tryz.ntmps201 I λA w=>.sA 3 I<|.sr<|.p I (.fa I (zch _))<|.A 2 I<|.p I (.fa I (zch _))<|.A 4 I<|.Z h I (cells_Tuple_ok _ _ _ _ _) λx1 h=>.A 1 I<|.p I (.extract I I I)<|.p I (.extract I I I)<|.p I (.extract I I I)<|.A 3 I<|.nil<|.K [2,3,5,7] I<|.seq<|.sA 2 I<|.condS I h (λh=>?_) λh=>?_
 ·refine .sA 1 I<|.ret (rO h I)
 ·refine .skip<|.sr<|.p I (.fa I (zch _))<|.A 3 I<|.X h I λx2 h=>.A 1 I<|.allocStore I I I I I I I I (by simp) I I Z127<|.nil<|.sA 2 I<|.block<|.J [3,8] h (λv=>[(51,.d (.bool v))]) (λv=>[]) I (λk_4 h=>?_) (λx3 h=>?_)
  ·refine .sA 2 I<|.condS I h (λh=>?_) λh=>?_
   ·refine .skip (ndE h I)
   ·refine .rA 2 I (ndE h I)
  ·refine .condS I h (λh=>?_) λh=>?_
   ·refine .seq<|.plain 13 I<|.A 4 I<|.jO 3 (t1.kind==1) I (λb5=>?_) ?_
    ·refine .A 3 I<|.nil I
    refine .A 1 I<|.jA 3 (t1.value==0) I (λb6=>?_) ?_
    ·refine .A 3 I<|.nil I
    refine .nil<|.A 1 I<|.nil<|.K [4] I<|.ret (rO h I)
   ·refine .seq<|.plain 19 I<|.A 4 I<|.jA 6 (decide (x2.range.lo≤t1.value)) I (λb7=>?_) ?_
    ·refine .A 2 I<|.q I (.fa I (zd2 _))<|.A 3 I<|.nil I
    refine .A 1 I<|.jA 6 (decide (t1.value≤x2.range.hi)) I (λb8=>?_) ?_
    ·refine .A 2 I<|.q I (.fa I (zd2 _))<|.A 3 I<|.nil I
    refine .nil<|.A 1 I<|.nil<|.K [4] I<|.ret (rO h I)
theorem zgn (n t0 t1 r) (h:zbk n t0 t1=some r):Pure pg 202 [Row.enc t0,.ref (Judge.enc t1)] (.bool r):=by
 refine Pure.ot Tryz.func202 I Tryz.ntmps202 I λA w=>.sA 2 I<|.S 2 I<|.Z h I (zfi _ _ _) λx1 h=>.A 2 I<|.nil<|.ret (rO h I)
theorem zd1 (n t0) (t1:Row→Option Bool) (F1:D) (hF1:∀ (q0:Row) (y:Bool),t1 q0=some y→Dyn pg F1 [Row.enc q0] (.bool y)) (r) (h:zH n t0 t1=some r):Pure pg 213 [eH t0,F1] (.int r):=by
 refine Pure.ot Tryz.func213 I Tryz.ntmps213 I λA w=>.sA 1 I<|.seq<|.S 1 I<|.p I (.len I U49 I)<|.A 1 I<|.nil<|.block<|.L [0,1,7] h (λv=>[(8,.d (.int v))]) (λv=>[]) I λ_ x7 h=>.sA 1 I<|.seq<|.condS I h (λh=>?_) λh=>?_
 ·refine .skip<|.seq<|.block<|.sA 2 I<|.S 3 I<|.X h I λx9 h=>.A 1 I<|bK h λx10 q10 h=>.p I (.dyn I I I (hF1 _ _ q10))<|.nil<|.condS I h (λh=>?_) λh=>?_
  ·refine .sA 2 I<|.ret (rO h I)
  ·refine .skip<|.rA 2 I (ndE h I)
 ·refine .exit<|.sA 1 I<|.ret (rO h I)
theorem zbY (n t0) (t1:Row→Option Bool) (F1:D) (hF1:∀ (q0:Row) (y:Bool),t1 q0=some y→Dyn pg F1 [Row.enc q0] (.bool y)) (r) (h:zo n t0 t1=some r):Pure pg 176 [eH t0,F1] (.bool r):=by
 refine Pure.ot Tryz.func176 I Tryz.ntmps176 I λA w=>.sA 1 I<|.S 2 I<|.Z h I (zd1 _ _ _ _ hF1) λx1 h=>.A 2 I<|.nil<|.ret (rO h I)
theorem model_judge_effect_ok (n t0 t1 r) (h:zK n t0 t1=some r):Pure pg 158 [Judge.enc t0,Effect.enc t1] (.bool r):=by
 refine Pure.ot Tryz.func158 I Tryz.ntmps158 I λA w=>.sA 3 I<|.sA 1 I<|.seq<|.S 2 I<|.p I (.len I U79 I)<|.A 1 I<|.nil<|.block<|.L [2,3,11,12] h (λv=>[(5,.d (.int v.1)),(13,.d (.int v.2))]) (λv=>[]) I λ_ ⟨x15,x16⟩ h=>.sA 1 I<|.seq<|.condS I h (λh=>?_) λh=>?_
 ·refine .skip<|.seq<|.block<|.sr<|.X h I λx18 h=>.A 1 I<|.allocStore I I I I I I I I (by simp) I I Z131<|.nil<|.seq<|.seq<|.plain 23 I<|.A 5 I<|.jO 6 (decide ((t0.strict.length:Int)≤x18.cell)) I (λb19=>?_) ?_
  ·refine .A 4 I<|.q I (.len I U48 I)<|.A 1 I<|.nil I
  refine .A 1 I<|.jO 3 (x18.add==0) I (λb20=>?_) ?_
  ·refine .A 3 I<|.nil I
  refine .A 1 I<|gK h λc22 h=>.jO 4 (!((zaJ n x18.add 1000000000).getD default)) I (λb21=>?_) ?_
  ·refine .A 2 I<|.q I (.call I (kC I) I (zdS _ _ _ _ (someD (impF c22 b21))))<|.A 1 I<|.nil I
  refine .nil<|.nil<|.K [2,3,7,11,12,13,39] I<|.condS I h (λh=>?_) λh=>?_
  ·refine .sA 1 I<|.ret (rO h I)
  ·refine .skip<|.rA 3 I<|.rA 2 I (ndE h I)
 ·refine .exit<|.sA 1 I<|.seq<|.S 2 I<|.p I (.len I U80 I)<|.A 1 I<|.nil<|.block<|.L [2,3,44,45] h (λv=>[(5,.d (.int v.1)),(46,.d (.int v.2))]) (λv=>[]) I λ_ ⟨x33,x34⟩ h=>.sA 1 I<|.seq<|.condS I h (λh=>?_) λh=>?_
  ·refine .skip<|.seq<|.block<|.sr<|.X h I λx36 h=>.A 1 I<|.allocStore I I I I I I I I (by simp) I I Z218<|.nil<|.seq<|.seq<|.plain 10 I<|.A 5 I<|gK h λc38 h=>.jO 4 (!((zbD n t0 x36).getD default)) I (λb37=>?_) ?_
   ·refine .A 2 I<|.q I (.call I (kC I) I (model_judge_update_ok _ _ _ _ (someD (impF c38 b37))))<|.A 1 I<|.nil I
   refine .nil<|.nil<|.condS I h (λh=>?_) λh=>?_
   ·refine .sA 1 I<|.ret (rO h I)
   ·refine .skip<|.rA 3 I<|.K [2,3,5,44,45,46] I<|.rA 2 I (ndE h I)
  ·refine .exit<|.seq<|.plain 17 I<|.A 2 I<|.p I (.len I U49 I)<|.A 2 I<|.jA 4 (decide ((t1.updates.length:Int)≤32)) I (λb39=>?_) ?_
   ·refine .A 2 I<|.q I (.len I U80 I)<|.A 1 I<|.nil I
   refine .A 1 I<|gK h λc41 h=>.jA 5 (!((zo n t1.hold (λq0=>zbk n q0 t0)).getD default)) I (λb40=>?_) ?_
   ·refine .A 2 I<|.q I (.makeFunc I I)<|.q I (.call I (kC I) I (zbY _ _ _ _ (λq0 y hq=>⟨_,_,I,K202,zgn _ q0 _ _ hq⟩) _ (someD (impT c41 b40))))<|.A 1 I<|.nil I
   refine .nil<|.A 1 I<|.nil<|.K [4] I<|.ret (rO h I)
theorem zgI (n t0 r) (h:zy n t0=some r):Pure pg 99 [Judge.enc t0] (.bool r):=by
 refine Pure.ot Tryz.func99 I Tryz.ntmps99 I λA w=>.sA 2 I<|.seq<|.sr<|.p I (.fa I (zch _))<|.A 2 I<|.p I (.len I U27 I)<|.A 1 I<|.nil<|.condS I h (λh=>?_) λh=>?_
 ·refine .sA 1 I<|.ret (rO h I)
 ·refine .skip<|.seq<|.sr<|.p I (.fa I (zch _))<|.A 2 I<|.p I (.len I U27 I)<|.A 1 I<|.nil<|.block<|.L [1,16,17] h (λv=>[(18,.d (.int v))]) (λv=>[]) I λ_ x81 h=>.sA 1 I<|.seq<|.condS I h (λh=>?_) λh=>?_
  ·refine .skip<|.seq<|.block<|.S 1 I<|.X h I λx83 h=>.A 1 I<|.allocZ I I I I (.agg Zc84 (ds':=[.int 0,eA [],eM [],eH [],eI []]) (.e (.o (.o (.o .o1))))) I<|.A 1 I<|.store I I I I I I (.ofD I) C84 I (yh I)<|.nil<|.seq<|.seq<|.draw 23 Hm (by kernel_rfl) (by kernel_rfl)<|.p I (.fieldAddrLoc I I I F84_0)<|.p I (.loadLoc1 I I I Y3 I)<|.p I (.fa I (zch _))<|.A 2 I<|.p I (.len I U26 I)<|.Z h I (zcF _ _ _) λx84 h=>.A 2 I<|gK h λc86 h=>.jO 13 ((x83.arguments.length:Int) != ((((idx t0.model.operations x83.operation).getD default).sorts).length:Int)) I (λb85=>?_) ?_
   ·refine .q I (.fieldAddrLoc I I I F84_1)<|.q I (.loadLoc1 I I I Y22 I)<|.q I (.len I U22 I)<|.q I (.fa I (zch _))<|.A 2 I<|.q I (.fieldAddrLoc I I I F84_0)<|.q I (.loadLoc1 I I I Y3 I)<|.q I (.ix I U26 S129 (someD (impF c86 b85)))<|.A 2 I<|.q I (.len I U22 I)<|.A 1 I<|.nil I
   refine .nil<|.nil<|.K [1,3,4,16,17,18,45] I<|.condS I h (λh=>?_) λh=>?_
   ·refine .sA 1 I<|.ret (rO h I)
   ·refine .skip<|.seq<|.sr<|.p I (.fa I (zch _))<|.A 2 I<|.p I (.fieldAddrLoc I I I F84_0)<|.p I (.loadLoc1 I I I Y3 I)<|.X h I λx87 h=>.A 2 I<|.p I (.len I U22 I)<|.A 1 I<|.nil<|.block<|.L [1,3,4,16,17,18,53,54] h (λv=>[(55,.d (.int v))]) (λv=>[]) I λ_ x106 h=>.sA 1 I<|.seq<|.condS I h (λh=>?_) λh=>?_
    ·refine .skip<|.seq<|.block<|.S 1 I<|.X h I λx108 h=>.A 3 I<|.nil<|.sr<|.p I (.fieldAddrLoc I I I F84_1)<|.p I (.loadLoc1 I I I Y22 I)<|.A 1 I<|.X h I λx109 h=>.A 2 I<|.nil<|.seq<|.plain 22 I<|.A 3 I<|gK h λc111 h=>.jA 3 (!((zaJ n x109 9999).getD default)) I (λb110=>?_) ?_
     ·refine .A 1 I<|.q I (.call I (kC I) I (zdS _ _ _ _ (someD (impT c111 b110))))<|.A 1 I<|.nil I
     refine .A 1 I<|gK h λc114 h=>gK h λc115 h=>.jO 13 ((decide (0≤x108))&&(!((zas n x109 ((idx t0.model.sorts x108).getD default)).getD default))) I (λb112=>?_) ?_
     ·refine .A 3 I<|.jAnd 9 (b2:=!((zas n x109 ((idx t0.model.sorts x108).getD default)).getD default)) I I I I (.inr ⟨_,_,_,I,I,I⟩) (λ_ _ _ h1 h2=>by cases h1;cases h2;decide) I I (λb113=>?_) ?_
      ·refine .A 1 I<|.q I (.fa I (zch _))<|.A 3 I<|.q I (.ix I U22 S3 (someD (impT (impF c114 b112) b113)))<|.A 1 I<|.q I (.call I (kC I) I (zcF _ _ _ _ (someD (impT (impF c115 b112) b113))))<|.A 1 I<|.nil I
      exact .nil I
     refine .nil<|.nil<|.K [1,3,4,16,17,18,53,54,55,86] I<|.condS I h (λh=>?_) λh=>?_
     ·refine .sA 1 I<|.ret (rO h I)
     ·refine .skip<|.rA 2 I (ndE h I)
    ·refine .exit<|.J [1,4,16,17,18] h (λv=>[]) (λv=>[]) I (λk_116 h=>?_) (λv h=>?_)
     ·refine .sA 2 I<|.condS I h (λh=>?_) λh=>?_
      ·refine .sr<|.p I (.fa I (zch _))<|.A 4 I<|.X h I λx117 h=>.A 1 I<|.allocStore I I I I I I I I (by simp) I I Z84<|.nil<|.seq<|.plain 20 I<|.A 2 I<|.p I (.fieldAddrLoc I I I F84_0)<|.p I (.loadLoc1 I I I Y3 I)<|.A 2 I<|gK h λc120 h=>.jO 13 ((x117.operation==x83.operation)&&(decide (0≤((zl n x117.arguments x83.arguments).getD default)))) I (λb118=>?_) ?_
       ·refine .A 2 I<|.q I (.fieldAddrLoc I I I F84_0)<|.q I (.loadLoc1 I I I Y3 I)<|.A 2 I<|.jAnd 6 (b2:=decide (0≤((zl n x117.arguments x83.arguments).getD default))) I I I I (.inr ⟨_,_,_,I,I,I⟩) (λ_ _ _ h1 h2=>by cases h1;cases h2;decide) I I (λb119=>?_) ?_
        ·refine .A 2 I<|.q I (.fieldAddrLoc I I I F84_1)<|.q I (.loadLoc1 I I I Y22 I)<|.q I (.call I (kC I) I (zdc _ _ _ _ (someD (impT (impF c120 b118) b119))))<|.A 1 I<|.nil I
        exact .nil I
       refine .nil<|.nil<|.K [1,4,16,17,18,116] I<|.condS I h (λh=>?_) λh=>?_
       ·refine .sA 1 I<|.ret (rO h I)
       ·refine .skip (ndE h I)
      ·refine .skip (ndE h I)
     ·refine .S 1 I<|.p I (.fieldAddrLoc I I I F84_2)<|.p I (.loadLoc I I I Y82 (yh I) (v:=.d (Effect.enc x83.effect)) I)<|.Z h I (model_judge_effect_ok _ _ _) λx121 h=>.A 1 I<|.nil<|.K [1,16,17,18,121] I<|.condS I h (λh=>?_) λh=>?_
      ·refine .sA 1 I<|.ret (rO h I)
      ·refine .skip<|.rA 2 I (ndE h I)
  ·refine .exit<|.sA 1 I<|.ret (rO h I)
theorem zgo (n t0 t1 t2 r) (h:zde n t0 t1 t2=some r):Pure pg 160 [Hide.enc t0,.ref (.int t1),.ref (GMap.dat (λn:Int=>Value.int .i64 n) D.bool t2)] (.bool r):=by
 refine Pure.ot Tryz.func160 I Tryz.ntmps160 I λA w=>.sA 2 I<|.seq<|.plain 10 I<|.A 5 I<|.jA 4 ((t2.get? t0.to).getD false) I (λb1=>?_) ?_
 ·refine .A 3 I<|.q I (.mapGetD (ke:=(λn:Int=>Value.int .i64 n)) (ve:=D.bool) I U180 KT3 I I (z:=(false:Bool)) (.val Zv4))<|.nil I
 refine .nil<|.A 1 I<|.nil<|.ret (rO h I)
theorem zdF (n t0) (t1:Hide→Option Bool) (F1:D) (hF1:∀ (q0:Hide) (y:Bool),t1 q0=some y→Dyn pg F1 [Hide.enc q0] (.bool y)) (r) (h:zB n t0 t1=some r):Pure pg 203 [eG t0,F1] (.int r):=by
 refine Pure.ot Tryz.func203 I Tryz.ntmps203 I λA w=>.sA 1 I<|.seq<|.S 1 I<|.p I (.len I U28 I)<|.A 1 I<|.nil<|.block<|.L [0,1,7] h (λv=>[(8,.d (.int v))]) (λv=>[]) I λ_ x7 h=>.sA 1 I<|.seq<|.condS I h (λh=>?_) λh=>?_
 ·refine .skip<|.seq<|.block<|.sA 2 I<|.S 3 I<|.X h I λx9 h=>.A 1 I<|bK h λx10 q10 h=>.p I (.dyn I I I (hF1 _ _ q10))<|.nil<|.condS I h (λh=>?_) λh=>?_
  ·refine .sA 2 I<|.ret (rO h I)
  ·refine .skip<|.rA 2 I (ndE h I)
 ·refine .exit<|.sA 1 I<|.ret (rO h I)
theorem zdf (n t0) (t1:Hide→Option Bool) (F1:D) (hF1:∀ (q0:Hide) (y:Bool),t1 q0=some y→Dyn pg F1 [Hide.enc q0] (.bool y)) (r) (h:zaH n t0 t1=some r):Pure pg 159 [eG t0,F1] (.bool r):=by
 refine Pure.ot Tryz.func159 I Tryz.ntmps159 I λA w=>.sA 1 I<|.S 2 I<|.Z h I (zdF _ _ _ _ hF1) λx1 h=>.A 2 I<|.nil<|.ret (rO h I)
theorem model_judge_hidden_ok (n t0 r) (h:ze n t0=some r):Pure pg 100 [Judge.enc t0] (.bool r):=by
 refine Pure.ot Tryz.func100 I Tryz.ntmps100 I λA w=>.sA 2 I<|.seq<|.sr<|.p I (.fa I (zch _))<|.A 2 I<|.p I (.len I U28 I)<|.A 1 I<|.nil<|.condS I h (λh=>?_) λh=>?_
 ·refine .sA 1 I<|.ret (rO h I)
 ·refine .skip<|.seq<|.sr<|.p I (.fa I (zch _))<|.A 2 I<|.p I (.len I U28 I)<|.A 1 I<|.nil<|.block<|.L [1,18,19] h (λv=>[(20,.d (.int v))]) (λv=>[]) I λ_ x31 h=>.sA 1 I<|.K [1,18,19,20,21] I<|.seq<|.condS I h (λh=>?_) λh=>?_
  ·refine .skip<|.seq<|.block<|.sr<|.X h I λx33 h=>.A 1 I<|.allocStore I I I I I I I I (by simp) I I Z179<|.nil<|.seq<|.seq<|.plain 25 I<|.A 2 I<|.p I (.fa I (zch _))<|.A 2 I<|.p I (.len I U23 I)<|.Z h I (zcF _ _ _) λx34 h=>.A 2 I<|gK h λc36 h=>.jO 8 (!((zas n x33.to (t0.model.tables.length:Int)).getD default)) I (λb35=>?_) ?_
   ·refine .A 2 I<|.q I (.fa I (zch _))<|.A 2 I<|.q I (.len I U23 I)<|.q I (.call I (kC I) I (zcF _ _ _ _ (someD (impF c36 b35))))<|.A 1 I<|.nil I
   refine .A 1 I<|.jO 5 (x33.table==x33.to) I (λb37=>?_) ?_
   ·refine .A 5 I<|.nil I
   refine .nil<|.nil<|.K [1,4,18,19,20,48] I<|.condS I h (λh=>?_) λh=>?_
   ·refine .sA 1 I<|.ret (rO h I)
   ·refine .skip<|.seq<|.draw 18 Hm (by kernel_rfl) (by kernel_rfl)<|.p I (.fa I (zch _))<|.A 4 I<|.X h I λx38 h=>.A 1 I<|.p I (.fa I (zch _))<|.A 4 I<|.X h I λx39 h=>.A 1 I<|.alloc I I I I ZZ127<|.alloc I I I I ZZ127<|.store I I I I I I Z127<|.store I I I I I I Z127<|.nil<|.freezes [0,1] (.cons (t:=5) (d:=.ref (Table.enc x38)) I (.loc (inIds I) I (.v (.v (.v (.v (.v .v1)))))) (.cons (t:=6) (d:=.ref (Table.enc x39)) I (.loc (inIds I) I (.v (.v (.v (.v (.v .v1)))))) .nil))<|.nil<|.K [1,4,5,6,18,19,20] I<|.seq<|.draw 36 Hm (by kernel_rfl) (by kernel_rfl)<|.A 4 I<|.jO 3 (x39.kind != 0) I (λb40=>?_) ?_
    ·refine .A 3 I<|.nil I
    refine .A 1 I<|gK h λc42 h=>.jO 7 (!((zas n x33.column (x38.columns.length:Int)).getD default)) I (λb41=>?_) ?_
    ·refine .A 4 I<|.q I (.len I U22 I)<|.q I (.call I (kC I) I (zcF _ _ _ _ (someD (impF c42 b41))))<|.A 1 I<|.nil I
    refine .A 1 I<|.jO 4 ((x39.columns.length:Int) != 1) I (λb43=>?_) ?_
    ·refine .A 2 I<|.q I (.len I U22 I)<|.A 1 I<|.nil I
    refine .A 1 I<|gK h λc45 h=>gK h λc46 h=>.jO 11 (((idx x39.columns 0).getD default) != ((idx x38.columns x33.column).getD default)) I (λb44=>?_) ?_
    ·refine .A 2 I<|.q I (.ix I U22 S3 (someD (impF c45 b44)))<|.A 5 I<|.q I (.ix I U22 S3 (someD (impF c46 b44)))<|.A 2 I<|.nil I
    refine .nil<|.nil<|.K [1,18,19,20,98] I<|.condS I h (λh=>?_) λh=>?_
    ·refine .sA 1 I<|.ret (rO h I)
    ·refine .skip<|.rA 2 I (ndE h I)
  ·refine .exit<|.sr<|.makeMap (λn:Int=>Value.int .i64 n) D.bool I I I I<|.allocZ I I I I (.val Zv180) I<|.store I I I I I I (.cons (.mp I) .nil) C180 I (yh I)<|.nil<|.seq<|.sr<|.p I (.fa I (zch _))<|.A 2 I<|.p I (.len I U28 I)<|.A 1 I<|.nil<|.block<|.L [1,7,103,104] h (λv=>[(105,.d (.int v.2))]) (λv=>[(0,GMap.blk (λn:Int=>Value.int .i64 n) D.bool v.1)]) I λ_ ⟨m0_53,x54⟩ h=>.sA 1 I<|.K [1,7,103,104,105,106] I<|.seq<|.condS I h (λh=>?_) λh=>?_
   ·refine .skip<|.seq<|.block<|.sr<|.X h I λx56 h=>.A 1 I<|.allocStore I I I I I I I I (by simp) I I Z179<|.nil<|.region<|.p I (.loadLoc1 I I I Y180 I)<|.A 2 I<|.mapPut (k:=x56.table) (v:=true) I I I U180 KT3 I I I I<|.nil<|.rA 2 I (ndE h I)
   ·refine .exit<|.seq<|.sr<|.p I (.fa I (zch _))<|.A 2 I<|.p I (.len I U28 I)<|.A 1 I<|.nil<|.block<|.L [1,7,116] h (λv=>[(117,.d (.int v.2))]) (λv=>[(0,GMap.blk (λn:Int=>Value.int .i64 n) D.bool v.1)]) I λ_ ⟨m0_139,x140⟩ h=>.sA 1 I<|.K [1,7,116,117,118] I<|.seq<|.condS I h (λh=>?_) λh=>?_
    ·refine .skip<|.seq<|.block<|.sr<|.p I (.loadLoc1 I I I Y180 I)<|.mapRange I I I I U180 I I<|.nil<|.block<|.L [1,7,116,117,120] h (λv=>[]) (λv=>[(0,GMap.blk (λn:Int=>Value.int .i64 n) D.bool v.1),(2,.it 0 m0_139.clock v.2.1 v.2.2)]) I λ_ ⟨m0_171,m2_172,m2_173⟩ h=>.seq<|.region ?_
     obtain ⟨hold_176,hend_177,hstep_178⟩:=stepM_S h
     refine .mapNext I I I I I I I hold_176 (λhz=>?_) (λen_175 hen_175=>?_)
     ·have h:=hend_177 hz
      refine .p I (.extract I I I)<|.nil<|.K [1,7,116,117,120,122] I<|.seq<|.condF I<|.exit<|.rA 2 I (ndE h I)
     ·have h:=hstep_178 en_175 hen_175
      refine .p I (.extract I I I)<|.nil<|.K [1,7,116,117,120,122] I<|.seq<|.condT I<|.skip<|.block<|.sr<|gK h λhn_179 h=>.p I (.entry I I I I (List.mem_filter.1 hen_175).1 (of_decide_eq_true hn_179))<|.p I (.extract I I I)<|.allocStore I I I I I I I I (by simp) I I Z3<|.nil<|.sr<|.p I (.fa I (zch _))<|.A 2 I<|.p I (.makeFuncV I I)<|bK h λx180 q180 h=>.p I (.callB I (kC I) (.cons I (.d _) (.cons I (.fn .nil (.v (.cons (.loc1 I (.mp I) I) .nil))) .nil)) I (zdf _ _ _ _ (λq0 y hq=>⟨_,_,I,K160,zgo _ q0 _ _ _ hq⟩) _ q180))<|.A 1 I<|.nil<|.condS I h (λh=>?_) λh=>?_
      ·refine .region<|.p I (.loadLoc1 I I I Y180 I)<|.A 1 I<|.mapDel (k:=en_175.2.1) I I I U180 KT3 I I I<|.nil (ndE h I)
      ·refine .skip (ndE h I)
    ·refine .exit<|.sr<|.p I (.loadLoc1 I I I Y180 I)<|.p I (.mapLen I U180 I I)<|.A 2 I<|.nil<|.ret (rO h I)
theorem zeh (n t0 r) (h:zdw n t0=some r):Pure pg 39 [Model.enc t0] (.bool r):=by
 refine Pure.ot Tryz.func39 I Tryz.ntmps39 I λA w=>.sA 2 I<|.seq<|.seq<|.plain 18 I<|.A 4 I<|.Z h I (zfw _ _ _) λx1 h=>.A 2 I<|.jO 4 (decide (24<(t0.families.length:Int))) I (λb2=>?_) ?_
 ·refine .A 2 I<|.q I (.len I U24 I)<|.A 1 I<|.nil I
 refine .A 1 I<|gK h λc4 h=>.jO 4 (!((zav n t0.families).getD default)) I (λb3=>?_) ?_
 ·refine .A 2 I<|.q I (.call I (kC I) I (zfY _ _ _ (someD (impF c4 b3))))<|.A 1 I<|.nil I
 refine .nil<|.nil<|.K [1,21] I<|.condS I h (λh=>?_) λh=>?_
 ·refine .sA 1 I<|.ret (rO h I)
 ·refine .skip<|.seq<|.draw 9 Hm (by kernel_rfl) (by kernel_rfl)<|.A 5 I<|.Z h I (zgO _ _ _ _) λx5 h=>.p I (.castD (Judge.enc (⟨t0,x5⟩:Judge)) I (.build I Pl136 (.agg Zc136 (ds':=[_,_,_,_,_,_,_,_]) (.e (.e (.e (.e (.e (.e (.e .e1)))))))) I I))<|.alloc I I I I ZZ136<|.store I I I I I I Z136<|.nil<|.freezes [0] (.cons (t:=3) (d:=.ref (Judge.enc (⟨t0,x5⟩:Judge))) I (.loc (inIds I) I (.v (.v (.v (.v (.v (.v (.v .v1)))))))) .nil)<|.nil<|.seq<|.plain 14 I<|.A 1 I<|.Z h I (zfa _ _) λx6 h=>.A 1 I<|gK h λc8 h=>.jA 2 (((zF n (⟨t0,x5⟩:Judge)).getD default)) I (λb7=>?_) ?_
  ·refine .A 1 I<|.q I (.call I (kC I) I (zfz _ _ _ (someD (impT c8 b7))))<|.nil I
  refine .A 1 I<|gK h λc10 h=>.jA 2 (((zy n (⟨t0,x5⟩:Judge)).getD default)) I (λb9=>?_) ?_
  ·refine .A 1 I<|.q I (.call I (kC I) I (zgI _ _ _ (someD (impT c10 b9))))<|.nil I
  refine .A 1 I<|gK h λc12 h=>.jA 2 (((ze n (⟨t0,x5⟩:Judge)).getD default)) I (λb11=>?_) ?_
  ·refine .A 1 I<|.q I (.call I (kC I) I (model_judge_hidden_ok _ _ _ (someD (impT c12 b11))))<|.nil I
  refine .nil<|.A 1 I<|.nil<|.K [2] I<|.ret (rO h I)
theorem symmetry_open_ok (n t0 r) (h:zn n t0=some r):Pure pg 107 [Model.enc t0] (.tup [optD Layout.enc r.1,.bool r.2]):=by
 refine Pure.ot Tryz.func107 I Tryz.ntmps107 I λA w=>.sA 3 I<|.seq<|.S 1 I<|.Z h I (zeh _ _) λx1 h=>.A 1 I<|.nil<|.condS I h (λh=>?_) λh=>?_
 ·refine .sA 2 I<|.ret ?_
  cases h
  exact zcd I I (.d _) (.d _)
 ·refine .skip<|.S 1 I<|.p I (.build I Pl190 (.agg Zc190 (ds':=[_,_,_,_,_,_,_,.val (.slice none 0 0),.val (.slice none 0 0)]) (.e (.e (.e (.e (.e (.e (.e (.e .e1))))))))) I I)<|.box I I I I I (.ofD I)<|.nilCell 0 7 2 192 I I<|.nilCell 0 8 2 192 I I<|.A 1 I<|.nil<|.seq<|.S 2 I<|.p I (.len I U23 I)<|.A 1 I<|.nil<|.block<|.L [1,4,23,24] h (λv=>[(25,.d (.int v.2.2))]) (λv=>[(0,.box 190 [.d (eA t0.sorts),.d (eB t0.tables),.d (eC t0.families),.d (eD t0.constraints),.d (eE t0.operations),.d (eF t0.actions),.d (eG t0.hides),.vec 1 (List.length v.1),.vec 2 (List.length v.2.1)]),(1,.vec 192 2 (List.map Place.enc v.1)),(2,.vec 192 2 (List.map Place.enc v.2.1))]) I λ_ ⟨b1_452,b2_453,x454⟩ h=>.sA 1 I<|.K [1,4,23,24,25,26] I<|.seq<|.condS I h (λh=>?_) λh=>?_
  ·refine .skip<|.seq<|.block<|.S 1 I<|.X h I λx456 h=>.A 1 I<|.allocZ I I I I (.agg Zc127 (ds':=[.str [],.int 0,eA [],.int 0,.int 0,.int 0]) (.e (.e (.o (.e (.e .e1)))))) I<|.A 1 I<|.store I I I I I I (.ofD I) C127 I (yh I)<|.nil<|.sr<|.p I (.buildSlLe [[]] I I E145 I .o1 (λ_=>I) I (enc:=eA))<|.A 1 I<|.nil<|.seq<|.sr<|.p I (.fieldAddrLoc I I I F127_2)<|.p I (.loadLoc1 I I I Y22 I)<|.p I (.len I U22 I)<|.A 1 I<|.nil<|.block<|.L [1,4,5,6,23,24,25,32,33] h (λv=>[(7,.d (eN v.1)),(34,.d (.int v.2))]) (λv=>[]) I λ_ ⟨x585,x586⟩ h=>.sA 1 I<|.K [1,4,5,6,7,23,24,25,32,33,34,35] I<|.seq<|.condS I h (λh=>?_) λh=>?_
   ·refine .skip<|.seq<|.block<|.sr<|.X h I λx588 h=>.A 2 I<|.nil<|.S 1 I<|.nilVec 10 1 22 I<|.nil<|.seq<|.S 1 I<|.p I (.len I U145 I)<|.A 1 I<|.nil<|.block<|.L [1,4,5,6,9,23,24,25,32,33,34,38,39] h (λv=>[(10,.vec 4 (List.length v.1)),(40,.d (.int v.2))]) (λv=>[(4,.vec 22 1 (List.map eA v.1))]) I λ_ ⟨b4_629,x630⟩ h=>.sA 1 I<|.K [1,4,5,6,9,10,23,24,25,32,33,34,38,39,40,41] I<|.seq<|.condS I h (λh=>?_) λh=>?_
    ·refine .skip<|.seq<|.block<|.sr<|.X h I λx632 h=>.A 2 I<|.nil<|.S 3 I<|.X h I λx633 h=>.A 2 I<|.nil<|.block<|.L [1,4,5,6,9,12,23,24,25,32,33,34,38,39,40,48] h (λv=>[(10,.vec 4 (List.length v.1)),(49,.d (.int v.2))]) (λv=>[(4,.vec 22 1 (List.map eA v.1))]) I λ_ ⟨b4_644,x645⟩ h=>.sA 1 I<|.K [1,4,5,6,9,10,12,23,24,25,32,33,34,38,39,40,48,49,50] I<|.seq<|.condS I h (λh=>?_) λh=>?_
     ·refine .skip<|.seq<|.block<|.sA 2 I<|.region<|.A 2 I<|bK h λx647 q647 h=>.clone (enc:=D.int) I I I I K29 Tryz.func29 I I I I E22 I (λ_=>I) (λ_=>I) q647 I I<|.A 1 I<|.p I (.buildSl [_] I I E22 I (λ_=>I) I (enc:=D.int))<|bK h λx648 q648 h=>.app I I I I I I I I E22 I (λ_=>I) q648<|.freezes [5] (.cons (t:=57) I (.vec (inIds I) I (by simp)) .nil)<|.p I (.buildSl [_] I I E145 I (λ_=>I) I (enc:=eA))<|bK h λx649 q649 h=>.app I I I I I I I I E145 I (λ_=>I) q649<|.A 1 I<|.nil<|.rA 2 I (ndE h I)
     ·refine .exit<|.rA 2 I (ndE h I)
    ·refine .exit<|.region<|.A 1 I<|.freezes [4] (.cons (t:=62) I (.vec (inIds I) I (by simp)) .nil)<|.A 1 I<|.nil<|.rA 2 I (ndE h I)
   ·refine .exit<|.S 1 I<|.p I (.len I U145 I)<|.A 1 I<|.nil<|.block<|.L [1,4,5,6,23,24,25,64,65] h (λv=>[(66,.d (.int v.2.2))]) (λv=>[(0,.box 190 [.d (eA t0.sorts),.d (eB t0.tables),.d (eC t0.families),.d (eD t0.constraints),.d (eE t0.operations),.d (eF t0.actions),.d (eG t0.hides),.vec 1 (List.length v.1),.vec 2 (List.length v.2.1)]),(1,.vec 192 2 (List.map Place.enc v.1)),(2,.vec 192 2 (List.map Place.enc v.2.1))]) I λ_ ⟨b1_668,b2_669,x670⟩ h=>.sA 1 I<|.K [1,4,5,6,23,24,25,64,65,66,67] I<|.seq<|.condS I h (λh=>?_) λh=>?_
    ·refine .skip<|.J [1,4,5,6,23,24,25,64,65,66] h (λv=>[]) (λv=>[(0,.box 190 [.d (eA t0.sorts),.d (eB t0.tables),.d (eC t0.families),.d (eD t0.constraints),.d (eE t0.operations),.d (eF t0.actions),.d (eG t0.hides),.vec 1 (List.length v.1),.vec 2 (List.length v.2)]),(1,.vec 192 2 (List.map Place.enc v.1)),(2,.vec 192 2 (List.map Place.enc v.2))]) I (λk_674 h=>?_) (λv h=>?_)
     ·refine .block<|.sr<|.X h I λx675 h=>.A 2 I<|.nil<|.sr<|.p I (.fieldAddrLoc I I I F127_1)<|.p I (.loadLoc1 I I I Y3 I)<|.A 1 I<|.nil<|.condS I h (λh=>?_) λh=>?_
      ·refine .region<|.A 2 I<|.p I (.nilCheck_loc I I I)<|.p I (.fieldAddrLoc I I I F190_1)<|.p I (.loadLoc1 I I I Y188 I)<|.A 2 I<|.p I (.castD (Place.enc (⟨x454,x675⟩:Place)) I (.build I Pl192 (.agg Zc192 (ds':=[_,_]) (.e .e1)) I I))<|.p I (.buildSl [_] I I E188 I (λ_=>I) I (enc:=Place.enc))<|bK h λx676 q676 h=>.app I I I I I I I I E188 I (λ_=>I) q676<|.p I (.nilCheck_loc I I I)<|.p I (.fieldAddrLoc I I I F190_1)<|.store I I I I I I (.cons (.vec I (by simp)) .nil) C188 I (yh I)<|.nil (ndE h I)
      ·refine .region<|.A 2 I<|.p I (.nilCheck_loc I I I)<|.p I (.fieldAddrLoc I I I F190_2)<|.p I (.loadLoc1 I I I Y188 I)<|.A 2 I<|.p I (.castD (Place.enc (⟨x454,x675⟩:Place)) I (.build I Pl192 (.agg Zc192 (ds':=[_,_]) (.e .e1)) I I))<|.p I (.buildSl [_] I I E188 I (λ_=>I) I (enc:=Place.enc))<|bK h λx677 q677 h=>.app I I I I I I I I E188 I (λ_=>I) q677<|.p I (.nilCheck_loc I I I)<|.p I (.fieldAddrLoc I I I F190_2)<|.store I I I I I I (.cons (.vec I (by simp)) .nil) C188 I (yh I)<|.nil (ndE h I)
     ·obtain ⟨b1_672,b2_673⟩:=v
      refine .rA 2 I (ndE h I)
    ·refine .exit<|.rA 2 I (ndE h I)
  ·refine .exit<|.sA 3 I<|.ret ?_
   cases h
   exact zcd I I (.loc I (.v (.v (.v (.v (.v (.v (.v (.cons (.vec I (by simp)) (.cons (.vec I (by simp)) .nil)))))))))) (.d _)
theorem zgc (n t0 t1 r) (h:zbz n t0 t1=some r):Pure pg 108 [.ref (Layout.enc t0),Question.enc t1] (.bool r):=by
 refine Pure.ot Tryz.func108 I Tryz.ntmps108 I λA w=>.sA 2 I<|.S 1 I<|.p I (.nilCheck_ref I I)<|.p I (.fa I (G190_0 _))<|.A 2 I<|.p I (.len I U27 I)<|.A 1 I<|.nil<|.seq<|.seq<|.plain 26 I<|.A 4 I<|.jO 3 (decide (t1.f<0)) I (λb1=>?_) ?_
 ·refine .A 3 I<|.nil I
 refine .A 1 I<|.jO 4 (decide ((t0.m.actions.length:Int)≤t1.e)) I (λb2=>?_) ?_
 ·refine .A 4 I<|.nil I
 refine .A 1 I<|.jO 4 (decide ((t0.m.actions.length:Int)≤t1.f)) I (λb3=>?_) ?_
 ·refine .A 4 I<|.nil I
 refine .A 1 I<|.jO 4 (decide (t1.target.index<0)) I (λb4=>?_) ?_
 ·refine .q I (.fa I (G37_2 _))<|.A 3 I<|.nil I
 refine .nil<|.nil<|.K [0,3,37] I<|.condS I h (λh=>?_) λh=>?_
 ·refine .sA 1 I<|.ret (rO h I)
 ·refine .skip<|.seq<|.sr<|.p I (.fa I (G37_2 _))<|.A 2 I<|.nil<|.condS I h (λh=>?_) λh=>?_
  ·refine .seq<|.draw 17 Hm (by kernel_rfl) (by kernel_rfl)<|.p I (.fa I (G37_2 _))<|.A 3 I<|.p I (.nilCheck_ref I I)<|.p I (.fa I (G190_0 _))<|.A 4 I<|.X h I λx5 h=>.p I (.fa I (G84_2 _))<|.A 2 I<|.p I (.len I U49 I)<|.A 2 I<|.nil<|.nil<|.K [4] I<|.ret (rO h I)
  ·refine .skip<|.seq<|.draw 18 Hm (by kernel_rfl) (by kernel_rfl)<|.A 6 I<|.jA 10 (decide (t1.target.index<(t0.m.constraints.length:Int))) I (λb6=>?_) ?_
   ·refine .q I (.fa I (G37_2 _))<|.A 3 I<|.q I (.nilCheck_ref I I)<|.q I (.fa I (G190_0 _))<|.A 2 I<|.q I (.len I U25 I)<|.A 1 I<|.nil I
   refine .A 1 I<|.nil<|.nil<|.K [4] I<|.ret (rO h I)
theorem zgb (n t0 t1 r) (h:zdl n t0 t1=some r):Pure pg 43 [Model.enc t0,Question.enc t1] (.bool r):=by
 refine Pure.ot Tryz.func43 I Tryz.ntmps43 I λA w=>.sA 3 I<|.S 1 I<|.Z h I (symmetry_open_ok _ _) λx1 h=>.A 1 I<|.p I (.extract I I I)<|.p I (.extract I I I)<|.A 2 I<|.nil<|.seq<|.plain 6 I<|.A 2 I<|gK h λc3 h=>gK h λc4 h=>.jA 3 (((zbz n ((x1.1).getD default) t1).getD default)) I (λb2=>?_) ?_
 ·refine .A 2 I<|.q I (.callLe I (kC I) I (.cons (.ofEq (optD_of (someD (impT c3 b2)))) .e1) (zgc _ _ _ _ (someD (impT c4 b2))))<|.nil I
 refine .nil<|.A 1 I<|.nil<|.K [4] I<|.ret (rO h I)
theorem model_ranges_ok (n t0 t1 r) (h:model_ranges n t0 t1=some r):Pure pg 110 [Model.enc t0,.bool t1] (eK r):=by
 refine Pure.ot Tryz.func110 I Tryz.ntmps110 I λA w=>.S 1 I<|.p I (.nilS 2 (α:=Range) Range.enc I)<|.nil<|.seq<|.S 1 I<|.Z h I (zeh _ _) λx1 h=>.A 1 I<|.nil<|.condS I h (λh=>?_) λh=>?_
 ·refine .sr<|.p I (.nilS 2 (α:=Range) Range.enc I)<|.nil<|.ret ?_
  cases h
  exact zb8 I (.d _)
 ·refine .skip<|.S 5 I<|.Z h I (zgO _ _ _ _) λx2 h=>.A 1 I<|.nil<|.ret ?_
  cases h
  exact zb8 I (.d _)
theorem model_Strict_ok (n t0 r) (h:zfh n t0=some r):Pure pg 48 [Model.enc t0] (eK r):=by
 refine Pure.ot Tryz.func48 I Tryz.ntmps48 I λA w=>.S 1 I<|.p I (.nilS 2 (α:=Range) Range.enc I)<|.nil<|.S 1 I<|.Z h I (model_ranges_ok _ _ _) λx1 h=>.A 1 I<|.nil<|.ret ?_
 cases h
 exact zb8 I (.d _)
theorem za0 (n t0 t1 r) (h:zG n t0 t1=some r):Pure pg 61 [Action.enc t0,.int t1] (.int r):=by
 refine Pure.ot Tryz.func61 I Tryz.ntmps61 I λA w=>.sA 2 I<|.seq<|.sr<|.p I (.fa I (G84_2 _))<|.A 2 I<|.p I (.len I U79 I)<|.A 1 I<|.nil<|.block<|.L [1,9,10] h (λv=>[(11,.d (.int v))]) (λv=>[]) I λ_ x5 h=>.sA 1 I<|.seq<|.condS I h (λh=>?_) λh=>?_
 ·refine .skip<|.seq<|.block<|.sr<|.X h I λx7 h=>.A 1 I<|.allocStore I I I I I I I I (by simp) I I Z131<|.nil<|.sA 4 I<|.condS I h (λh=>?_) λh=>?_
  ·refine .sA 3 I<|.ret (rO h I)
  ·refine .skip<|.rA 2 I (ndE h I)
 ·refine .exit<|.sA 1 I<|.ret (rO h I)
theorem zaB (n t0 t1 r) (h:zq n t0 t1=some r):Pure pg 40 [Action.enc t0,Row.enc t1] (.int r):=by
 refine Pure.ot Tryz.func40 I Tryz.ntmps40 I λA w=>.sA 3 I<|.sA 1 I<|.seq<|.S 2 I<|.p I (.len I U31 I)<|.A 1 I<|.nil<|.block<|.L [2,9,10] h (λv=>[(5,.d (.int v.1)),(11,.d (.int v.2))]) (λv=>[]) I λ_ ⟨x9,x10⟩ h=>.sA 1 I<|.seq<|.condS I h (λh=>?_) λh=>?_
 ·refine .skip<|.seq<|.block<|.sr<|.X h I λx12 h=>.A 1 I<|.allocStore I I I I I I I I (by simp) I I Z41<|.nil<|.draw 10 Hm (by kernel_rfl) (by kernel_rfl)<|.A 6 I<|.Z h I (za0 _ _ _) λx13 h=>.A 3 I<|.nil<|.nil<|.rA 2 I (ndE h I)
 ·refine .exit<|.sA 2 I<|.ret (rO h I)
theorem zf8 (n t0 t1 r) (h:zap n t0 t1=some r):Pure pg 111 [eA t0,.int t1] (.int r):=by
 refine Pure.ot Tryz.func111 I Tryz.ntmps111 I λA w=>.sA 1 I<|.seq<|.S 1 I<|.p I (.len I U22 I)<|.A 1 I<|.nil<|.block<|.L [0,1,7] h (λv=>[(8,.d (.int v))]) (λv=>[]) I λ_ x5 h=>.sA 1 I<|.seq<|.condS I h (λh=>?_) λh=>?_
 ·refine .skip<|.seq<|.block<|.sA 2 I<|.S 3 I<|.X h I λx7 h=>.A 2 I<|.nil<|.condS I h (λh=>?_) λh=>?_
  ·refine .sA 2 I<|.ret (rO h I)
  ·refine .skip<|.rA 2 I (ndE h I)
 ·refine .exit<|.sA 1 I<|.ret (rO h I)
theorem zc1 (n t0 t1 r) (h:zaN n t0 t1=some r):Pure pg 49 [eA t0,.int t1] (.bool r):=by
 refine Pure.ot Tryz.func49 I Tryz.ntmps49 I λA w=>.sA 1 I<|.S 2 I<|.Z h I (zf8 _ _ _) λx1 h=>.A 2 I<|.nil<|.ret (rO h I)
theorem condition_less_1_ok (n t0 t1 r) (h:zev n t0 t1=some r):Pure pg 112 [.int t0,.ref (.int t1)] (.int r):=by
 refine Pure.ot Tryz.func112 I Tryz.ntmps112 I λA w=>.sA 1 I<|.sA 4 I<|.ret (rO h I)
theorem condition_less_fn (n:Nat) (t0:Int):Pure pg 52 [.int t0] (.fn (.func 112) [] [.ref (.int t0)]):=by
 refine Pure.ot Tryz.func52 I Tryz.ntmps52 I λA w=>.sA 2 I<|.sr<|.p I (.makeFunc I I)<|.A 1 I<|.nil<|.ret (zb8 I (.d _))
theorem zcg (n t0) (t1:Int→Option Int) (t2:Int→Option Int) (F1:D) (hF1:∀ (q0:Int) (y:Int),t1 q0=some y→Dyn pg F1 [.int q0] (.int y)) (F2:D) (hF2:∀ (q0:Int) (y:Int),t2 q0=some y→Dyn pg F2 [.int q0] (.int y)) (r) (h:zQ n t0 t1 t2=some r):Pure pg 50 [Row.enc t0,F1,F2] (Row.enc r):=by
 refine Pure.ot Tryz.func50 I Tryz.ntmps50 I λA w=>.S 1 I<|.allocZ I I I I (.agg Zc33 (ds':=[eL [],.int 0]) (.o .e1)) I<|.nil<|.S 3 I<|bK h λx1 q1 h=>.p I (.dyn I I I (hF2 _ _ q1))<|.p I (.build I Pl33 (.agg Zc33 (ds':=[.val (.slice none 0 0),_]) (.e .e1)) I I)<|.allocZ I I I I (.agg Zc33 (ds':=[.val (.slice none 0 0),.int 0]) (.e .e1)) I<|.nilCell 1 0 2 41 I I<|.store I I I I I I (.ofD I) C33 I (yh I)<|.nilCell 1 0 2 41 I I<|.nil<|.seq<|.S 2 I<|.p I (.len I U31 I)<|.A 1 I<|.nil<|.block<|.L [1,6,7,16,17] h (λv=>[(18,.d (.int v.2))]) (λv=>[(1,.box 33 [.vec 3 (List.length v.1),.d (.int x1)]),(3,.vec 41 2 (List.map Term.enc v.1))]) I λ_ ⟨b3_12,x13⟩ h=>.sA 1 I<|.K [1,6,7,16,17,18,19] I<|.seq<|.condS I h (λh=>?_) λh=>?_
 ·refine .skip<|.seq<|.block<|.sr<|.X h I λx15 h=>.A 1 I<|.allocStore I I I I I I I I (by simp) I I Z41<|.nil<|.draw 10 Hm (by kernel_rfl) (by kernel_rfl)<|.p I (.fieldAddrLoc I I I F33_0)<|.p I (.loadLoc1 I I I Y31 I)<|.A 5 I<|bK h λx16 q16 h=>.p I (.dyn I I I (hF1 _ _ q16))<|.p I (.castD (Term.enc (⟨x15.cell,x16⟩:Term)) I (.build I Pl41 (.agg Zc41 (ds':=[_,_]) (.e .e1)) I I))<|.p I (.buildSl [_] I I E31 I (λ_=>I) I (enc:=Term.enc))<|.nil<|bK h λx17 q17 h=>.app I I I I I I I I E31 I (λ_=>I) q17<|.p I (.fieldAddrLoc I I I F33_0)<|.store I I I I I I (.cons (.vec I (by simp)) .nil) C31 I (yh I)<|.nil<|.K [1,6,7,16,17,18] I<|.rA 2 I (ndE h I)
 ·refine .exit<|.sr<|.p I (.loadLoc I I I Y33 (yh I) I)<|.store I I I I I I (.cons (.vec I (by simp)) (.cons (.d I) .nil)) C33 I (yh I)<|.nil<|.ret ?_
  cases h
  exact retCell I I Y33 (.cons (.vec I (by simp)) .v1)
theorem zd6 (n t0 r) (h:zbt n t0=some r):Pure pg 51 [.int t0] (.int r):=by
 refine Pure.ot Tryz.func51 I Tryz.ntmps51 I λA w=>.sA 1 I<|.sA 2 I<|.ret (rO h I)
theorem zdK (n t0 t1 r) (h:zaX n t0 t1=some r):Pure pg 56 [.int t0,.ref (.int t1)] (.int r):=by
 refine Pure.ot Tryz.func56 I Tryz.ntmps56 I λA w=>.sA 1 I<|.S 1 I<|.p I (.neg6 I I)<|.A 4 I<|.nil<|.ret (rO h I)
theorem zeA (n t0 r) (h:zbp n t0=some r):Pure pg 55 [.int t0] (.int r):=by
 refine Pure.ot Tryz.func55 I Tryz.ntmps55 I λA w=>.sA 1 I<|.S 1 I<|.p I (.neg6 I I)<|.A 1 I<|.nil<|.ret (rO h I)
theorem zdL (n t0) (t1:Int→Option Int) (F1:D) (hF1:∀ (q0:Int) (y:Int),t1 q0=some y→Dyn pg F1 [.int q0] (.int y)) (r) (h:zO n t0 t1=some r):Pure pg 57 [Constraint.enc t0,F1] (Graph.enc r):=by
 refine Pure.ot Tryz.func57 I Tryz.ntmps57 I λA w=>.S 1 I<|.allocZ I I I I (.agg Zc99 (ds':=[.int 0,.int 0,eA []]) (.e (.e .o1))) I<|.nil<|.S 4 I<|.p I (.build I Pl99 (.agg Zc99 (ds':=[_,_,.val (.slice none 0 0)]) (.e (.e .e1))) I I)<|.allocZ I I I I (.agg Zc99 (ds':=[.int 0,.int 0,.val (.slice none 0 0)]) (.e (.e .e1))) I<|.nilCell 1 2 1 3 I I<|.store I I I I I I (.ofD I) C99 I (yh I)<|.nilCell 1 2 1 3 I I<|.nil<|.seq<|.sA 6 I<|.block<|.L [1,2,4,5,16] h (λv=>[(17,.d (.int v.2))]) (λv=>[(1,.box 99 [.d (.int t0.first),.d (.int t0.size),.vec 3 (List.length v.1)]),(3,.vec 3 1 (List.map D.int v.1))]) I λ_ ⟨b3_9,x10⟩ h=>.sA 1 I<|.K [1,2,4,5,16,17,18] I<|.seq<|.condS I h (λh=>?_) λh=>?_
 ·refine .skip<|.seq<|.block<|.sA 2 I<|.draw 10 Hm (by kernel_rfl) (by kernel_rfl)<|.p I (.fieldAddrLoc I I I F99_2)<|.p I (.loadLoc1 I I I Y22 I)<|.A 5 I<|bK h λx12 q12 h=>.p I (.dyn I I I (hF1 _ _ q12))<|.A 1 I<|.p I (.buildSl [_] I I E22 I (λ_=>I) I (enc:=D.int))<|.nil<|bK h λx13 q13 h=>.app I I I I I I I I E22 I (λ_=>I) q13<|.p I (.fieldAddrLoc I I I F99_2)<|.store I I I I I I (.cons (.vec I (by simp)) .nil) C22 I (yh I)<|.nil<|.rA 2 I (ndE h I)
 ·refine .exit<|.sr<|.p I (.loadLoc I I I Y99 (yh I) I)<|.store I I I I I I (.cons (.d I) (.cons (.d I) (.cons (.vec I (by simp)) .nil))) C99 I (yh I)<|.nil<|.ret ?_
  cases h
  exact retCell I I Y99 (.v (.v (.cons (.vec I (by simp)) .nil)))
theorem zgS (n t0 r) (h:zbB n t0=some r):Pure pg 58 [.int t0] (.int r):=by
 refine Pure.ot Tryz.func58 I Tryz.ntmps58 I λA w=>.sA 1 I<|.sA 1 I<|.ret (rO h I)
theorem zct (n t0 t1 r) (h:zi n t0 t1=some r):Pure pg 59 [Action.enc t0,Constraint.enc t1] (eA r):=by
 refine Pure.ot Tryz.func59 I Tryz.ntmps59 I λA w=>.S 2 I<|.p I (.nilS 1 (α:=Int) D.int I)<|.nil<|.S 1 I<|.nilVec 5 1 3 I<|.nil<|.seq<|.sA 6 I<|.block<|.L [2,3,11] h (λv=>[(5,.vec 0 (List.length v.1)),(12,.d (.int v.2))]) (λv=>[(0,.vec 3 1 (List.map D.int v.1))]) I λ_ ⟨b0_13,x14⟩ h=>.sA 1 I<|.K [2,3,5,11,12,13] I<|.seq<|.condS I h (λh=>?_) λh=>?_
 ·refine .skip<|.J [2,3,11,12] h (λv=>[(5,.vec 0 (List.length v))]) (λv=>[(0,.vec 3 1 (List.map D.int v))]) I (λk_17 h=>?_) (λb0_16 h=>?_)
  ·refine .block<|.sA 2 I<|.S 5 I<|.Z h I (za0 _ _ _) λx18 h=>.A 1 I<|.nil<|.condS I h (λh=>?_) λh=>?_
   ·refine .region<|.A 2 I<|.p I (.buildSl [_] I I E22 I (λ_=>I) I (enc:=D.int))<|bK h λx19 q19 h=>.app I I I I I I I I E22 I (λ_=>I) q19<|.A 1 I<|.nil (ndE h I)
   ·refine .skip (ndE h I)
  ·refine .rA 2 I (ndE h I)
 ·refine .exit<|.sA 2 I<|.ret ?_
  cases h
  exact zb8 I (.vec I (by simp))
theorem zgT (n t0 t1 r) (h:zm n t0 t1=some r):Pure pg 60 [.int t0,.ref (Action.enc t1)] (.int r):=by
 refine Pure.ot Tryz.func60 I Tryz.ntmps60 I λA w=>.sA 1 I<|.S 2 I<|.Z h I (za0 _ _ _) λx1 h=>.A 1 I<|.nil<|.ret (rO h I)
theorem zgU (n t0 t1 r) (h:zae n t0 t1=some r):Pure pg 62 [.int t0,.ref (Action.enc t1)] (.int r):=by
 refine Pure.ot Tryz.func62 I Tryz.ntmps62 I λA w=>.sA 1 I<|.S 2 I<|.Z h I (za0 _ _ _) λx1 h=>.A 1 I<|.nil<|.ret (rO h I)
theorem zez (n t0 t1 t2 t3 r) (h:zaU n t0 t1 t2 t3=some r):Pure pg 113 [.int t0,.ref (Action.enc t1),.ref (Constraint.enc t2),.ref (Action.enc t3)] (.int r):=by
 refine Pure.ot Tryz.func113 I Tryz.ntmps113 I λA w=>.sA 1 I<|.seq<|.draw 14 Hm (by kernel_rfl) (by kernel_rfl)<|.A 5 I<|.Z h I (za0 _ _ _) λx1 h=>.A 5 I<|.Z h I (za0 _ _ _) λx2 h=>.A 2 I<|.nil<|.nil<|.ret (rO h I)
theorem digraph_open_ok (n t0 t1 r) (h:zdB n t0 t1=some r):Pure pg 171 [.int t0,eJ t1] (.tup [DGraph.enc r.1,.bool r.2]):=by
 refine Pure.ot Tryz.func171 I Tryz.ntmps171 I λA w=>.sr<|.allocZ I I I I (.agg Zc194 (ds':=[.int 0,eJ []]) (.e .o1)) I<|.A 1 I<|.nil<|.seq<|.plain 17 I<|.A 2 I<|.p I (.castD (DGraph.enc (⟨t0,t1⟩:DGraph)) I (.build I Pl194 (.agg Zc194 (ds':=[_,_]) (.e .e1)) I I))<|.A 3 I<|.jA 2 (decide (t0≤6)) I (λb1=>?_) ?_
 ·refine .A 2 I<|.nil I
 refine .A 1 I<|.jA 6 ((t1.length:Int)==(mul64 t0 t0)) I (λb2=>?_) ?_
 ·refine .A 1 I<|.q I (.len I U144 I)<|.A 4 I<|.nil I
 refine .nil<|.store I I I I I I (.ofD I) C194 I (yh I)<|.A 1 I<|.nil<|.K [4,5] I<|.ret ?_
 cases h
 exact zb4 I I Y194 (.v .v1) I (.d _)
theorem digraph_graph_has_ok (n t0 t1 t2 r) (h:za8 n t0 t1 t2=some r):Pure pg 209 [DGraph.enc t0,.int t1,.int t2] (.bool r):=by
 refine Pure.ot Tryz.func209 I Tryz.ntmps209 I λA w=>.sA 2 I<|.S 8 I<|.X h I λx1 h=>.A 2 I<|.nil<|.ret (rO h I)
theorem cmp_Or_int_ok (n t0 r) (h:zc2 n t0=some r):Pure pg 212 [eA t0] (.int r):=by
 refine Pure.ot Tryz.func212 I Tryz.ntmps212 I λA w=>.sA 1 I<|.sA 1 I<|.seq<|.S 1 I<|.p I (.len I U22 I)<|.A 1 I<|.nil<|.block<|.L [3,6,7] h (λv=>[(8,.d (.int v))]) (λv=>[]) I λ_ x5 h=>.sA 1 I<|.seq<|.condS I h (λh=>?_) λh=>?_
 ·refine .skip<|.seq<|.block<|.sr<|.X h I λx7 h=>.A 2 I<|.nil<|.sA 3 I<|.condS I h (λh=>?_) λh=>?_
  ·refine .sA 2 I<|.ret (rO h I)
  ·refine .skip<|.rA 2 I (ndE h I)
 ·refine .exit<|.sA 2 I<|.ret (rO h I)
theorem digraph_compare_ok (n t0 t1 r) (h:zcj n t0 t1=some r):Pure pg 174 [eA t0,eA t1] (.int r):=by
 refine Pure.ot Tryz.func174 I Tryz.ntmps174 I λA w=>.sA 1 I<|.S 1 I<|.p I (.len I U22 I)<|.A 1 I<|.p I (.len I U22 I)<|.Z h I (zff _ _ _) λx1 h=>.A 2 I<|.Z h I (zdc _ _ _) λx2 h=>.p I (.buildSl [_,_] I I E22 I (λ_=>I) I (enc:=D.int))<|.Z h I (cmp_Or_int_ok _ _) λx3 h=>.A 1 I<|.nil<|.ret (rO h I)
abbrev LI (l:List Int):D:=.sl 1 (l.map D.int)
abbrev yfn (l:Nat):D:=.fn (.yield l) [] []
abbrev HT (out:List (List Int)):List Blk:=[.box 145 [.vec 1 out.length],.vec 22 1 (out.map LI)]
abbrev HH (g:DGraph) (l:Nat) (out:List (List Int)):List Blk:=[.box 145 [.vec 1 out.length],.vec 22 1 (out.map LI),.box 63 [.fn (.func 208) [] [.d (.ref g.enc),.d (.ref (yfn l)),.loc 2 0]]]
theorem dK208:callable pg 208=true:=by kernel_rfl
theorem dK172:callable pg 172=true:=by kernel_rfl
theorem dK173:callable pg 173=true:=by kernel_rfl
theorem dK174:callable pg 174=true:=by kernel_rfl
theorem dK171:callable pg 171=true:=by kernel_rfl
theorem dK209:callable pg 209=true:=by kernel_rfl
theorem dK49:callable pg 49=true:=by kernel_rfl
theorem dK29:callable pg 29=true:=by kernel_rfl
theorem dY63:zI pg 63=some none:=by kernel_rfl
theorem dY145:zI pg 145=some none:=by kernel_rfl
theorem dC63:cellsOf pg 63=some 1:=by kernel_rfl
theorem dC145:cellsOf pg 145=some 1:=by kernel_rfl
theorem dZa63:zbZ pg 63=some .nilFunc:=by kernel_rfl
theorem dZa145:zbZ pg 145=some (.slice none 0 0):=by kernel_rfl
theorem dZ194:za4 pg 194 (some 2)=true:=by kernel_rfl
def Tryz.sortLL_ren : Go.Shelf.Ren := ⟨fun | 6 => 173 | 15 => 211 | 14 => 210 | 28 => 234 | 29 => 235 | 20 => 226 | 21 => 227 | 22 => 228 | 23 => 229 | 24 => 230 | 25 => 231 | 26 => 232 | 27 => 233 | 46 => 250 | 47 => 251 | 48 => 252 | 49 => 253 | 50 => 254 | 57 => 264 | n => n, fun | 22 => 145 | 24 => 22 | 25 => 165 | 3 => 3 | 39 => 210 | 0 => 0 | 53 => 235 | 55 => 238 | 4 => 4 | 46 => 248 | 45 => 247 | 50 => 71 | 5 => 5 | 9 => 9 | 66 => 263 | 70 => 170 | 76 => 272 | 77 => 261 | n => n, fun | n => n⟩
theorem Tryz.sortLL : Go.Proofs.SlLaysF.n6 Tryz.prog Tryz.sortLL_ren := {
  mixed := by kernel_rfl
  f6 := ⟨Tryz.f173.name, by decide, Tryz.func173.trans (congrArg some (by kernel_rfl))⟩
  f14 := ⟨Tryz.f210.name, by decide, Tryz.func210.trans (congrArg some (by kernel_rfl))⟩
  f15 := Tryz.func211.trans (congrArg some (by kernel_rfl))
  f20 := ⟨Tryz.f226.name, by decide, Tryz.func226.trans (congrArg some (by kernel_rfl))⟩
  f21 := ⟨Tryz.f227.name, by decide, Tryz.func227.trans (congrArg some (by kernel_rfl))⟩
  f22 := ⟨Tryz.f228.name, by decide, Tryz.func228.trans (congrArg some (by kernel_rfl))⟩
  f23 := ⟨Tryz.f229.name, by decide, Tryz.func229.trans (congrArg some (by kernel_rfl))⟩
  f24 := ⟨Tryz.f230.name, by decide, Tryz.func230.trans (congrArg some (by kernel_rfl))⟩
  f25 := ⟨Tryz.f231.name, by decide, Tryz.func231.trans (congrArg some (by kernel_rfl))⟩
  f26 := ⟨Tryz.f232.name, by decide, Tryz.func232.trans (congrArg some (by kernel_rfl))⟩
  f27 := ⟨Tryz.f233.name, by decide, Tryz.func233.trans (congrArg some (by kernel_rfl))⟩
  f28 := Tryz.func234.trans (congrArg some (by kernel_rfl))
  f29 := Tryz.func235.trans (congrArg some (by kernel_rfl))
  f46 := ⟨Tryz.f250.name, by decide, Tryz.func250.trans (congrArg some (by kernel_rfl))⟩
  f47 := Tryz.func251.trans (congrArg some (by kernel_rfl))
  f48 := Tryz.func252.trans (congrArg some (by kernel_rfl))
  f49 := ⟨Tryz.f253.name, by decide, Tryz.func253.trans (congrArg some (by kernel_rfl))⟩
  f50 := ⟨Tryz.f254.name, by decide, Tryz.func254.trans (congrArg some (by kernel_rfl))⟩
  f57 := ⟨Tryz.f264.name, by decide, Tryz.func264.trans (congrArg some (by kernel_rfl))⟩
  t0 := Tryz.underlying0
  a0 := Tryz.isAgg0
  z0 := Tryz.sizeOf0
  v0 := Tryz.zeroValue0
  t3 := Tryz.underlying3
  a3 := Tryz.isAgg3
  z3 := Tryz.sizeOf3
  v3 := Tryz.zeroValue3
  t4 := Tryz.underlying4
  a4 := Tryz.isAgg4
  z4 := Tryz.sizeOf4
  v4 := Tryz.zeroValue4
  t5 := Tryz.underlying5
  a5 := Tryz.isAgg5
  z5 := Tryz.sizeOf5
  v5 := Tryz.zeroValue5
  t9 := Tryz.underlying9
  a9 := Tryz.isAgg9
  z9 := Tryz.sizeOf9
  v9 := Tryz.zeroValue9
  t22 := Tryz.underlying145
  a22 := Tryz.isAgg145
  z22 := Tryz.sizeOf145
  v22 := Tryz.zeroValue145
  a24 := Tryz.isAgg22
  z24 := Tryz.sizeOf22
  t25 := Tryz.underlying165
  a25 := Tryz.isAgg165
  z25 := Tryz.sizeOf165
  v25 := Tryz.zeroValue165
  t39 := Tryz.underlying210
  a39 := Tryz.isAgg210
  z39 := Tryz.sizeOf210
  v39 := Tryz.zeroValue210
  t45 := Tryz.underlying247
  a45 := Tryz.isAgg247
  z45 := Tryz.sizeOf247
  v45 := Tryz.zeroValue247
  t46 := Tryz.underlying248
  a46 := Tryz.isAgg248
  z46 := Tryz.sizeOf248
  v46 := Tryz.zeroValue248
  t50 := Tryz.underlying71
  a50 := Tryz.isAgg71
  z50 := Tryz.sizeOf71
  v50 := Tryz.zeroValue71
  t53 := Tryz.underlying235
  a53 := Tryz.isAgg235
  z53 := Tryz.sizeOf235
  v53 := Tryz.zeroValue235
  t55 := Tryz.underlying238
  a55 := Tryz.isAgg238
  z55 := Tryz.sizeOf238
  v55 := Tryz.zeroValue238
  t66 := Tryz.underlying263
  a66 := Tryz.isAgg263
  z66 := Tryz.sizeOf263
  v66 := Tryz.zeroValue263
  t70 := Tryz.underlying170
  a70 := Tryz.isAgg170
  z70 := Tryz.sizeOf170
  v70 := Tryz.zeroValue170
  t76 := Tryz.underlying272
  a76 := Tryz.isAgg272
  z76 := Tryz.sizeOf272
  v76 := Tryz.zeroValue272
  t77 := Tryz.underlying261
  a77 := Tryz.isAgg261
  z77 := Tryz.sizeOf261
  v77 := Tryz.zeroValue261 }
theorem dE145:zbT pg 145 22 1 24=true:=by kernel_rfl
theorem Tri.seqJ [Globs] {P:Program} {C:Ctx} {Q:Exit→St→Prop} {s:St} {x y:Code} (J:St→Prop) (hy:∀ s,J s→Tri P C y Q s) (hx:Tri P C x (thenQ J Q) s):Tri P C (.seq x y) Q s:=
 .seq (hx.mono λe s h=>by cases e <;> first | exact hy s h | exact h)
theorem TriL.visit {G:Globs} {g:DGraph} {l:Nat} {rec:Loop} {xs:List Int} {out out2:List (List Int)} {T1:List (Nat×V)}
  (IH:∀ (A0 own0:Nat→Prop) (w0:World) (gh:List (V×Value)),Serves ⟨A0,own0,w0,57,λ_ _=>False,gh,3,[]⟩ l rec T1→Tri pg ⟨A0,own0,w0,57,λ_ _=>False,gh,3,[]⟩ (bodyOf pg 208) (retV [.tmp 5] λv H2=>v = .d (.bool true)∧∃ X,H2=HH g l out2++X)
   ⟨zex 0 [.d (LI xs),.d (.ref g.enc),.d (.ref (yfn l)),.loc 2 0],HH g l out⟩)
  {C:Ctx} {ops:Array Oper} {o:Oper} {rest:List Oper} {Q:Exit→St→Prop} {T:List (Nat×V)} {d:Nat} (hg:o.guard=none) (hd:o.dst=some d) (hdn:Nat.blt d C.n=true) (hc:CallV pg o (ev T) 208 [.d (LI xs),.d (.ref g.enc),.d (.ref (yfn l)),.loc 2 0])
  (hu:(T.all λp=>p.2.under 3)=true) (hgn:Nat.ble C.gn 3=true) (hs:Serves C l rec T1) (hT:Sub ((d,.d (.bool true))::T) ((d,.d (.bool true))::T))
  (kk:TriL pg C ops rest Q ⟨(d,.d (.bool true))::T,HH g l out2⟩):TriL pg C ops (o::rest) Q ⟨T,HH g l out⟩:=by
 refine TriL.inlineG (rs:=[.tmp 5]) hg (by rw [hd];simpa [dstOK] using hdn) hc Tryz.func208 rfl Tryz.ntmps208 rfl rfl hu hgn λown0 w gh h1 h2=>?_
 have ih:=IH C.A0 own0 w gh ⟨h1 _ hs.1,λq hq=>h2 _ (hs.2 q hq)⟩
 rw [zfJ Tryz.func208 rfl] at ih
 refine ih.mono λe s ⟨he,vs,hv,hr,X,hX⟩=>⟨he,vs,hv,?_⟩
 rw [hr,hX,hd]
 exact TriL.ge (t:=⟨(d,.d (.bool true))::T,HH g l out2⟩) ⟨X,rfl,rfl,by simpa [V.under,y7] using hu,hT⟩ hgn kk
set_option maxRecDepth 10000 in
theorem visit_tri {G1:Globs} [G:Globs] {l:Nat} {rec:Loop} {ia ib ic:Nat} {ra rb:List Oper} (hGs : @Globs.gs G=(l,.loop rec)::@Globs.gs G1) (hGE:∀ q∈@Globs.gs G1,q.1≠l) (hsub:∀ p∈@Globs.gs globs,p∈@Globs.gs G)
  (hrec:rec.state = .ready∧rec.pending=none∧rec.params = #[19]∧rec.tmps.size=27) (hasg:rec.assign = .region ia ra.toArray false) (hbd:rec.body = .block ib (.region ic rb.toArray false)) (hda:(ra.all zeV)=true) (hdb:(rb.all zeV)=true) (n:Nat) (g:DGraph)
  (hY:∀ (A0 own0:Nat→Prop) (w:World) (gh:List (V×Value)) (out out':List (List Int)) (z:List Int),app 24 out [z]=some out'→@TriL G1 pg ⟨A0,own0,w,27,λ_ _=>False,gh,3,[]⟩ ra.toArray ra (λe s1=>e = .normal∧∀ (own0:Nat→Prop) (w:World),
   @TriL G1 pg ⟨A0,own0,w,27,λ_ _=>False,gh,3,[]⟩ rb.toArray rb (λe s2=>e = .normal∧s2.H=HH g l out') s1) ⟨(19,.d (LI z))::[(7,.loc 0 0)],HH g l out⟩) :
  ∀ (k:Nat) (xs:List Int) (out out2:List (List Int)),zz n g k xs out=some out2→∀ (A0 own0:Nat→Prop) (w0:World) (gh:List (V×Value)),Serves ⟨A0,own0,w0,57,λ_ _=>False,gh,3,[]⟩ l rec [(7,.loc 0 0)] →
   Tri pg ⟨A0,own0,w0,57,λ_ _=>False,gh,3,[]⟩ (bodyOf pg 208) (retV [.tmp 5] λv H2=>v = .d (.bool true)∧∃ X,H2=HH g l out2++X) ⟨zex 0 [.d (LI xs),.d (.ref g.enc),.d (.ref (yfn l)),.loc 2 0],HH g l out⟩
 | 0,xs,out,out2,h,_,_,_,_,_=>by simp [zz] at h
 | k+1,xs,out,out2,h,A0,own0,w0,gh,hs=>by
  have hasP:∀ n (g:DGraph) a b r,za8 n g a b=some r→Pure pg 209 [DGraph.enc g,.int a,.int b] (.bool r):=λ_ _ _ _ _ h=>Pure.widen hsub (digraph_graph_has_ok _ _ _ _ _ h)
  have hasP:∀ n a b r,za8 n g a b=some r→Pure pg 209 [DGraph.enc g,.int a,.int b] (.bool r):=λn a b r h=>hasP n g a b r h
  have contP:∀ n b r,zaN n xs b=some r→Pure pg 49 [eA xs,.int b] (.bool r):=λ_ _ _ h=>Pure.widen hsub (zc1 _ _ _ _ h)
  have cloneP:∀ ys zs,app 8 [] ys=some zs→Pure pg 29 [eA ys] (eA zs):=λ_ _ h=>clone_pure Tryz.func29 rfl Tryz.ntmps29 rfl E22 rfl (λ_=>rfl) (λ_=>rfl) h
  have hgn3:Nat.ble (Ctx.gn ⟨A0,own0,w0,57,λ_ _=>False,gh,3,[]⟩) 3=true:=rfl
  have IH:=visit_tri hGs hGE hsub hrec hasg hbd hda hdb n g hY k
  rw [zfJ Tryz.func208 rfl]
  simp only [zz] at h
  refine .sr <| .z I <| .nil <| .sr <| .m I <| .m I <| .p I (.len I U22 I) <| .p I (.sb I) <| bK h λlast ql h=>.p I (.ix I U22 S3 ql) <| .p I (.ld Y3 I) <| .z I <| .nil ?_
  obtain ⟨first,qf,h⟩:=bindS h
  obtain ⟨e,he,h⟩:=bindS h
  refine Tri.seqJ (λs=>∃ out1,loopF (zz.l1 n g (zz n g k) xs last) n (add64 first 1,out1)=some out2∧s=⟨[(0,.d (LI xs)),(1,.d (.ref g.enc)),(2,.d (.ref (yfn l))),(3,.loc 2 0),(6,.d (.int last)),(26,.d (.bool false))],HH g l out1⟩) ?_ ?_
  ·rintro s ⟨out1,h,rfl⟩
   refine .seq <| .seq <| .region <| .m I <| .p I (.ix I U22 S3 qf) <| .p I (.ld Y3 I) <| .p I (.ad I) <| .z I <| .nil ?_
   refine .block <| .loopS [0,1,2,3,6] (λ(v:Int×List (List Int))=>[(7,.d (.int v.1))]) (λv=>[(0,.box 145 [.vec 1 v.2.length]),(1,.vec 22 1 (v.2.map LI))]) (.c4 I <| .c I .nil) h ⟨_,Fz8 I <| FzE⟩ (λrec' v h=>?_)
   refine .seq <| .seq <| .region <| .m I <| .p I (.fa I (G194_0 _)) <| .p I (.ld Y3 I) <| .p I (.ls I) <| .nil <| .keep (HH g l v.2) [0,1,2,3,6,7,34] (.c4 I <| .c2 I <| .c I .nil) I <| .condS I h (λh=>?_) λh=>?_
   ·obtain ⟨e2,he2,h⟩:=bindS h
    refine .skip <| Tri.seqJ (λs=>∃ out1,rec' (add64 v.1 1,out1)=some out2∧s=⟨[(0,.d (LI xs)),(1,.d (.ref g.enc)),(2,.d (.ref (yfn l))),(3,.loc 2 0),(6,.d (.int last)),(7,.d (.int v.1)),(56,.d (.bool false))],HH g l out1⟩) ?_ ?_
    ·rintro s ⟨out1,h,rfl⟩
     refine .region <| .m I <| .p I (.ad I) <| .z I <| .nil ⟨_,h,⟨_,Fz8 I <| FzE⟩⟩
    refine .block <| .seq <| .drawI 20 Hm I ?_
    cases e2 with
    | false=>
     rw [if_neg (by simp)] at h
     refine .first 1 rfl (by decide +kernel) rfl (.none rfl) ?_
     refine .first 2 rfl (by decide +kernel) rfl (.none rfl) ?_
     refine .step 0 [] (by decide +kernel) (.cons (i:=0) rfl (OneI.of rfl (.p I (.ld Y194 I) (.nil ⟨rfl,rfl⟩))) ?_ .nil)
     refine .step 3 [] (by decide +kernel) (.cons (i:=3) rfl (OneI.of rfl (.p I (.call I dK209 I (hasP _ _ _ _ he2)) (.nil ⟨rfl,rfl⟩))) ?_ .nil)
     refine .first 4 rfl (by decide +kernel) rfl (.none rfl) ?_
     refine .skip 5 rfl (by decide +kernel) rfl rfl (.some rfl) ?_
     refine .skip 6 rfl (by decide +kernel) rfl rfl (.some rfl) ?_
     refine .step 7 [] (by decide +kernel) (.cons (i:=7) rfl (OneI.no rfl (.some rfl)) ?_ .nil)
     refine .skip 8 rfl (by decide +kernel) rfl rfl (.some rfl) ?_
     refine .step 9 [] (by decide +kernel) (.cons (i:=9) rfl (OneI.of rfl (.p I (.pick (b:=false) (v:=.d (.bool false)) I I (λh=>by cases h) (λ_=>rfl)) (.nil ⟨rfl,rfl⟩))) ?_ .nil)
     refine .first 10 rfl (by decide +kernel) rfl (.none rfl) ?_
     refine .skip 11 rfl (by decide +kernel) rfl rfl (.some rfl) ?_
     refine .skip 12 rfl (by decide +kernel) rfl rfl (.some rfl) ?_
     refine .skip 14 rfl (by decide +kernel) rfl rfl (.some rfl) ?_
     refine .skip 15 rfl (by decide +kernel) rfl rfl (.some rfl) ?_
     refine .step 13 [] (by decide +kernel) (.cons (i:=13) rfl (OneI.no rfl (.some rfl)) ?_ .nil)
     refine .step 16 [] (by decide +kernel) (.cons (i:=16) rfl (OneI.no rfl (.some rfl)) ?_ .nil)
     refine .step 17 [] (by decide +kernel) (.cons (i:=17) rfl (OneI.no rfl (.some rfl)) ?_ .nil)
     refine .skip 18 rfl (by decide +kernel) rfl rfl (.some rfl) ?_
     refine .step 19 [] (by decide +kernel) (.cons (i:=19) rfl (OneI.of rfl (.p I (.pick (b:=false) (v:=.d (.bool false)) I I (λh=>by cases h) (λ_=>rfl)) (.nil ⟨rfl,rfl⟩))) ?_ .nil)
     refine .done (by decide +kernel) ?_
     refine .keep (HH g l v.2) [0,1,2,3,6,7,56] (.c4 I <| .c2 I <| .c I .nil) I ?_
     refine .cond (t:=false) rfl (λh=>by cases h) (λ_=>.skip ?_)
     exact ⟨_,h,rfl⟩
    | true=>
     rw [if_pos rfl] at h
     obtain ⟨f,hf,h⟩:=bindS h
     cases f with
     | true=>
      rw [if_pos rfl] at h
      refine .first 1 rfl (by decide +kernel) rfl (.none rfl) ?_
      refine .first 2 rfl (by decide +kernel) rfl (.none rfl) ?_
      refine .step 0 [] (by decide +kernel) (.cons (i:=0) rfl (OneI.of rfl (.p I (.ld Y194 I) (.nil ⟨rfl,rfl⟩))) ?_ .nil)
      refine .step 3 [] (by decide +kernel) (.cons (i:=3) rfl (OneI.of rfl (.p I (.call I dK209 I (hasP _ _ _ _ he2)) (.nil ⟨rfl,rfl⟩))) ?_ .nil)
      refine .first 4 rfl (by decide +kernel) rfl (.none rfl) ?_
      refine .first 5 rfl (by decide +kernel) rfl (.some rfl) ?_
      refine .first 6 rfl (by decide +kernel) rfl (.some rfl) ?_
      refine .step 7 [] (by decide +kernel) (.cons (i:=7) rfl (OneI.ofG rfl (.some rfl) (.p I (.call I dK49 I (contP _ _ _ hf)) (.nil ⟨rfl,rfl⟩))) ?_ .nil)
      refine .step 8 [] (by decide +kernel) (.cons (i:=8) rfl (OneI.ofG rfl (.some rfl) (.p I (.nt I) (.nil ⟨rfl,rfl⟩))) ?_ .nil)
      refine .step 9 [] (by decide +kernel) (.cons (i:=9) rfl (OneI.of rfl (.p I (.pick (b:=true) (v:=.d (.bool false)) I I (λ_=>rfl) (λh=>by cases h)) (.nil ⟨rfl,rfl⟩))) ?_ .nil)
      refine .first 10 rfl (by decide +kernel) rfl (.none rfl) ?_
      refine .skip 11 rfl (by decide +kernel) rfl rfl (.some rfl) ?_
      refine .skip 12 rfl (by decide +kernel) rfl rfl (.some rfl) ?_
      refine .skip 14 rfl (by decide +kernel) rfl rfl (.some rfl) ?_
      refine .skip 15 rfl (by decide +kernel) rfl rfl (.some rfl) ?_
      refine .step 13 [] (by decide +kernel) (.cons (i:=13) rfl (OneI.no rfl (.some rfl)) ?_ .nil)
      refine .step 16 [] (by decide +kernel) (.cons (i:=16) rfl (OneI.no rfl (.some rfl)) ?_ .nil)
      refine .step 17 [] (by decide +kernel) (.cons (i:=17) rfl (OneI.no rfl (.some rfl)) ?_ .nil)
      refine .skip 18 rfl (by decide +kernel) rfl rfl (.some rfl) ?_
      refine .step 19 [] (by decide +kernel) (.cons (i:=19) rfl (OneI.of rfl (.p I (.pick (b:=false) (v:=.d (.bool false)) I I (λh=>by cases h) (λ_=>rfl)) (.nil ⟨rfl,rfl⟩))) ?_ .nil)
      refine .done (by decide +kernel) ?_
      refine .keep (HH g l v.2) [0,1,2,3,6,7,56] (.c4 I <| .c2 I <| .c I .nil) I ?_
      refine .cond (t:=false) rfl (λh=>by cases h) (λ_=>.skip ?_)
      exact ⟨_,h,rfl⟩
     | false=>
      rw [if_neg (by simp)] at h
      obtain ⟨c2,hc2,h⟩:=bindS h
      obtain ⟨l2,hl2,h⟩:=bindS h
      obtain ⟨out3,ho3,h⟩:=bindS h
      refine TriI.via 3 #[true,true,true,true,true,true,true,true,true,true,true,true,true,true,true,true,true,false,false,false] ⟨[(0,.d (LI xs)),(1,.d (.ref g.enc)),(2,.d (.ref (yfn l))),(3,.loc 2 0),(6,.d (.int last)),(7,.d (.int v.1)),(47,.d (.bool true)),(48,.fn (.func 208) [] [.d (.ref g.enc),.d (.ref (yfn l)),.loc 2 0]),(53,.d (LI l2))],HH g l v.2⟩ ?_ λtail=>?_
      ·have visitCall:∀ {C:Ctx} {ops:Array Oper} {o:Oper} {rest:List Oper} {Q:Exit→St→Prop} {T:List (Nat×V)} {d:Nat},o.guard=none→o.dst=some d→Nat.blt d C.n=true→CallV pg o (ev T) 208 [.d (LI l2),.d (.ref g.enc),.d (.ref (yfn l)),.loc 2 0]→(T.all λp=>p.2.under 3)=true→Nat.ble C.gn 3=true →
         Serves C l rec [(7,.loc 0 0)]→Sub ((d,.d (.bool true))::T) ((d,.d (.bool true))::T)→TriL pg C ops rest Q ⟨(d,.d (.bool true))::T,HH g l out3⟩→TriL pg C ops (o::rest) Q ⟨T,HH g l v.2⟩:=λa1 a2 a3 a4 a5 a6 a7 a8 a9=>TriL.visit (IH _ _ _ ho3) a1 a2 a3 a4 a5 a6 a7 a8 a9
       refine .step 17 [] (by decide +kernel) (.cons (i:=17) rfl (OneI.ofG rfl (.some rfl) (visitCall rfl rfl rfl (CallV.clos (xs:=[.d (LI l2)]) (caps:=[.d (.ref g.enc),.d (.ref (yfn l)),.loc 2 0]) rfl rfl dK208 rfl) rfl rfl hs (Fz8 I <| Fz2 I trivial) (.nil ⟨rfl,rfl⟩))) ?_ .nil)
       refine .step 18 [] (by decide +kernel) (.cons (i:=18) rfl (OneI.ofG rfl (.some rfl) (.p I (.nt I) (.nil ⟨rfl,rfl⟩))) ?_ .nil)
       refine .step 19 [] (by decide +kernel) (.cons (i:=19) rfl (OneI.of rfl (.p I (.pick (b:=true) (v:=.d (.bool false)) I I (λ_=>rfl) (λh=>by cases h)) (.nil ⟨rfl,rfl⟩))) ?_ .nil)
       refine .done (by decide +kernel) ?_
       refine .keep (HH g l out3) [0,1,2,3,6,7,56] (.c4 I <| .c2 I <| .c I .nil) I ?_
       refine .cond (t:=false) rfl (λh=>by cases h) (λ_=>.skip ?_)
       exact ⟨_,h,rfl⟩
      refine .first 1 rfl (by decide +kernel) rfl (.none rfl) ?_
      refine .first 2 rfl (by decide +kernel) rfl (.none rfl) ?_
      refine .step 0 [] (by decide +kernel) (.cons (i:=0) rfl (OneI.of rfl (.p I (.ld Y194 I) (.nil ⟨rfl,rfl⟩))) ?_ .nil)
      refine .step 3 [] (by decide +kernel) (.cons (i:=3) rfl (OneI.of rfl (.p I (.call I dK209 I (hasP _ _ _ _ he2)) (.nil ⟨rfl,rfl⟩))) ?_ .nil)
      refine .first 4 rfl (by decide +kernel) rfl (.none rfl) ?_
      refine .first 5 rfl (by decide +kernel) rfl (.some rfl) ?_
      refine .first 6 rfl (by decide +kernel) rfl (.some rfl) ?_
      refine .step 7 [] (by decide +kernel) (.cons (i:=7) rfl (OneI.ofG rfl (.some rfl) (.p I (.call I dK49 I (contP _ _ _ hf)) (.nil ⟨rfl,rfl⟩))) ?_ .nil)
      refine .step 8 [] (by decide +kernel) (.cons (i:=8) rfl (OneI.ofG rfl (.some rfl) (.p I (.nt I) (.nil ⟨rfl,rfl⟩))) ?_ .nil)
      refine .step 9 [] (by decide +kernel) (.cons (i:=9) rfl (OneI.of rfl (.p I (.pick (b:=true) (v:=.d (.bool true)) I I (λ_=>rfl) (λh=>by cases h)) (.nil ⟨rfl,rfl⟩))) ?_ .nil)
      refine .first 10 rfl (by decide +kernel) rfl (.none rfl) ?_
      refine .first 12 rfl (by decide +kernel) rfl (.some rfl) ?_
      refine .first 14 rfl (by decide +kernel) rfl (.some rfl) ?_
      refine .step 11 [13,15] (by decide +kernel) (.cons (i:=11) rfl (OneI.ofG rfl (.some rfl) (.p I (.loadLoc1 I I I dY63 I) (.nil ⟨rfl,rfl⟩))) ?_ (.cons (i:=13) rfl (OneI.ofG rfl (.some rfl) (.clone I I I I dK29 Tryz.func29 I Tryz.ntmps29 I I E22 I (λ_=>I) (λ_=>I) hc2 I hgn3 (.nil ⟨rfl,rfl⟩))) ?_ (.cons (i:=15) rfl (OneI.ofG rfl (.some rfl) (.p I (.buildSl [_] I I E22 I (λ_=>I) I (enc:=D.int)) (.nil ⟨rfl,rfl⟩))) ?_ .nil)))
      ·refine .step 13 [15] (by decide +kernel) (.cons (i:=13) rfl (OneI.ofG rfl (.some rfl) (.clone I I I I dK29 Tryz.func29 I Tryz.ntmps29 I I E22 I (λ_=>I) (λ_=>I) hc2 I hgn3 (.nil ⟨rfl,rfl⟩))) ?_ (.cons (i:=15) rfl (OneI.ofG rfl (.some rfl) (.p I (.buildSl [_] I I E22 I (λ_=>I) I (enc:=D.int)) (.nil ⟨rfl,rfl⟩))) ?_ .nil))
       ·refine .step 15 [] (by decide +kernel) (.cons (i:=15) rfl (OneI.ofG rfl (.some rfl) (.p I (.buildSl [_] I I E22 I (λ_=>I) I (enc:=D.int)) (.nil ⟨rfl,rfl⟩))) ?_ .nil)
        refine .step 16 [] (by decide +kernel) (.cons (i:=16) rfl (OneI.ofG rfl (.some rfl) (.app I I I I I I I I E22 I (λ_=>I) hl2 (.freezes [3] (.cons (t:=53) rfl (.vec (inIds rfl) rfl (by simp)) .nil) (.nil ⟨rfl,rfl⟩)))) ?_ .nil)
        exact .keepT [0,1,2,3,6,7,47,48,53] (.c8 I <| .c I .nil) (.cut (HH g l v.2) ⟨_,rfl⟩ rfl rfl (Fz8 I <| FzE) hgn3 (.to _ (by decide +kernel) tail))
       ·refine .step 13 [] (by decide +kernel) (.cons (i:=13) rfl (OneI.ofG rfl (.some rfl) (.clone I I I I dK29 Tryz.func29 I Tryz.ntmps29 I I E22 I (λ_=>I) (λ_=>I) hc2 I hgn3 (.nil ⟨rfl,rfl⟩))) ?_ .nil)
        refine .step 16 [] (by decide +kernel) (.cons (i:=16) rfl (OneI.ofG rfl (.some rfl) (.app I I I I I I I I E22 I (λ_=>I) hl2 (.freezes [3] (.cons (t:=53) rfl (.vec (inIds rfl) rfl (by simp)) .nil) (.nil ⟨rfl,rfl⟩)))) ?_ .nil)
        exact .keepT [0,1,2,3,6,7,47,48,53] (.c8 I <| .c I .nil) (.cut (HH g l v.2) ⟨_,rfl⟩ rfl rfl (Fz8 I <| FzE) hgn3 (.to _ (by decide +kernel) tail))
      ·refine .step 11 [15] (by decide +kernel) (.cons (i:=11) rfl (OneI.ofG rfl (.some rfl) (.p I (.loadLoc1 I I I dY63 I) (.nil ⟨rfl,rfl⟩))) ?_ (.cons (i:=15) rfl (OneI.ofG rfl (.some rfl) (.p I (.buildSl [_] I I E22 I (λ_=>I) I (enc:=D.int)) (.nil ⟨rfl,rfl⟩))) ?_ .nil))
       ·refine .step 15 [] (by decide +kernel) (.cons (i:=15) rfl (OneI.ofG rfl (.some rfl) (.p I (.buildSl [_] I I E22 I (λ_=>I) I (enc:=D.int)) (.nil ⟨rfl,rfl⟩))) ?_ .nil)
        refine .step 16 [] (by decide +kernel) (.cons (i:=16) rfl (OneI.ofG rfl (.some rfl) (.app I I I I I I I I E22 I (λ_=>I) hl2 (.freezes [3] (.cons (t:=53) rfl (.vec (inIds rfl) rfl (by simp)) .nil) (.nil ⟨rfl,rfl⟩)))) ?_ .nil)
        exact .keepT [0,1,2,3,6,7,47,48,53] (.c8 I <| .c I .nil) (.cut (HH g l v.2) ⟨_,rfl⟩ rfl rfl (Fz8 I <| FzE) hgn3 (.to _ (by decide +kernel) tail))
       ·refine .step 11 [16] (by decide +kernel) (.cons (i:=11) rfl (OneI.ofG rfl (.some rfl) (.p I (.loadLoc1 I I I dY63 I) (.nil ⟨rfl,rfl⟩))) ?_ (.cons (i:=16) rfl (OneI.ofG rfl (.some rfl) (.app I I I I I I I I E22 I (λ_=>I) hl2 (.freezes [3] (.cons (t:=53) rfl (.vec (inIds rfl) rfl (by simp)) .nil) (.nil ⟨rfl,rfl⟩)))) ?_ .nil))
        ·refine .step 16 [] (by decide +kernel) (.cons (i:=16) rfl (OneI.ofG rfl (.some rfl) (.app I I I I I I I I E22 I (λ_=>I) hl2 (.freezes [3] (.cons (t:=53) rfl (.vec (inIds rfl) rfl (by simp)) .nil) (.nil ⟨rfl,rfl⟩)))) ?_ .nil)
         exact .keepT [0,1,2,3,6,7,47,48,53] (.c8 I <| .c I .nil) (.cut (HH g l v.2) ⟨_,rfl⟩ rfl rfl (Fz8 I <| FzE) hgn3 (.to _ (by decide +kernel) tail))
        ·refine .step 11 [] (by decide +kernel) (.cons (i:=11) rfl (OneI.ofG rfl (.some rfl) (.p I (.loadLoc1 I I I dY63 I) (.nil ⟨rfl,rfl⟩))) ?_ .nil)
         exact .keepT [0,1,2,3,6,7,47,48,53] (.c8 I <| .c I .nil) (.cut (HH g l v.2) ⟨_,rfl⟩ rfl rfl (Fz8 I <| FzE) hgn3 (.to _ (by decide +kernel) tail))
      ·refine .step 11 [13] (by decide +kernel) (.cons (i:=11) rfl (OneI.ofG rfl (.some rfl) (.p I (.loadLoc1 I I I dY63 I) (.nil ⟨rfl,rfl⟩))) ?_ (.cons (i:=13) rfl (OneI.ofG rfl (.some rfl) (.clone I I I I dK29 Tryz.func29 I Tryz.ntmps29 I I E22 I (λ_=>I) (λ_=>I) hc2 I hgn3 (.nil ⟨rfl,rfl⟩))) ?_ .nil))
       ·refine .step 13 [] (by decide +kernel) (.cons (i:=13) rfl (OneI.ofG rfl (.some rfl) (.clone I I I I dK29 Tryz.func29 I Tryz.ntmps29 I I E22 I (λ_=>I) (λ_=>I) hc2 I hgn3 (.nil ⟨rfl,rfl⟩))) ?_ .nil)
        refine .step 16 [] (by decide +kernel) (.cons (i:=16) rfl (OneI.ofG rfl (.some rfl) (.app I I I I I I I I E22 I (λ_=>I) hl2 (.freezes [3] (.cons (t:=53) rfl (.vec (inIds rfl) rfl (by simp)) .nil) (.nil ⟨rfl,rfl⟩)))) ?_ .nil)
        exact .keepT [0,1,2,3,6,7,47,48,53] (.c8 I <| .c I .nil) (.cut (HH g l v.2) ⟨_,rfl⟩ rfl rfl (Fz8 I <| FzE) hgn3 (.to _ (by decide +kernel) tail))
       ·refine .step 11 [16] (by decide +kernel) (.cons (i:=11) rfl (OneI.ofG rfl (.some rfl) (.p I (.loadLoc1 I I I dY63 I) (.nil ⟨rfl,rfl⟩))) ?_ (.cons (i:=16) rfl (OneI.ofG rfl (.some rfl) (.app I I I I I I I I E22 I (λ_=>I) hl2 (.freezes [3] (.cons (t:=53) rfl (.vec (inIds rfl) rfl (by simp)) .nil) (.nil ⟨rfl,rfl⟩)))) ?_ .nil))
        ·refine .step 16 [] (by decide +kernel) (.cons (i:=16) rfl (OneI.ofG rfl (.some rfl) (.app I I I I I I I I E22 I (λ_=>I) hl2 (.freezes [3] (.cons (t:=53) rfl (.vec (inIds rfl) rfl (by simp)) .nil) (.nil ⟨rfl,rfl⟩)))) ?_ .nil)
         exact .keepT [0,1,2,3,6,7,47,48,53] (.c8 I <| .c I .nil) (.cut (HH g l v.2) ⟨_,rfl⟩ rfl rfl (Fz8 I <| FzE) hgn3 (.to _ (by decide +kernel) tail))
        ·refine .step 11 [] (by decide +kernel) (.cons (i:=11) rfl (OneI.ofG rfl (.some rfl) (.p I (.loadLoc1 I I I dY63 I) (.nil ⟨rfl,rfl⟩))) ?_ .nil)
         exact .keepT [0,1,2,3,6,7,47,48,53] (.c8 I <| .c I .nil) (.cut (HH g l v.2) ⟨_,rfl⟩ rfl rfl (Fz8 I <| FzE) hgn3 (.to _ (by decide +kernel) tail))
   ·cases h
    refine .exit <| .sr <| .z I <| .nil <| .ret ⟨.inl rfl,[.d (.bool true)],⟨_,[],rfl,rfl,rfl⟩,rfl,[],rfl⟩
  ·refine .seq <| .drawI 13 Hm I ?_
   refine TriI.via 8 #[true,true,true,true,true,false,false,false,false,false,false,false,false] ⟨[(0,.d (LI xs)),(1,.d (.ref g.enc)),(2,.d (.ref (yfn l))),(3,.loc 2 0),(6,.d (.int last)),(14,.d g.enc),(15,.d (.int last)),(18,.d (.int first))],HH g l out⟩ ?_ λtail=>?_
   ·cases e with
    | false=>
     rw [if_neg (by simp)] at h
     refine .step 5 [] (by decide +kernel) (.cons (i:=5) rfl (OneI.of rfl (.p I (.call I dK209 I (hasP _ _ _ _ he)) (.nil ⟨rfl,rfl⟩))) ?_ .nil)
     refine .first 6 rfl (by decide +kernel) rfl (.none rfl) ?_
     refine .skip 7 rfl (by decide +kernel) rfl rfl (.some rfl) ?_
     refine .skip 8 rfl (by decide +kernel) rfl rfl (.some rfl) ?_
     refine .step 9 [] (by decide +kernel) (.cons (i:=9) rfl (OneI.no rfl (.some rfl)) ?_ .nil)
     refine .step 10 [] (by decide +kernel) (.cons (i:=10) rfl (OneI.no rfl (.some rfl)) ?_ .nil)
     refine .skip 11 rfl (by decide +kernel) rfl rfl (.some rfl) ?_
     refine .step 12 [] (by decide +kernel) (.cons (i:=12) rfl (OneI.of rfl (.p I (.pick (b:=false) (v:=.d (.bool false)) I I (λh=>by cases h) (λ_=>rfl)) (.nil ⟨rfl,rfl⟩))) ?_ .nil)
     refine .done (by decide +kernel) ?_
     refine .keep (HH g l out) [0,1,2,3,6,26] (.c4 I <| .c2 I .nil) I ?_
     refine .cond (t:=false) rfl (λh=>by cases h) (λ_=>.skip ?_)
     exact ⟨_,h,rfl⟩
    | true=>
     rw [if_pos rfl] at h
     obtain ⟨c,hc,h⟩:=bindS h
     obtain ⟨out1,ho1,h⟩:=bindS h
     refine TriI.via 3 #[true,true,true,true,true,true,true,true,true,true,false,false,false] ⟨[(0,.d (LI xs)),(1,.d (.ref g.enc)),(2,.d (.ref (yfn l))),(3,.loc 2 0),(6,.d (.int last)),(20,.d (.bool true)),(21,.d (yfn l)),(23,.d (LI c))],HH g l out⟩ ?_ λtail2=>?_
     ·have yieldBody:=λown0 w gh=>hY A0 own0 w gh out out1 c ho1
      refine .step 10 [] (by decide +kernel) (.cons (i:=10) rfl (OneI.yield (G1:=G1) hGs hGE hrec hasg hbd hda hdb hs rfl rfl rfl rfl rfl rfl rfl (.some rfl) rfl rfl λown0 w gh=>yieldBody own0 w gh) ?_ .nil)
      refine .step 11 [] (by decide +kernel) (.cons (i:=11) rfl (OneI.ofG rfl (.some rfl) (.p I (.nt I) (.nil ⟨rfl,rfl⟩))) ?_ .nil)
      refine .step 12 [] (by decide +kernel) (.cons (i:=12) rfl (OneI.of rfl (.p I (.pick (b:=true) (v:=.d (.bool false)) I I (λ_=>rfl) (λh=>by cases h)) (.nil ⟨rfl,rfl⟩))) ?_ .nil)
      refine .done (by decide +kernel) ?_
      refine .keep (HH g l out1) [0,1,2,3,6,26] (.c4 I <| .c2 I .nil) I ?_
      refine .cond (t:=false) rfl (λh=>by cases h) (λ_=>.skip ?_)
      exact ⟨_,h,rfl⟩
     refine .step 5 [] (by decide +kernel) (.cons (i:=5) rfl (OneI.of rfl (.p I (.call I dK209 I (hasP _ _ _ _ he)) (.nil ⟨rfl,rfl⟩))) ?_ .nil)
     refine .first 6 rfl (by decide +kernel) rfl (.none rfl) ?_
     refine .first 8 rfl (by decide +kernel) rfl (.some rfl) ?_
     refine .step 7 [9] (by decide +kernel) (.cons (i:=7) rfl (OneI.ofG rfl (.some rfl) (.p I (.ld dY63 I) (.nil ⟨rfl,rfl⟩))) ?_ (.cons (i:=9) rfl (OneI.ofG rfl (.some rfl) (.p I (.call I dK29 I (cloneP _ _ hc)) (.nil ⟨rfl,rfl⟩))) ?_ .nil))
     ·refine .step 9 [] (by decide +kernel) (.cons (i:=9) rfl (OneI.ofG rfl (.some rfl) (.p I (.call I dK29 I (cloneP _ _ hc)) (.nil ⟨rfl,rfl⟩))) ?_ .nil)
      exact .keepT [0,1,2,3,6,20,21,23] (.c8 I .nil) (.to _ (by decide +kernel) tail2)
     ·refine .step 7 [] (by decide +kernel) (.cons (i:=7) rfl (OneI.ofG rfl (.some rfl) (.p I (.ld dY63 I) (.nil ⟨rfl,rfl⟩))) ?_ .nil)
      exact .keepT [0,1,2,3,6,20,21,23] (.c8 I .nil) (.to _ (by decide +kernel) tail2)
   refine .first 1 rfl (by decide +kernel) rfl (.none rfl) ?_
   refine .first 2 rfl (by decide +kernel) rfl (.none rfl) ?_
   refine .step 0 [3] (by decide +kernel) (.cons (i:=0) rfl (OneI.of rfl (.p I (.ld Y194 I) (.nil ⟨rfl,rfl⟩))) ?_ (.cons (i:=3) rfl (OneI.of rfl (.p I (.ix I U22 S3 qf) (.nil ⟨rfl,rfl⟩))) ?_ .nil))
   ·refine .step 3 [] (by decide +kernel) (.cons (i:=3) rfl (OneI.of rfl (.p I (.ix I U22 S3 qf) (.nil ⟨rfl,rfl⟩))) ?_ .nil)
    refine .step 4 [] (by decide +kernel) (.cons (i:=4) rfl (OneI.of rfl (.p I (.ld Y3 I) (.nil ⟨rfl,rfl⟩))) ?_ .nil)
    exact .keepT [0,1,2,3,6,14,15,18] (.c8 I .nil) (.to _ (by decide +kernel) tail)
   ·refine .step 0 [4] (by decide +kernel) (.cons (i:=0) rfl (OneI.of rfl (.p I (.ld Y194 I) (.nil ⟨rfl,rfl⟩))) ?_ (.cons (i:=4) rfl (OneI.of rfl (.p I (.ld Y3 I) (.nil ⟨rfl,rfl⟩))) ?_ .nil))
    ·refine .step 4 [] (by decide +kernel) (.cons (i:=4) rfl (OneI.of rfl (.p I (.ld Y3 I) (.nil ⟨rfl,rfl⟩))) ?_ .nil)
     exact .keepT [0,1,2,3,6,14,15,18] (.c8 I .nil) (.to _ (by decide +kernel) tail)
    ·refine .step 0 [] (by decide +kernel) (.cons (i:=0) rfl (OneI.of rfl (.p I (.ld Y194 I) (.nil ⟨rfl,rfl⟩))) ?_ .nil)
     exact .keepT [0,1,2,3,6,14,15,18] (.c8 I .nil) (.to _ (by decide +kernel) tail)
theorem cycles_tri {G1:Globs} [G:Globs] {l:Nat} {rec:Loop} {ia ib ic:Nat} {ra rb:List Oper} (hGs : @Globs.gs G=(l,.loop rec)::@Globs.gs G1) (hGE:∀ q∈@Globs.gs G1,q.1≠l) (hsub:∀ p∈@Globs.gs globs,p∈@Globs.gs G)
  (hrec:rec.state = .ready∧rec.pending=none∧rec.params = #[19]∧rec.tmps.size=27) (hasg:rec.assign = .region ia ra.toArray false) (hbd:rec.body = .block ib (.region ic rb.toArray false)) (hda:(ra.all zeV)=true) (hdb:(rb.all zeV)=true) (n:Nat) (g:DGraph)
  (hY:∀ (A0 own0:Nat→Prop) (w:World) (gh:List (V×Value)) (out out':List (List Int)) (z:List Int),app 24 out [z]=some out'→@TriL G1 pg ⟨A0,own0,w,27,λ_ _=>False,gh,3,[]⟩ ra.toArray ra (λe s1=>e = .normal∧∀ (own0:Nat→Prop) (w:World),
   @TriL G1 pg ⟨A0,own0,w,27,λ_ _=>False,gh,3,[]⟩ rb.toArray rb (λe s2=>e = .normal∧s2.H=HH g l out') s1) ⟨(19,.d (LI z))::[(7,.loc 0 0)],HH g l out⟩)
  (out:List (List Int)) (h:loopF (digraph_cycles.l1 n g) n (0,[])=some out) (A0 own0:Nat→Prop) (w0:World) (gh:List (V×Value)) (hs:Serves ⟨A0,own0,w0,18,λ_ _=>False,gh,2,[]⟩ l rec [(7,.loc 0 0)]) :
  Tri pg ⟨A0,own0,w0,18,λ_ _=>False,gh,2,[]⟩ (bodyOf pg 172) (retV [] λ_ H2=>∃ X,H2=HT out++X) ⟨zex 0 [.d g.enc,.d (yfn l)],HT []⟩:=by
 rw [zfJ Tryz.func172 rfl]
 refine .sr <| .p I (.bx I) <| .p I (.bx I) <| .nil <| .sr <| .alloc I I I I dZa63 <| .nil <| .sr <| .p I (.makeFuncV I I) <| .store I I I I I I (.cons .fn .nil) dC63 I (yh I) <| .nil <| .sr <| .p I (.fa I (G194_0 _)) <| .p I (.ld Y3 I) <| .m I <| .nil ?_
 refine .block <| .loopS [2,3,4,8] (λ(v:Int×List (List Int))=>[(9,.d (.int v.1))]) (λv=>[(0,.box 145 [.vec 1 v.2.length]),(1,.vec 22 1 (v.2.map LI))]) (.c4 I .nil) h ⟨_,Fz8 I trivial⟩ (λrec' v h=>?_)
 refine .sr <| .p I (.ls I) <| .nil <| .keep (HH g l v.2) [2,3,4,8,9,10] (.c4 I <| .c2 I .nil) I <| .seq <| .condS I h (λh=>?_) λh=>?_
 ·obtain ⟨out3,ho3,h⟩:=bindS h
  refine .skip <| .seq <| .block <| .sr <| .m I <| .z I <| .nil <| .sr <| .p I (.loadLoc1 I I I dY63 I) <| .m I <| .p I (.buildSl [_] I I E22 I (λ_=>I) I (enc:=D.int)) <| TriL.visit (visit_tri hGs hGE hsub hrec hasg hbd hda hdb n g hY n _ _ _ ho3) I I I (CallV.clos (xs:=[.d (LI [v.1])]) (caps:=[.d (.ref g.enc),.d (.ref (yfn l)),.loc 2 0]) I I dK208 I) I I hs (by repeat (first | exact trivial | refine ⟨rfl,?_⟩)) <| .p I (.nt I) <| .nil ?_
  refine .cond (t:=false) rfl (λh=>by cases h) (λ_=>.skip ?_)
  refine .region <| .p I (.ad I) <| .m I <| .nil ⟨_,h,⟨_,Fz8 I trivial⟩⟩
 ·cases h
  refine .exit ?_
  exact ⟨.inr rfl,[],rfl,_,rfl⟩
theorem digraph_Cycles_ok (n:Nat) (t0:Int) (t1:List Bool) (r:List (List Int)) (h:zbN n t0 t1=some r):Pure pg 114 [.int t0,eJ t1] (eN r):=by
 unfold zbN at h
 obtain ⟨o,ho,h⟩:=bindS h
 refine Pure.of_triM Tryz.func114 rfl (by rw [Tryz.ntmps114];simp) λA w=>?_
 rw [Tryz.ntmps114]
 refine .sr <| .p I (.nilS 1 (α:=List Int) LI I) <| .nil <| .sr <| .m I <| .m I <| .p I (.call I dK171 I (digraph_open_ok _ _ _ _ ho)) <| .m I <| .p I (.extract I I I) <| .p I (.extract I I I) <| .allocStore I I I I I I I I (by simp) I I dZ194 <| .z I <| .nil ?_
 refine .seq <| .sr <| .m I <| .p I (.nt I) <| .nil <| .condS I h (λh=>?_) λh=>?_
 ·refine .sr <| .p I (.nilS 1 (α:=List Int) LI I) <| .nil <| .ret ?_
  cases h
  exact zb8 I (.d _)
 obtain ⟨out,ho2,hsort⟩:=bindS h
 refine .skip <| .sr <| .alloc I I I I dZa145 <| .nilCell 0 0 1 22 rfl rfl <| .nil <| .keep (HT []) [5,7] (.c2 I .nil) I ?_
 refine Tri.rangeFunc (K:=λH2=>∃ X,H2=HT out++X) (.region <| .p I (.ld Y194 I) <| .p I (.makeFunc1 I I) <| .nil ⟨rfl,rfl⟩) rfl dK172 Tryz.func172 rfl Tryz.ntmps172 rfl rfl rfl ?_ ?_
 ·intro l Dd rec own0 w1 gh G' hne hG' hGl hrec hasg hbd hown hgh
  obtain ⟨G1,hG1⟩:∃ G1:Globs,@Globs.gs G1=(Dd,.deferred (some []))::@Globs.gs globs:=⟨⟨_⟩,rfl⟩
  have hGs : @Globs.gs G'=(l,.loop rec)::@Globs.gs G1:=by rw [hG',hG1]
  have ct:=@cycles_tri G1 G' l rec _ _ _ _ _ hGs (λq hq=>by
   rw [hG1] at hq
   rcases yM.1 hq with rfl | hq
   ·exact λe=>hne e.symm
   ·exact hGl q hq) (λp hp=>by rw [hG'];exact uv _ (uv _ hp)) hrec hasg hbd rfl rfl n o.1 (λA0 own0 w gh out out' z hz=>?_) out ho2 A own0 w1 gh ⟨hown,λq hq=>by
    have:q=(7,.loc 0 0):=by simpa using hq
    subst this
    exact hgh 7 _ rfl⟩
  ·rw [zfJ Tryz.func172 rfl] at ct
   exact ct
  ·refine .z I <| .nil ⟨rfl,λown0 w=>?_⟩
   refine .p I (.loadLoc1 I I I dY145 I) <| .m I <| .p I (.buildSl [_] I I dE145 I (λ_=>I) I (enc:=LI)) <| .app I I I I I I I I dE145 I (λ_=>I) hz <| .store I I I I I I (.cons (.vec I ?_) .nil) dC145 I (yh I) <| .nil ⟨rfl,rfl⟩
   simp
 ·intro Dd H2 G' hG' ⟨X,hX⟩
  subst hX
  have hsub:∀ p∈@Globs.gs globs,p∈@Globs.gs G':=λp hp=>by rw [hG'];exact uv _ hp
  refine Tri.ge (t:=⟨[(7,.loc 0 0)],HT out⟩) ⟨X,rfl,rfl,rfl,rfl,trivial⟩ ?_ rfl
  refine .sr <| .p I (.loadLoc1 I I I dY145 I) <| .sort1 (enc:=LI) (l:=out) Tryz.sortLL I I I I dK173 dK174 I I I I (λ_=>I) (λ_=>I) hsort (λa b v hv=>Pure.widen hsub (digraph_compare_ok _ _ _ _ hv)) <| .nil <| .sr <| .p I (.loadLoc1 I I I dY145 I) <| .z I <| .nil <| .ret ⟨rfl,zb8 I (.vec I ?_)⟩
  simp [sortO_length hsort]
theorem condition_cases_ok (n t0 t1 t2 t3 r) (h:zj n t0 t1 t2 t3=some r):Pure pg 63 [eK t0,Constraint.enc t1,Action.enc t2,Action.enc t3] (eR r):=by
 refine Pure.ot Tryz.func63 I Tryz.ntmps63 I λA w=>.S 3 I<|.p I (.nilS 1 (α:=List Row) eH I)<|.nil<|.sr<|.p I (.makeFunc I I)<|.A 1 I<|.nil<|.S 5 I<|bK h λx1 q1 h=>.makeVec (enc:=D.bool) (z:=(false:Bool)) I I I I E144 I I I (.val Zv4) q1<|.A 1 I<|.nil<|.seq<|.S 1 I<|.p I (.lenV I U144 I I I)<|.A 1 I<|.nil<|.K [0,5,6,7,9,10,29,30] I<|.block<|.L [0,5,6,7,9,29] h (λv=>[(10,.vec 0 (List.length v.1)),(30,.d (.int v.2))]) (λv=>[(0,.vec 4 1 (List.map D.bool v.1))]) I λ_ ⟨b0_14,x15⟩ h=>.sA 1 I<|.K [0,5,6,7,9,10,29,30,31] I<|.seq<|.condS I h (λh=>?_) λh=>?_
 ·refine .skip<|.seq<|.block<|.sA 2 I<|.draw 16 Hm (by kernel_rfl) (by kernel_rfl)<|.A 7 I<|.X h I λx17 h=>.A 4 I<|bK h λx18 q18 h=>.p I (.dyn I I I ⟨_,_,I,K113,zez _ _ _ _ _ _ q18⟩)<|.A 2 I<|bK h λx19 q19 h=>.p I (.idxV I I I I I U144 S4 q19)<|.nil<|bK h λb0_20 hb0_20 h=>.storeEl (enc:=D.bool) I I I I I I I I I C4 hb0_20<|.relen 10 I (zdy hb0_20)<|.relen 33 I (zdy hb0_20)<|.nil<|.K [0,5,6,7,9,10,29,30] I<|.rA 2 I (ndE h I)
 ·refine .exit<|.S 1 I<|.nilVec 12 1 49 I<|.nil<|.seq<|.seq<|.freezes [0] (.cons (t:=10) I (.vec (inIds I) I (by simp)) .nil)<|.region<|.A 3 I<|.Z h I (digraph_Cycles_ok _ _ _) λx22 h=>.p I (.len I U145 I)<|.A 1 I<|.nil<|.block<|.L [5,6,7,9,53,54] h (λv=>[(12,.vec 1 (List.length v.1)),(55,.d (.int v.2))]) (λv=>[(1,.vec 49 1 (List.map eH v.1))]) I λ_ ⟨b1_117,x118⟩ h=>.sA 1 I<|.K [5,6,7,9,12,53,54,55,56] I<|.seq<|.condS I h (λh=>?_) λh=>?_
  ·refine .skip<|.J [5,6,7,9,53,54,55] h (λv=>[(12,.vec 1 (List.length v))]) (λv=>[(1,.vec 49 1 (List.map eH v))]) I (λk_121 h=>?_) (λb1_120 h=>?_)
   ·refine .block<|.sr<|.X h I λx122 h=>.A 2 I<|.nil<|.S 1 I<|.nilVec 15 2 33 I<|.nil<|.sA 2 I<|.seq<|.S 1 I<|.p I (.len I U22 I)<|.A 1 I<|.nil<|.block<|.L [5,6,7,9,12,14,53,54,55,59,60] h (λv=>[(15,.vec 2 (List.length v.1)),(16,.d (.bool v.2.1)),(17,.d (.bool v.2.2.1)),(61,.d (.int v.2.2.2))]) (λv=>[(2,.vec 33 2 (List.map Row.enc v.1))]) I λ_ ⟨b2_149,x150,x151,x152⟩ h=>.sA 1 I<|.K [5,6,7,9,12,14,15,16,17,53,54,55,59,60,61,62] I<|.seq<|.condS I h (λh=>?_) λh=>?_
    ·refine .skip<|.seq<|.block<|.S 1 I<|.X h I λx154 h=>.A 3 I<|.nil<|.seq<|.draw 14 Hm (by kernel_rfl) (by kernel_rfl)<|.A 8 I<|.p I (.len I U22 I)<|bK h λx155 q155 h=>.p I (.rem6 I I I q155)<|.X h I λx156 h=>.A 3 I<|.nil<|.nil<|.K [5,6,7,9,12,14,15,16,17,20,53,54,55,59,60,61] I<|.seq<|.plain 20 I<|.A 2 I<|gK h λc158 h=>.jO 7 (decide (0<((zG n t2 (add64 t1.first (add64 (mul64 x154 t1.size) x156))).getD default))) I (λb157=>?_) ?_
     ·refine .A 5 I<|.q I (.call I (kC I) I (za0 _ _ _ _ (someD (impF c158 b157))))<|.A 1 I<|.nil I
     refine .A 2 I<|gK h λc160 h=>.jO 7 (decide (0<((zG n t3 (add64 t1.first (add64 (mul64 x154 t1.size) x156))).getD default))) I (λb159=>?_) ?_
     ·refine .A 5 I<|.q I (.call I (kC I) I (za0 _ _ _ _ (someD (impF c160 b159))))<|.A 1 I<|.nil I
     refine .nil<|.A 2 I<|.nil<|.K [5,6,7,9,12,14,15,16,17,20,53,54,55,59,60,61] I<|.draw 13 Hm (by kernel_rfl) (by kernel_rfl)<|.A 5 I<|.p I (.castD (Term.enc (⟨add64 t1.first (add64 (mul64 x154 t1.size) x156),(-1)⟩:Term)) I (.build I Pl41 (.agg Zc41 (ds':=[_,_]) (.e .e1)) I I))<|.p I (.buildSl [_] I I E31 I (λ_=>I) I (enc:=Term.enc))<|.A 2 I<|bK h λx161 q161 h=>.p I (.dyn I I I ⟨_,_,I,K113,zez _ _ _ _ _ _ q161⟩)<|.A 1 I<|.p I (.castD (Row.enc (⟨[(⟨add64 t1.first (add64 (mul64 x154 t1.size) x156),(-1)⟩:Term)],sub64 x161 1⟩:Row)) I (.build I Pl33 (.agg Zc33 (ds':=[_,_]) (.e .e1)) I I))<|.p I (.buildSl [_] I I E49 I (λ_=>I) I (enc:=Row.enc))<|.nil<|bK h λx162 q162 h=>.app I I I I I I I I E49 I (λ_=>I) q162<|.A 1 I<|.nil<|.rA 2 I (ndE h I)
    ·refine .exit<|.seq<|.plain 4 I<|.A 2 I<|.jA 1 (x151) I (λb163=>?_) ?_
     ·refine .A 1 I<|.nil I
     refine .nil<|.nil<|.condS I h (λh=>?_) λh=>?_
     ·refine .freezes [2] (.cons (t:=15) I (.vec (inIds I) I (by simp)) .nil)<|.region<|.A 2 I<|.p I (.buildSl [_] I I E51 I (λ_=>I) I (enc:=eH))<|bK h λx164 q164 h=>.app I I I I I I I I E51 I (λ_=>I) q164<|.A 1 I<|.nil (ndE h I)
     ·refine .skip (ndE h I)
   ·refine .rA 2 I (ndE h I)
  ·refine .exit<|.sA 2 I<|.ret ?_
   cases h
   exact zb8 I (.vec I (by simp))
theorem interval_box_ok (n t0 r) (h:zb5 n t0=some r):Pure pg 175 [eK t0] (.bool r):=by
 refine Pure.ot Tryz.func175 I Tryz.ntmps175 I λA w=>.sA 1 I<|.seq<|.S 1 I<|.p I (.len I U48 I)<|.A 1 I<|.nil<|.block<|.L [0,5,6] h (λv=>[(7,.d (.int v))]) (λv=>[]) I λ_ x11 h=>.sA 1 I<|.seq<|.condS I h (λh=>?_) λh=>?_
 ·refine .skip<|.seq<|.block<|.sr<|.X h I λx13 h=>.A 1 I<|.allocStore I I I I I I I I (by simp) I I Z87<|.nil<|.seq<|.plain 18 I<|.A 4 I<|.jO 3 (decide (1000000<x13.lo)) I (λb14=>?_) ?_
  ·refine .A 3 I<|.nil I
  refine .A 1 I<|.jO 3 (decide (x13.hi<(-1000000))) I (λb15=>?_) ?_
  ·refine .A 3 I<|.nil I
  refine .A 1 I<|.jO 3 (decide (1000000<x13.hi)) I (λb16=>?_) ?_
  ·refine .A 3 I<|.nil I
  refine .nil<|.nil<|.K [0,5,6,7,28] I<|.condS I h (λh=>?_) λh=>?_
  ·refine .sA 1 I<|.ret (rO h I)
  ·refine .skip<|.rA 2 I (ndE h I)
 ·refine .exit<|.S 1 I<|.p I (.len I U48 I)<|.A 2 I<|.nil<|.ret (rO h I)
theorem interval_fits_ok (n t0 t1 r) (h:zbL n t0 t1=some r):Pure pg 178 [.int t0,Row.enc t1] (.bool r):=by
 refine Pure.ot Tryz.func178 I Tryz.ntmps178 I λA w=>.sA 2 I<|.sA 1 I<|.seq<|.S 2 I<|.p I (.len I U31 I)<|.A 1 I<|.nil<|.block<|.L [0,3,9,10] h (λv=>[(5,.d (.int v.1)),(11,.d (.int v.2))]) (λv=>[]) I λ_ ⟨x15,x16⟩ h=>.sA 1 I<|.seq<|.condS I h (λh=>?_) λh=>?_
 ·refine .skip<|.seq<|.block<|.sr<|.X h I λx18 h=>.A 1 I<|.allocStore I I I I I I I I (by simp) I I Z41<|.nil<|.seq<|.seq<|.plain 25 I<|.A 5 I<|.jO 4 (decide (t0≤x18.cell)) I (λb19=>?_) ?_
  ·refine .A 4 I<|.nil I
  refine .A 1 I<|.jO 3 (x18.factor==0) I (λb20=>?_) ?_
  ·refine .A 3 I<|.nil I
  refine .A 1 I<|.jO 3 (decide (x18.factor<(-1000))) I (λb21=>?_) ?_
  ·refine .A 3 I<|.nil I
  refine .A 1 I<|.jO 3 (decide (1000<x18.factor)) I (λb22=>?_) ?_
  ·refine .A 3 I<|.nil I
  refine .nil<|.nil<|.K [0,3,7,9,10,11,39] I<|.condS I h (λh=>?_) λh=>?_
  ·refine .sA 1 I<|.ret (rO h I)
  ·refine .skip<|.rA 3 I<|.rA 2 I (ndE h I)
 ·refine .exit<|.seq<|.plain 8 I<|.A 4 I<|.jA 3 (decide (t1.bound≤1000000000)) I (λb23=>?_) ?_
  ·refine .A 3 I<|.nil I
  refine .nil<|.A 1 I<|.nil<|.ret (rO h I)
theorem interval_Valid_1_ok (n t0 t1 r) (h:zb2 n t0 t1=some r):Pure pg 177 [Row.enc t0,.ref (eK t1)] (.bool r):=by
 refine Pure.ot Tryz.func177 I Tryz.ntmps177 I λA w=>.sA 2 I<|.S 1 I<|.p I (.len I U48 I)<|.A 1 I<|.Z h I (interval_fits_ok _ _ _) λx1 h=>.A 2 I<|.nil<|.ret (rO h I)
theorem zfS (n t0 t1 r) (h:zbO n t0 t1=some r):Pure pg 115 [eK t0,eH t1] (.bool r):=by
 refine Pure.ot Tryz.func115 I Tryz.ntmps115 I λA w=>.sA 2 I<|.seq<|.plain 8 I<|.A 1 I<|.Z h I (interval_box_ok _ _) λx1 h=>.A 1 I<|gK h λc3 h=>.jA 4 (!((zo n t1 (λq0=>zb2 n q0 t0)).getD default)) I (λb2=>?_) ?_
 ·refine .A 1 I<|.q I (.makeFunc I I)<|.q I (.call I (kC I) I (zbY _ _ _ _ (λq0 y hq=>⟨_,_,I,K177,interval_Valid_1_ok _ q0 _ _ hq⟩) _ (someD (impT c3 b2))))<|.A 1 I<|.nil I
 refine .nil<|.A 1 I<|.nil<|.ret (rO h I)
theorem zdj (n t0) (t1:Range→Option Bool) (F1:D) (hF1:∀ (q0:Range) (y:Bool),t1 q0=some y→Dyn pg F1 [Range.enc q0] (.bool y)) (r) (h:zD n t0 t1=some r):Pure pg 214 [eK t0,F1] (.int r):=by
 refine Pure.ot Tryz.func214 I Tryz.ntmps214 I λA w=>.sA 1 I<|.seq<|.S 1 I<|.p I (.len I U48 I)<|.A 1 I<|.nil<|.block<|.L [0,1,7] h (λv=>[(8,.d (.int v))]) (λv=>[]) I λ_ x7 h=>.sA 1 I<|.seq<|.condS I h (λh=>?_) λh=>?_
 ·refine .skip<|.seq<|.block<|.sA 2 I<|.S 3 I<|.X h I λx9 h=>.A 1 I<|bK h λx10 q10 h=>.p I (.dyn I I I (hF1 _ _ q10))<|.nil<|.condS I h (λh=>?_) λh=>?_
  ·refine .sA 2 I<|.ret (rO h I)
  ·refine .skip<|.rA 2 I (ndE h I)
 ·refine .exit<|.sA 1 I<|.ret (rO h I)
theorem zcZ (n t0) (t1:Range→Option Bool) (F1:D) (hF1:∀ (q0:Range) (y:Bool),t1 q0=some y→Dyn pg F1 [Range.enc q0] (.bool y)) (r) (h:zay n t0 t1=some r):Pure pg 179 [eK t0,F1] (.bool r):=by
 refine Pure.ot Tryz.func179 I Tryz.ntmps179 I λA w=>.sA 1 I<|.S 2 I<|.Z h I (zdj _ _ _ _ hF1) λx1 h=>.A 2 I<|.nil<|.ret (rO h I)
theorem interval_empty_ok (n t0 r) (h:zfy n t0=some r):Pure pg 180 [Range.enc t0] (.bool r):=by
 refine Pure.ot Tryz.func180 I Tryz.ntmps180 I λA w=>.sA 2 I<|.sA 6 I<|.ret (rO h I)
theorem interval_Empty_ok (n t0 r) (h:zcb n t0=some r):Pure pg 116 [eK t0] (.bool r):=by
 refine Pure.ot Tryz.func116 I Tryz.ntmps116 I λA w=>.sA 1 I<|.S 1 I<|.Z h I (zcZ _ _ _ _ (λq0 y hq=>⟨_,_,I,K180,interval_empty_ok _ q0 _ hq⟩)) λx1 h=>.A 1 I<|.nil<|.ret (rO h I)
theorem system_rows_ok (n t0 t1 t2 r) (h:zdz n t0 t1 t2=some r):Pure pg 117 [System.enc t0,eH t1,.int t2] (.bool r):=by
 refine Pure.ot Tryz.func117 I Tryz.ntmps117 I λA w=>.sA 2 I<|.seq<|.plain 10 I<|.A 1 I<|.p I (.len I U49 I)<|.A 3 I<|gK h λc2 h=>.jA 4 (((zbO n t0.box t1).getD default)) I (λb1=>?_) ?_
 ·refine .A 3 I<|.q I (.call I (kC I) I (zfS _ _ _ _ (someD (impT c2 b1))))<|.nil I
 refine .nil<|.A 1 I<|.nil<|.ret (rO h I)
theorem system_graph_1_ok (n t0 r) (h:zfH n t0=some r):Pure pg 181 [.int t0] (.bool r):=by
 refine Pure.ot Tryz.func181 I Tryz.ntmps181 I λA w=>.sA 1 I<|.seq<|.plain 6 I<|.A 3 I<|.jO 2 (decide (4000000<t0)) I (λb1=>?_) ?_
 ·refine .A 2 I<|.nil I
 refine .nil<|.A 1 I<|.nil<|.ret (rO h I)
theorem system_graph_ok (n t0 t1 r) (h:zfr n t0 t1=some r):Pure pg 118 [.int t0,Graph.enc t1] (.bool r):=by
 refine Pure.ot Tryz.func118 I Tryz.ntmps118 I λA w=>.sA 2 I<|.seq<|.seq<|.plain 36 I<|.A 4 I<|.jO 3 (decide (6<t1.size)) I (λb1=>?_) ?_
 ·refine .A 3 I<|.nil I
 refine .A 1 I<|.jO 3 (decide (t1.first<0)) I (λb2=>?_) ?_
 ·refine .A 3 I<|.nil I
 refine .A 1 I<|.jO 10 (decide (sub64 t0 (mul64 t1.size t1.size)<t1.first)) I (λb3=>?_) ?_
 ·refine .A 10 I<|.nil I
 refine .A 1 I<|.jO 9 ((t1.least.length:Int) != (mul64 t1.size t1.size)) I (λb4=>?_) ?_
 ·refine .A 2 I<|.q I (.len I U22 I)<|.A 6 I<|.nil I
 refine .nil<|.nil<|.K [3,40] I<|.condS I h (λh=>?_) λh=>?_
 ·refine .sA 1 I<|.ret (rO h I)
 ·refine .skip<|.S 2 I<|.Z h I (zaW _ _ _ _ (λq0 y hq=>⟨_,_,I,K181,system_graph_1_ok _ q0 _ hq⟩)) λx5 h=>.A 2 I<|.nil<|.ret (rO h I)
theorem system_Valid_1_ok (n t0 t1 r) (h:zfG n t0 t1=some r):Pure pg 120 [eH t0,.ref (System.enc t1)] (.bool r):=by
 refine Pure.ot Tryz.func120 I Tryz.ntmps120 I λA w=>.sA 1 I<|.S 2 I<|.Z h I (system_rows_ok _ _ _ _) λx1 h=>.A 2 I<|.nil<|.ret (rO h I)
theorem zeq (n t0) (t1:(List Row)→Option Bool) (F1:D) (hF1:∀ (q0:List Row) (y:Bool),t1 q0=some y→Dyn pg F1 [eH q0] (.bool y)) (r) (h:zY n t0 t1=some r):Pure pg 182 [eR t0,F1] (.int r):=by
 refine Pure.ot Tryz.func182 I Tryz.ntmps182 I λA w=>.sA 1 I<|.seq<|.S 1 I<|.p I (.len I U51 I)<|.A 1 I<|.nil<|.block<|.L [0,1,7] h (λv=>[(8,.d (.int v))]) (λv=>[]) I λ_ x7 h=>.sA 1 I<|.seq<|.condS I h (λh=>?_) λh=>?_
 ·refine .skip<|.seq<|.block<|.sA 2 I<|.S 3 I<|.X h I λx9 h=>.A 1 I<|bK h λx10 q10 h=>.p I (.dyn I I I (hF1 _ _ q10))<|.nil<|.condS I h (λh=>?_) λh=>?_
  ·refine .sA 2 I<|.ret (rO h I)
  ·refine .skip<|.rA 2 I (ndE h I)
 ·refine .exit<|.sA 1 I<|.ret (rO h I)
theorem zdW (n t0) (t1:(List Row)→Option Bool) (F1:D) (hF1:∀ (q0:List Row) (y:Bool),t1 q0=some y→Dyn pg F1 [eH q0] (.bool y)) (r) (h:za2 n t0 t1=some r):Pure pg 119 [eR t0,F1] (.bool r):=by
 refine Pure.ot Tryz.func119 I Tryz.ntmps119 I λA w=>.sA 1 I<|.S 2 I<|.Z h I (zeq _ _ _ _ hF1) λx1 h=>.A 2 I<|.nil<|.ret (rO h I)
theorem system_Valid_ok (n t0 r) (h:zbb n t0=some r):Pure pg 64 [System.enc t0] (.bool r):=by
 refine Pure.ot Tryz.func64 I Tryz.ntmps64 I λA w=>.sA 2 I<|.seq<|.seq<|.plain 28 I<|.A 2 I<|bK h λx1 q1 h=>.p I (.callLe I (kC I) I (.e .o1) (zfS _ _ _ _ q1))<|.A 2 I<|gK h λc3 h=>.jO 3 (((zcb n t0.box).getD default)) I (λb2=>?_) ?_
 ·refine .A 2 I<|.q I (.call I (kC I) I (interval_Empty_ok _ _ _ (someD (impF c3 b2))))<|.nil I
 refine .A 1 I<|gK h λc5 h=>.jO 5 (!((zdz n t0 t0.rows 1024).getD default)) I (λb4=>?_) ?_
 ·refine .A 3 I<|.q I (.call I (kC I) I (system_rows_ok _ _ _ _ _ (someD (impF c5 b4))))<|.A 1 I<|.nil I
 refine .A 1 I<|.jO 4 (decide (64<(t0.graphs.length:Int))) I (λb6=>?_) ?_
 ·refine .A 2 I<|.q I (.len I U50 I)<|.A 1 I<|.nil I
 refine .A 1 I<|.jO 4 (decide (1024<(t0.cases.length:Int))) I (λb7=>?_) ?_
 ·refine .A 2 I<|.q I (.len I U51 I)<|.A 1 I<|.nil I
 refine .nil<|.nil<|.K [1,32] I<|.condS I h (λh=>?_) λh=>?_
 ·refine .sA 1 I<|.ret (rO h I)
 ·refine .skip<|.seq<|.S 2 I<|.p I (.len I U50 I)<|.A 1 I<|.nil<|.block<|.L [1,34,35] h (λv=>[(36,.d (.int v))]) (λv=>[]) I λ_ x14 h=>.sA 1 I<|.seq<|.condS I h (λh=>?_) λh=>?_
  ·refine .skip<|.seq<|.block<|.sr<|.X h I λx16 h=>.A 1 I<|.allocStore I I I I I I I I (by simp) I I Z99<|.nil<|.S 2 I<|.p I (.len I U48 I)<|.A 1 I<|.Z h I (system_graph_ok _ _ _) λx17 h=>.A 1 I<|.nil<|.condS I h (λh=>?_) λh=>?_
   ·refine .sA 1 I<|.ret (rO h I)
   ·refine .skip<|.rA 2 I (ndE h I)
  ·refine .exit<|.S 2 I<|.p I (.makeFunc I I)<|.Z h I (zdW _ _ _ _ (λq0 y hq=>⟨_,_,I,K120,system_Valid_1_ok _ q0 _ _ hq⟩)) λx18 h=>.A 2 I<|.nil<|.ret (rO h I)
theorem zds (n t0 t1 t2 r) (h:zc n t0 t1 t2=some r):Pure pg 19 [Model.enc t0,Question.enc t1,eA t2] (.tup [System.enc r.1,.int r.2]):=by
 refine Pure.ot Tryz.func19 I Tryz.ntmps19 I λA w=>.S 2 I<|.allocZ I I I I (.agg Zc53 (ds':=[eK [],eH [],eO [],eR []]) (.o (.o (.o .o1)))) I<|.A 1 I<|.nil<|.seq<|.S 2 I<|.Z h I (zgb _ _ _) λx1 h=>.A 1 I<|.nil<|.condS I h (λh=>?_) λh=>?_
 ·refine .sr<|.p I (.castD (System.enc (⟨[],[],[],[]⟩:System)) I (.build I Pl53 (.agg Zc53 (ds':=[eK [],eH [],eO [],eR []]) (.o (.o (.o .o1)))) I I))<|.store I I I I I I (.ofD I) C53 I (yh I)<|.A 1 I<|.nil<|.ret ?_
  cases h
  exact zb4 I I Y53 (.v (.v (.v .v1))) I (.d _)
 ·refine .skip<|.seq<|.S 1 I<|.p I (.len I U22 I)<|.A 1 I<|.nil<|.block<|.L [2,3,4,6,31,32] h (λv=>[(33,.d (.int v))]) (λv=>[]) I λ_ x12 h=>.sA 1 I<|.seq<|.condS I h (λh=>?_) λh=>?_
  ·refine .skip<|.seq<|.block<|.sr<|.X h I λx14 h=>.A 2 I<|.nil<|.seq<|.plain 18 I<|.A 3 I<|.jO 5 (decide ((t0.constraints.length:Int)≤x14)) I (λb15=>?_) ?_
   ·refine .A 3 I<|.q I (.len I U25 I)<|.A 1 I<|.nil I
   refine .A 1 I<|gK h λc17 h=>.jO 7 ((((idx t0.constraints x14).getD default).kind) != 0) I (λb16=>?_) ?_
   ·refine .A 3 I<|.q I (.ix I U25 S78 (someD (impF c17 b16)))<|.A 3 I<|.nil I
   refine .nil<|.nil<|.K [2,3,4,6,31,32,33,54] I<|.condS I h (λh=>?_) λh=>?_
   ·refine .sr<|.p I (.castD (System.enc (⟨[],[],[],[]⟩:System)) I (.build I Pl53 (.agg Zc53 (ds':=[eK [],eH [],eO [],eR []]) (.o (.o (.o .o1)))) I I))<|.store I I I I I I (.ofD I) C53 I (yh I)<|.A 1 I<|.nil<|.ret ?_
    cases h
    exact zb4 I I Y53 (.v (.v (.v .v1))) I (.d _)
   ·refine .skip<|.rA 2 I (ndE h I)
  ·refine .exit<|.seq<|.draw 16 Hm (by kernel_rfl) (by kernel_rfl)<|.A 4 I<|.X h I λx18 h=>.A 5 I<|.X h I λx19 h=>.A 1 I<|.alloc I I I I ZZ84<|.alloc I I I I ZZ84<|.store I I I I I I Z84<|.store I I I I I I Z84<|.nil<|.freezes [1,2] (.cons (t:=10) (d:=.ref (Action.enc x18)) I (.loc (inIds I) I (.v (.v (.v (.v .v1))))) (.cons (t:=11) (d:=.ref (Action.enc x19)) I (.loc (inIds I) I (.v (.v (.v (.v .v1))))) .nil))<|.nil<|.K [2,3,4,6,10,11] I<|.S 1 I<|.Z h I (model_Strict_ok _ _) λx20 h=>.p I (.build I Pl53 (.agg Zc53 (ds':=[_,.val (.slice none 0 0),.val (.slice none 0 0),eR []]) (.e (.e (.e .o1)))) I I)<|.allocZ I I I I (.agg Zc53 (ds':=[eK [],.val (.slice none 0 0),.val (.slice none 0 0),eR []]) (.o (.e (.e .o1)))) I<|.nilCell 3 1 2 33 I I<|.nilCell 3 2 3 99 I I<|.store I I I I I I (.ofD I) C53 I (yh I)<|.nilCell 3 1 2 33 I I<|.nilCell 3 2 3 99 I I<|.nil<|.seq<|.S 2 I<|.p I (.len I U25 I)<|.A 1 I<|.nil<|.block<|.L [2,3,4,6,10,11,12,73,74] h (λv=>[(75,.d (.int v.2))]) (λv=>[(3,.box 53 [.d (eK x20),.vec 6 (List.length v.1),.vec 7 (List.length ([]:List Graph)),.d (eR [])]),(6,.vec 33 2 (List.map Row.enc v.1))]) I λ_ ⟨b6_49,x50⟩ h=>.sA 1 I<|.K [2,3,4,6,10,11,12,73,74,75,76] I ?_
   refine .seq<|.condS I h (λh=>?_) λh=>?_
   ·refine .skip<|.J [2,3,4,6,10,11,12,73,74,75] h (λv=>[]) (λv=>[(3,.box 53 [.d (eK x20),.vec 6 (List.length v),.vec 7 (List.length ([]:List Graph)),.d (eR [])]),(6,.vec 33 2 (List.map Row.enc v))]) I (λk_53 h=>?_) (λb6_52 h=>?_)
    ·refine .block<|.S 1 I<|.X h I λx54 h=>.A 1 I<|.allocZ I I I I (.agg Zc78 (ds':=[.int 0,.int 0,eL [],.int 0,.int 0,.int 0]) (.e (.e (.o (.e (.e .e1)))))) I<|.A 1 I<|.store I I I I I I (.ofD I) C78 I (yh I)<|.nil<|.seq<|.sr<|.p I (.fieldAddrLoc I I I F78_0)<|.p I (.loadLoc1 I I I Y3 I)<|.A 1 I<|.nil<|.condS I h (λh=>?_) λh=>?_
     ·refine .exit (ndE h I)
     ·refine .skip<|.seq<|.draw 10 Hm (by kernel_rfl) (by kernel_rfl)<|.A 1 I<|.p I (.fieldAddrLoc I I I F78_2)<|.p I (.loadLoc I I I Y33 (yh I) (v:=.d (Row.enc x54.row)) I)<|.Z h I (zaB _ _ _) λx55 h=>.A 1 I<|.p I (.fieldAddrLoc I I I F78_2)<|.p I (.loadLoc I I I Y33 (yh I) (v:=.d (Row.enc x54.row)) I)<|.Z h I (zaB _ _ _) λx56 h=>.A 2 I<|.nil<|.nil<|.K [2,3,4,6,10,11,12,13,14,15,16,73,74,75] I<|.S 2 I<|.p I (.max3 I I I I)<|.A 1 I<|.nil<|.J [2,3,4,6,10,11,12,14,73,74,75] h (λv=>[(17,.d (.int v))]) (λv=>[]) I (λk_58 h=>?_) (λx57 h=>?_)
      ·refine .seq<|.plain 15 I<|.A 2 I<|.Z h I (zc1 _ _ _) λx59 h=>.A 1 I<|.jA 10 (t1.target.hold||(t1.target.index != x50)) I (λb60=>?_) ?_
       ·refine .q I (.fa I (G37_2 _))<|.A 3 I<|.jOr 5 (b2:=t1.target.index != x50) I I I I (.inr ⟨_,_,_,I,I,I⟩) (λ_ _ _ h1 h2=>by cases h1;cases h2;decide) I I (λb61=>?_) ?_
        ·refine .q I (.fa I (G37_2 _))<|.A 4 I<|.nil I
        exact .nil I
       refine .nil<|.nil<|.K [2,3,4,6,10,11,12,14,15,16,17,73,74,75,108] I<|.condS I h (λh=>?_) λh=>?_
       ·refine .region<|.A 4 I<|.p I (.max2 I I I)<|.A 1 I<|.nil (ndE h I)
       ·refine .skip (ndE h I)
      ·refine .draw 8 Hm (by kernel_rfl) (by kernel_rfl)<|.p I (.fieldAddrLoc I I I F53_1)<|.p I (.loadLoc1 I I I Y49 I)<|.p I (.fieldAddrLoc I I I F78_2)<|.p I (.loadLoc I I I Y33 (yh I) (v:=.d (Row.enc x54.row)) I)<|.A 1 I<|.p I (.call I (kC I) I (condition_less_fn n x57))<|.Z h I (zcg _ _ _ _ _ (λq0 y hq=>⟨_,_,I,K51,zd6 _ q0 _ hq⟩) _ (λq0 y hq=>⟨_,_,I,K112,condition_less_1_ok _ q0 _ _ hq⟩)) λx62 h=>.p I (.buildSl [_] I I E49 I (λ_=>I) I (enc:=Row.enc))<|.nil<|bK h λx63 q63 h=>.app I I I I I I I I E49 I (λ_=>I) q63<|.p I (.fieldAddrLoc I I I F53_1)<|.store I I I I I I (.cons (.vec I (by simp)) .nil) C49 I (yh I)<|.nil (ndE h I)
    ·refine .rA 2 I (ndE h I)
   ·refine .exit<|.sr<|.p I (.fa I (G84_2 _))<|.A 2 I<|bK h λx64 q64 h=>.clone (enc:=Row.enc) I I I I K53 Tryz.func53 I I I I E49 I (λ_=>I) (λ_=>I) q64 I I<|.A 1 I<|.nil<|.J [3,4,6,10,11,12] h (λv=>[(18,.vec 8 (List.length v))]) (λv=>[(8,.vec 33 2 (List.map Row.enc v))]) I (λk_66 h=>?_) (λb8_65 h=>?_)
    ·refine .sA 5 I<|.condS I h (λh=>?_) λh=>?_
     ·refine .region<|.A 1 I<|.p I (.fa I (G84_2 _))<|.A 2 I<|bK h λx67 q67 h=>.app I I I I I I I I E49 I (λ_=>I) q67<|.A 1 I<|.nil (ndE h I)
     ·refine .skip (ndE h I)
    ·refine .seq<|.S 1 I<|.p I (.lenV I U49 I I I)<|.A 1 I<|.nil<|.K [3,4,6,10,11,12,139,140,141] I<|.block<|.L [3,4,6,10,11,12,139,140] h (λv=>[(141,.d (.int v.2))]) (λv=>[(3,.box 53 [.d (eK x20),.vec 6 (List.length v.1),.vec 7 (List.length ([]:List Graph)),.d (eR [])]),(6,.vec 33 2 (List.map Row.enc v.1))]) I λ_ ⟨b6_78,x79⟩ h=>.sA 1 I<|.K [3,4,6,10,11,12,139,140,141,142] I<|.seq<|.condS I h (λh=>?_) λh=>?_
     ·refine .skip<|.seq<|.block<|.sr<|bK h λx81 q81 h=>.p I (.idxV I I I I I U49 S33 q81)<|.p I (.loadEl I I I I q81 Y33 I)<|.allocStore I I I I I I I I (by simp) I I Z33<|.nil<|.draw 5 Hm (by kernel_rfl) (by kernel_rfl)<|.p I (.fieldAddrLoc I I I F53_1)<|.p I (.loadLoc1 I I I Y49 I)<|.A 1 I<|.Z h I (zcg _ _ _ _ _ (λq0 y hq=>⟨_,_,I,K51,zd6 _ q0 _ hq⟩) _ (λq0 y hq=>⟨_,_,I,K51,zd6 _ q0 _ hq⟩)) λx82 h=>.p I (.buildSl [_] I I E49 I (λ_=>I) I (enc:=Row.enc))<|.nil<|bK h λx83 q83 h=>.app I I I I I I I I E49 I (λ_=>I) q83<|.p I (.fieldAddrLoc I I I F53_1)<|.store I I I I I I (.cons (.vec I (by simp)) .nil) C49 I (yh I)<|.nil<|.rA 2 I (ndE h I)
     ·refine .exit<|.sr<|.p I (.makeFuncV I I)<|.A 1 I<|.nil<|.sr<|.p I (.castD (Constraint.enc (⟨0,0,(⟨[],0⟩:Row),0,0⟩:Constraint)) I (.build I Pl78 (.agg Zc78 (ds':=[_,_,eL [],_,_,_]) (.e (.e (.o (.e (.e .e1)))))) I I))<|.allocZ I I I I (.agg Zc78 (ds':=[.int 0,.int 0,eL [],.int 0,.int 0,.int 0]) (.e (.e (.o (.e (.e .e1)))))) I<|.store I I I I I I (.ofD I) C78 I (yh I)<|.nil<|.J [3,4,6,10,11,12,22] h (λv=>[]) (λv=>[(3,.box 53 [.d (eK x20),.vec 6 (List.length v.1),.vec 7 (List.length ([]:List Graph)),.d (eR [])]),(6,.vec 33 2 (List.map Row.enc v.1)),(9,.box 78 [.d (.int v.2.1),.d (.int v.2.2.1),.d (eL v.2.2.2.1),.d (.int v.2.2.2.2.1),.d (.int v.2.2.2.2.2.1),.d (.int v.2.2.2.2.2.2)])]) I (λk_91 h=>?_) (λv h=>?_)
      ·refine .sr<|.p I (.fa I (G37_2 _))<|.A 2 I<|.nil<|.condS I h (λh=>?_) λh=>?_
       ·refine .sr<|.p I (.fa I (G84_2 _))<|.A 2 I<|.p I (.fa I (G37_2 _))<|.A 2 I<|.X h I λx92 h=>.A 1 I<|.allocStore I I I I I I I I (by simp) I I Z33<|.nil<|.K [3,4,6,10,11,12,21,22,23] I<|.draw 5 Hm (by kernel_rfl) (by kernel_rfl)<|.A 4 I<|.Z h I (zaB _ _ _) λx93 h=>.nil<|.inline (rs:=[]) I I (.clos I I K54 I) Tryz.func54 I Tryz.ntmps54 I I I I (λown0 w gh=>?_)
        refine .sA 2 I<|.K [2,3,4] I<|.draw 6 Hm (by kernel_rfl) (by kernel_rfl)<|.p I (.fieldAddrLoc I I I F53_1)<|.p I (.loadLoc1 I I I Y49 I)<|.A 1 I<|.p I (.makeFunc I I)<|.Z h I (zcg _ _ _ _ _ (λq0 y hq=>⟨_,_,I,K55,zeA _ q0 _ hq⟩) _ (λq0 y hq=>⟨_,_,I,K56,zdK _ q0 _ _ hq⟩)) λx94 h=>.p I (.buildSl [_] I I E49 I (λ_=>I) I (enc:=Row.enc))<|.nil<|bK h λx95 q95 h=>.app I I I I I I I I E49 I (λ_=>I) q95<|.p I (.fieldAddrLoc I I I F53_1)<|.store I I I I I I (.cons (.vec I (by simp)) .nil) C49 I (yh I)<|.nil <| ⟨.inr I,_,I,?_⟩
        refine .nil (ndE h I)
       ·refine .S 2 I<|.p I (.fa I (G37_2 _))<|.A 2 I<|.X h I λx96 h=>.A 1 I<|.store I I I I I I (.ofD I) C78 I (yh I)<|.nil<|.K [3,4,6,10,11,12,21,22] I<|.sr<|.p I (.fieldAddrLoc I I I F78_0)<|.p I (.loadLoc1 I I I Y3 I)<|.A 1 I<|.nil<|.condS I h (λh=>?_) λh=>?_
        ·refine .draw 12 Hm (by kernel_rfl) (by kernel_rfl)<|.A 1 I<|.p I (.fieldAddrLoc I I I F78_2)<|.p I (.loadLoc I I I Y33 (yh I) (v:=.d (Row.enc x96.row)) I)<|.A 1 I<|.p I (.fieldAddrLoc I I I F78_2)<|.p I (.loadLoc I I I Y33 (yh I) (v:=.d (Row.enc x96.row)) I)<|.Z h I (zaB _ _ _) λx97 h=>.A 1 I<|.p I (.fieldAddrLoc I I I F78_2)<|.p I (.loadLoc I I I Y33 (yh I) (v:=.d (Row.enc x96.row)) I)<|.Z h I (zaB _ _ _) λx98 h=>.A 1 I<|.nil<|.inline (rs:=[]) I I (.clos I I K54 I) Tryz.func54 I Tryz.ntmps54 I I I I (λown0 w gh=>?_)
         refine .sA 2 I<|.K [2,3,4] I<|.draw 6 Hm (by kernel_rfl) (by kernel_rfl)<|.p I (.fieldAddrLoc I I I F53_1)<|.p I (.loadLoc1 I I I Y49 I)<|.A 1 I<|.p I (.makeFunc I I)<|.Z h I (zcg _ _ _ _ _ (λq0 y hq=>⟨_,_,I,K55,zeA _ q0 _ hq⟩) _ (λq0 y hq=>⟨_,_,I,K56,zdK _ q0 _ _ hq⟩)) λx99 h=>.p I (.buildSl [_] I I E49 I (λ_=>I) I (enc:=Row.enc))<|.nil<|bK h λx100 q100 h=>.app I I I I I I I I E49 I (λ_=>I) q100<|.p I (.fieldAddrLoc I I I F53_1)<|.store I I I I I I (.cons (.vec I (by simp)) .nil) C49 I (yh I)<|.nil <| ⟨.inr I,_,I,?_⟩
         refine .nil (ndE h I)
        ·refine .skip (ndE h I)
      ·obtain ⟨b6_84,c9_0_85,c9_1_86,c9_2_87,c9_3_88,c9_4_89,c9_5_90⟩:=v
       refine .seq<|.S 2 I<|.p I (.len I U25 I)<|.A 1 I<|.nil<|.K [4,6,10,11,12,22,196,197,198] I<|.block<|.L [4,6,10,11,12,22,196,197] h (λv=>[(198,.d (.int v.2))]) (λv=>[(3,.box 53 [.d (eK x20),.vec 6 (List.length b6_84),.vec 7 (List.length v.1),.d (eR [])]),(7,.vec 99 3 (List.map Graph.enc v.1))]) I λ_ ⟨b7_133,x134⟩ h=>.sA 1 I<|.K [4,6,10,11,12,22,196,197,198,199] I<|.seq<|.condS I h (λh=>?_) λh=>?_
       ·refine .skip<|.J [4,6,10,11,12,22,196,197,198] h (λv=>[]) (λv=>[(3,.box 53 [.d (eK x20),.vec 6 (List.length b6_84),.vec 7 (List.length v),.d (eR [])]),(7,.vec 99 3 (List.map Graph.enc v))]) I (λk_137 h=>?_) (λb7_136 h=>?_)
        ·refine .block<|.sr<|.X h I λx138 h=>.A 1 I<|.allocStore I I I I I I I I (by simp) I I Z78<|.nil<|.seq<|.sA 3 I<|.condS I h (λh=>?_) λh=>?_
         ·refine .exit (ndE h I)
         ·refine .skip<|.seq<|.draw 5 Hm (by kernel_rfl) (by kernel_rfl)<|.p I (.fieldAddrLoc I I I F53_2)<|.p I (.loadLoc1 I I I Y50 I)<|.A 1 I<|.Z h I (zdL _ _ _ _ (λq0 y hq=>⟨_,_,I,K58,zgS _ q0 _ hq⟩)) λx139 h=>.p I (.buildSl [_] I I E50 I (λ_=>I) I (enc:=Graph.enc))<|.nil<|bK h λx140 q140 h=>.app I I I I I I I I E50 I (λ_=>I) q140<|.p I (.fieldAddrLoc I I I F53_2)<|.store I I I I I I (.cons (.vec I (by simp)) .nil) C50 I (yh I)<|.nil<|.J [4,6,10,11,12,22,25,196,197,198] h (λv=>[]) (λv=>[(3,.box 53 [.d (eK x20),.vec 6 (List.length b6_84),.vec 7 (List.length v),.d (eR [])]),(7,.vec 99 3 (List.map Graph.enc v))]) I (λk_142 h=>?_) (λb7_141 h=>?_)
          ·refine .S 2 I<|.Z h I (zct _ _ _) λx143 h=>.p I (.len I U22 I)<|.A 1 I<|.nil<|.K [4,6,10,11,12,22,25,196,197,198,216] I<|.condS I h (λh=>?_) λh=>?_
           ·refine .draw 6 Hm (by kernel_rfl) (by kernel_rfl)<|.p I (.fieldAddrLoc I I I F53_2)<|.p I (.loadLoc1 I I I Y50 I)<|.A 1 I<|.p I (.makeFunc I I)<|.Z h I (zdL _ _ _ _ (λq0 y hq=>⟨_,_,I,K60,zgT _ q0 _ _ hq⟩)) λx144 h=>.p I (.buildSl [_] I I E50 I (λ_=>I) I (enc:=Graph.enc))<|.nil<|bK h λx145 q145 h=>.app I I I I I I I I E50 I (λ_=>I) q145<|.p I (.fieldAddrLoc I I I F53_2)<|.store I I I I I I (.cons (.vec I (by simp)) .nil) C50 I (yh I)<|.nil (ndE h I)
           ·refine .skip (ndE h I)
          ·refine .seq<|.plain 12 I<|.A 6 I<|gK h λc147 h=>.jA 5 (decide (0<(((zi n x19 x138).getD default).length:Int))) I (λb146=>?_) ?_
           ·refine .A 2 I<|.q I (.call I (kC I) I (zct _ _ _ _ (someD (impT c147 b146))))<|.q I (.len I U22 I)<|.A 1 I<|.nil I
           refine .nil<|.nil<|.K [4,6,10,11,12,22,25,196,197,198,236] I<|.condS I h (λh=>?_) λh=>?_
           ·refine .draw 6 Hm (by kernel_rfl) (by kernel_rfl)<|.p I (.fieldAddrLoc I I I F53_2)<|.p I (.loadLoc1 I I I Y50 I)<|.A 1 I<|.p I (.makeFunc I I)<|.Z h I (zdL _ _ _ _ (λq0 y hq=>⟨_,_,I,K62,zgU _ q0 _ _ hq⟩)) λx148 h=>.p I (.buildSl [_] I I E50 I (λ_=>I) I (enc:=Graph.enc))<|.nil<|bK h λx149 q149 h=>.app I I I I I I I I E50 I (λ_=>I) q149<|.p I (.fieldAddrLoc I I I F53_2)<|.store I I I I I I (.cons (.vec I (by simp)) .nil) C50 I (yh I)<|.nil (ndE h I)
           ·refine .skip (ndE h I)
        ·refine .rA 2 I (ndE h I)
       ·refine .exit<|.J [6,12] h (λv=>[]) (λv=>[(3,.box 53 [.d (eK x20),.vec 6 (List.length v.1),.vec 7 (List.length b7_133),.d (eR v.2)]),(6,.vec 33 2 (List.map Row.enc v.1))]) I (λk_152 h=>?_) (λv h=>?_)
        ·refine .sr<|.p I (.fieldAddrLoc I I I F78_0)<|.p I (.loadLoc1 I I I Y3 I)<|.A 1 I<|.nil<|.condS I h (λh=>?_) λh=>?_
         ·refine .sr<|.p I (.fieldAddrLoc I I I F53_0)<|.p I (.loadLoc1 I I I Y48 I)<|.p I (.loadLoc I I I Y78 (yh I) (v:=.d (Constraint.enc (⟨c9_0_85,c9_1_86,(⟨c9_2_87,c9_3_88⟩:Row),c9_4_89,c9_5_90⟩:Constraint))) I)<|.A 2 I<|.Z h I (condition_cases_ok _ _ _ _ _) λx153 h=>.p I (.fieldAddrLoc I I I F53_3)<|.store I I I I I I (.ofD I) C51 I (yh I)<|.nil<|.sr<|.p I (.fieldAddrLoc I I I F53_3)<|.p I (.loadLoc1 I I I Y51 I)<|.p I (.len I U51 I)<|.A 1 I<|.nil<|.condS I h (λh=>?_) λh=>?_
          ·refine .region<|.p I (.fieldAddrLoc I I I F53_1)<|.p I (.loadLoc1 I I I Y49 I)<|.p I (.castD (Row.enc (⟨[],(-1)⟩:Row)) I (.build I Pl33 (.agg Zc33 (ds':=[eL [],_]) (.o .e1)) I I))<|.p I (.buildSl [_] I I E49 I (λ_=>I) I (enc:=Row.enc))<|bK h λx154 q154 h=>.app I I I I I I I I E49 I (λ_=>I) q154<|.p I (.fieldAddrLoc I I I F53_1)<|.store I I I I I I (.cons (.vec I (by simp)) .nil) C49 I (yh I)<|.nil (ndE h I)
          ·refine .skip (ndE h I)
         ·refine .skip (ndE h I)
        ·obtain ⟨b6_150,c3_3_151⟩:=v
         refine .seq<|.sr<|.p I (.loadLoc I I I Y53 (yh I) I)<|bK h λx155 q155 h=>.p I (.callB I (kC I) (.cons I (.agg (.v (.cons (.vec I (by simp)) (.cons (.vec I (by simp)) .v1)))) .nil) I (system_Valid_ok _ _ _ q155))<|.A 1 I<|.nil<|.K [6,12,268] I<|.condS I h (λh=>?_) λh=>?_
         ·refine .sr<|.p I (.castD (System.enc (⟨[],[],[],[]⟩:System)) I (.build I Pl53 (.agg Zc53 (ds':=[eK [],eH [],eO [],eR []]) (.o (.o (.o .o1)))) I I))<|.store I I I I I I (.ofD I) C53 I (yh I)<|.A 1 I<|.nil<|.ret ?_
          cases h
          exact zb4 I I Y53 (.v (.v (.v .v1))) I (.d _)
         ·refine .skip<|.sr<|.p I (.loadLoc I I I Y53 (yh I) I)<|.store I I I I I I (.cons (.d I) (.cons (.vec I (by simp)) (.cons (.vec I (by simp)) (.cons (.d I) .nil)))) C53 I (yh I)<|.A 1 I<|.nil<|.ret ?_
          cases h
          exact zb4 I I Y53 (.v (.cons (.vec I (by simp)) (.cons (.vec I (by simp)) .v1))) I (.d _)
theorem zfN (n t0 t1 r) (h:zdg n t0 t1=some r):Pure pg 44 [Model.enc t0,Question.enc t1] (.bool r):=by
 refine Pure.ot Tryz.func44 I Tryz.ntmps44 I λA w=>.sA 3 I<|.seq<|.draw 16 Hm (by kernel_rfl) (by kernel_rfl)<|.A 4 I<|.X h I λx1 h=>.A 5 I<|.X h I λx2 h=>.A 1 I<|.alloc I I I I ZZ84<|.alloc I I I I ZZ84<|.store I I I I I I Z84<|.store I I I I I I Z84<|.nil<|.freezes [0,1] (.cons (t:=5) (d:=.ref (Action.enc x1)) I (.loc (inIds I) I (.v (.v (.v (.v .v1))))) (.cons (t:=6) (d:=.ref (Action.enc x2)) I (.loc (inIds I) I (.v (.v (.v (.v .v1))))) .nil))<|.nil<|.K [2,3,5,6] I<|.seq<|.sr<|.p I (.fa I (G37_2 _))<|.A 2 I<|.nil<|.condS I h (λh=>?_) λh=>?_
 ·refine .seq<|.draw 12 Hm (by kernel_rfl) (by kernel_rfl)<|.A 1 I<|.p I (.fa I (G84_2 _))<|.A 2 I<|.p I (.fa I (G37_2 _))<|.A 2 I<|.X h I λx3 h=>.A 1 I<|.Z h I (zaB _ _ _) λx4 h=>.A 2 I<|.nil<|.nil<|.ret (rO h I)
 ·refine .skip<|.S 2 I<|.p I (.fa I (G37_2 _))<|.A 2 I<|.X h I λx5 h=>.A 1 I<|.allocStore I I I I I I I I (by simp) I I Z78<|.nil<|.seq<|.sA 3 I<|.condS I h (λh=>?_) λh=>?_
  ·refine .seq<|.plain 12 I<|.A 1 I<|.p I (.fa I (G78_2 _))<|.A 1 I<|.Z h I (zaB _ _ _) λx6 h=>.A 2 I<|gK h λc8 h=>.jA 5 (decide (0<((zq n x2 x5.row).getD default))) I (λb7=>?_) ?_
   ·refine .A 1 I<|.q I (.fa I (G78_2 _))<|.A 1 I<|.q I (.call I (kC I) I (zaB _ _ _ _ (someD (impT c8 b7))))<|.A 1 I<|.nil I
   refine .nil<|.A 1 I<|.nil<|.K [4] I<|.ret (rO h I)
  ·refine .skip<|.seq<|.plain 12 I<|.A 2 I<|.Z h I (zct _ _ _) λx9 h=>.p I (.len I U22 I)<|.A 2 I<|gK h λc11 h=>.jA 5 (decide (0<(((zi n x2 x5).getD default).length:Int))) I (λb10=>?_) ?_
   ·refine .A 2 I<|.q I (.call I (kC I) I (zct _ _ _ _ (someD (impT c11 b10))))<|.q I (.len I U22 I)<|.A 1 I<|.nil I
   refine .nil<|.A 1 I<|.nil<|.K [4] I<|.ret (rO h I)
theorem zdA (n t0 t1 r) (h:zcN n t0 t1=some r):Pure pg 47 [Question.enc t0,.ref (Model.enc t1)] (.bool r):=by
 refine Pure.ot Tryz.func47 I Tryz.ntmps47 I λA w=>.sA 2 I<|.S 2 I<|.Z h I (zfN _ _ _) λx1 h=>.A 2 I<|.nil<|.ret (rO h I)
theorem zcE (n t0) (t1:Question→Option Bool) (F1:D) (hF1:∀ (q0:Question) (y:Bool),t1 q0=some y→Dyn pg F1 [Question.enc q0] (.bool y)) (r) (h:zao n t0 t1=some r):Pure pg 109 [eP t0,F1] (.int r):=by
 refine Pure.ot Tryz.func109 I Tryz.ntmps109 I λA w=>.sA 1 I<|.seq<|.S 1 I<|.p I (.len I U46 I)<|.A 1 I<|.nil<|.block<|.L [0,1,7] h (λv=>[(8,.d (.int v))]) (λv=>[]) I λ_ x7 h=>.sA 1 I<|.seq<|.condS I h (λh=>?_) λh=>?_
 ·refine .skip<|.seq<|.block<|.sA 2 I<|.S 3 I<|.X h I λx9 h=>.A 1 I<|bK h λx10 q10 h=>.p I (.dyn I I I (hF1 _ _ q10))<|.nil<|.condS I h (λh=>?_) λh=>?_
  ·refine .sA 2 I<|.ret (rO h I)
  ·refine .skip<|.rA 2 I (ndE h I)
 ·refine .exit<|.sA 1 I<|.ret (rO h I)
theorem zgH (n t0 r) (h:zZ n t0=some r):Pure pg 17 [Model.enc t0] (eP r):=by
 refine Pure.ot Tryz.func17 I Tryz.ntmps17 I λA w=>.S 1 I<|.p I (.nilS 4 (α:=Question) Question.enc I)<|.nil<|.seq<|.S 1 I<|.Z h I (zeh _ _) λx1 h=>.A 1 I<|.nil<|.condS I h (λh=>?_) λh=>?_
 ·refine .sr<|.p I (.nilS 4 (α:=Question) Question.enc I)<|.nil<|.ret ?_
  cases h
  exact zb8 I (.d _)
 ·refine .skip<|.S 1 I<|.nilVec 3 4 37 I<|.nil<|.seq<|.S 2 I<|.p I (.len I U27 I)<|.A 1 I<|.nil<|.block<|.L [1,14] h (λv=>[(3,.vec 0 (List.length v.1)),(15,.d (.int v.2))]) (λv=>[(0,.vec 37 4 (List.map Question.enc v.1))]) I λ_ ⟨b0_980,x981⟩ h=>.sA 1 I<|.K [1,3,14,15,16] I<|.seq<|.condS I h (λh=>?_) λh=>?_
  ·refine .skip<|.seq<|.block<|.sA 2 I<|.S 2 I<|.p I (.len I U27 I)<|.A 1 I<|.nil<|.block<|.L [1,4,14,15,20] h (λv=>[(3,.vec 0 (List.length v.1)),(21,.d (.int v.2))]) (λv=>[(0,.vec 37 4 (List.map Question.enc v.1))]) I λ_ ⟨b0_1307,x1308⟩ h=>.sA 1 I<|.K [1,3,4,14,15,20,21,22] I<|.seq<|.condS I h (λh=>?_) λh=>?_
   ·refine .skip<|.J [1,4,14,15,20,21] h (λv=>[(3,.vec 0 (List.length v))]) (λv=>[(0,.vec 37 4 (List.map Question.enc v))]) I (λk_1311 h=>?_) (λb0_1310 h=>?_)
    ·refine .block<|.sA 2 I<|.S 1 I<|.nilVec 6 4 37 I<|.nil<|.seq<|.S 2 I<|.p I (.len I U25 I)<|.A 1 I<|.nil<|.block<|.L [1,3,4,5,14,15,20,21,26] h (λv=>[(6,.vec 1 (List.length v.1)),(27,.d (.int v.2))]) (λv=>[(1,.vec 37 4 (List.map Question.enc v.1))]) I λ_ ⟨b1_1322,x1323⟩ h=>.sA 1 I<|.K [1,3,4,5,6,14,15,20,21,26,27,28] I<|.seq<|.condS I h (λh=>?_) λh=>?_
     ·refine .skip<|.J [1,3,4,5,14,15,20,21,26,27] h (λv=>[(6,.vec 1 (List.length v))]) (λv=>[(1,.vec 37 4 (List.map Question.enc v))]) I (λk_1326 h=>?_) (λb1_1325 h=>?_)
      ·refine .block<|.sA 2 I<|.sA 3 I<|.condS I h (λh=>?_) λh=>?_
       ·refine .region<|.A 4 I<|.p I (.castD (Target.enc (⟨false,x1323⟩:Target)) I (.build I Pl35 (.agg Zc35 (ds':=[_,_]) (.e .e1)) I I))<|.p I (.castD (Question.enc (⟨x981,x1308,(⟨false,x1323⟩:Target)⟩:Question)) I (.build I Pl37 (.agg Zc37 (ds':=[_,_,_,_]) (.e (.e (.e .e1)))) I I))<|.p I (.buildSl [_] I I E46 I (λ_=>I) I (enc:=Question.enc))<|bK h λx1327 q1327 h=>.app I I I I I I I I E46 I (λ_=>I) q1327<|.A 1 I<|.nil (ndE h I)
       ·refine .skip (ndE h I)
      ·refine .rA 2 I (ndE h I)
     ·refine .exit<|.seq<|.S 3 I<|.X h I λx1328 h=>.p I (.fa I (G84_2 _))<|.A 2 I<|.p I (.len I U49 I)<|.A 1 I<|.nil<|.block<|.L [1,3,4,5,14,15,20,21,49] h (λv=>[(6,.vec 1 (List.length v.1)),(50,.d (.int v.2))]) (λv=>[(1,.vec 37 4 (List.map Question.enc v.1))]) I λ_ ⟨b1_1335,x1336⟩ h=>.sA 1 I<|.K [1,3,4,5,6,14,15,20,21,49,50,51] I<|.seq<|.condS I h (λh=>?_) λh=>?_
      ·refine .skip<|.seq<|.block<|.sA 2 I<|.region<|.A 4 I<|.p I (.castD (Target.enc (⟨true,x1336⟩:Target)) I (.build I Pl35 (.agg Zc35 (ds':=[_,_]) (.e .e1)) I I))<|.p I (.castD (Question.enc (⟨x981,x1308,(⟨true,x1336⟩:Target)⟩:Question)) I (.build I Pl37 (.agg Zc37 (ds':=[_,_,_,_]) (.e (.e (.e .e1)))) I I))<|.p I (.buildSl [_] I I E46 I (λ_=>I) I (enc:=Question.enc))<|bK h λx1338 q1338 h=>.app I I I I I I I I E46 I (λ_=>I) q1338<|.A 1 I<|.nil<|.rA 2 I (ndE h I)
      ·refine .exit<|.region<|.A 2 I<|.p I (.makeFunc I I)<|.inline (rs:=[.tmp 4]) I I (.stat I K46 I) Tryz.func46 I Tryz.ntmps46 I I I I (λown0 w gh=>?_)
       refine .sr<|.p I (.nilS 4 (α:=Question) Question.enc I)<|.nil<|.K [0,1] I<|.S 2 I<|bK h λx1340 q1340 h=>.p I (.callB I (kC I) (.cons I (.vec I (by simp)) (.cons I (.d _) .nil)) I (zcE _ _ _ _ (λq0 y hq=>⟨_,_,I,K47,zdA _ q0 _ _ hq⟩) _ q1340))<|.A 1 I<|.nil<|.seq<|.sA 2 I<|.condS I h (λh=>?_) λh=>?_
       ·refine .sA 2 I<|.ret <| ⟨.inl I,_,⟨_,_,I,I,I⟩,?_⟩
        refine .freezes [1] (.cons (t:=65) I (.vec (inIds I) I (by simp)) .nil)<|bK h λx1342 q1342 h=>.app I I I I I I I I E46 I (λ_=>I) q1342<|.A 1 I<|.nil (ndE h I)
       ·refine .skip<|.seq<|.sA 3 I<|.block<|.L [1] h (λv=>[(0,.vec 1 (List.length v.1)),(5,.d (.int v.2.1)),(6,.d (.int v.2.2))]) (λv=>[(1,.vec 37 4 (List.map Question.enc v.1))]) I λ_ ⟨b1_1444,x1445,x1446⟩ h=>.seq<|.S 2 I<|.p I (.lenV I U46 I I I)<|.A 1 I<|.nil<|.K [0,1,5,6,19] I<|.condS I h (λh=>?_) λh=>?_
        ·refine .skip<|.J [1,6] h (λv=>[(0,.vec 1 (List.length v.1)),(5,.d (.int v.2))]) (λv=>[(1,.vec 37 4 (List.map Question.enc v.1))]) I (λk_1457 h=>?_) (λv h=>?_)
         ·refine .block<|.S 2 I<|bK h λx1459 q1459 h=>.p I (.idxV I I I I I U46 S37 q1459)<|.p I (.loadEl I I I I q1459 Y37 I)<|.allocStore I I I I I I I I (by simp) I I Z37<|.nil<|.S 2 I<|bK h λx1461 q1461 h=>.p I (.dyn I I I ⟨_,_,I,K47,zdA _ _ _ _ q1461⟩)<|.A 1 I<|.nil<|.condS I h (λh=>?_) λh=>?_
          ·refine .S 3 I<|bK h λx1463 q1463 h=>.p I (.idxV I I I I I U46 S37 q1463)<|bK h λb1_1464 hb1_1464 h=>.storeEl (enc:=Question.enc) I I I I I I I I I C37 hb1_1464<|.relen 0 I (zdy hb1_1464)<|.relen 22 I (zdy hb1_1464)<|.relen 30 I (zdy hb1_1464)<|.nil<|.rA 3 I (ndE h I)
          ·refine .skip (ndE h I)
         ·obtain ⟨b1_1455,x1456⟩:=v
          refine .rA 3 I (ndE h I)
        ·refine .exit<|.S 2 I<|bK h λx1466 q1466 h=>.p I (.subL I I I I I U46 S37 q1466)<|.clearSub (enc:=Question.enc) (l:=b1_1444) (⟨0,0,⟨false,0⟩⟩:Question) I I I E46 I I I (λ_=>I) (.agg Zc37 (ds':=[.int 0,.int 0,.bool false,.int 0]) (.e (.e (.e .e1))))<|.relen 0 I (zeP q1466 (List.replicate (b1_1444.length - x1445.toNat) (⟨0,0,⟨false,0⟩⟩:Question))).symm<|.relen 36 I (zeP q1466 (List.replicate (b1_1444.length - x1445.toNat) (⟨0,0,⟨false,0⟩⟩:Question))).symm<|.nil<|.S 2 I<|bK h λx1468 q1468 h=>.p I (.subH I I I I I U46 S37 q1468)<|.A 1 I<|.nil<|.ret <| ⟨.inl I,_,⟨_,_,I,I,I⟩,?_⟩
         refine .freezes [1] (.cons (t:=65) I (.subM (inIds I) I I) .nil)<|bK h λx1469 q1469 h=>.app I I I I I I I I E46 I (λ_=>I) q1469<|.A 1 I<|.nil (ndE h I)
    ·refine .rA 2 I (ndE h I)
   ·refine .exit<|.rA 2 I (ndE h I)
  ·refine .exit<|.sA 2 I<|.ret ?_
   cases h
   exact zb8 I (.vec I (by simp))
theorem zfM (n t0 t1 r) (h:zat n t0 t1=some r):Pure pg 14 [Model.enc t0,Question.enc t1] (.bool r):=by
 refine Pure.ot Tryz.func14 I Tryz.ntmps14 I λA w=>.sA 3 I<|.seq<|.plain 8 I<|.A 2 I<|.Z h I (zgb _ _ _) λx1 h=>.A 1 I<|gK h λc3 h=>.jA 3 (((zdg n t0 t1).getD default)) I (λb2=>?_) ?_
 ·refine .A 2 I<|.q I (.call I (kC I) I (zfN _ _ _ _ (someD (impT c3 b2))))<|.nil I
 refine .nil<|.A 1 I<|.nil<|.ret (rO h I)
theorem condition_Change_ok (n t0 t1 t2 r) (h:zcC n t0 t1 t2=some r):Pure pg 12 [Model.enc t0,.int t1,Row.enc t2] (.int r):=by
 refine Pure.ot Tryz.func12 I Tryz.ntmps12 I λA w=>.sA 3 I<|.seq<|.seq<|.plain 14 I<|.A 1 I<|.Z h I (zeh _ _) λx1 h=>.A 2 I<|.jO 2 (decide (t1<0)) I (λb2=>?_) ?_
 ·refine .A 2 I<|.nil I
 refine .A 1 I<|.jO 5 (decide ((t0.actions.length:Int)≤t1)) I (λb3=>?_) ?_
 ·refine .A 3 I<|.q I (.len I U27 I)<|.A 1 I<|.nil I
 refine .nil<|.nil<|.K [1,3,5,20] I<|.condS I h (λh=>?_) λh=>?_
 ·refine .sA 1 I<|.ret (rO h I)
 ·refine .skip<|.seq<|.draw 8 Hm (by kernel_rfl) (by kernel_rfl)<|.A 3 I<|.X h I λx4 h=>.A 2 I<|.Z h I (zaB _ _ _) λx5 h=>.A 1 I<|.nil<|.nil<|.ret (rO h I)
theorem zc9 (n t0 t1 r) (h:zT n t0 t1=some r):Pure pg 16 [eP t0,eP t1] (.bool r):=by
 refine Pure.ot Tryz.func16 I Tryz.ntmps16 I λA w=>.sA 1 I<|.seq<|.S 1 I<|.p I (.len I U46 I)<|.A 1 I<|.p I (.len I U46 I)<|.A 1 I<|.nil<|.condS I h (λh=>?_) λh=>?_
 ·refine .sA 1 I<|.ret (rO h I)
 ·refine .skip<|.seq<|.S 1 I<|.p I (.len I U46 I)<|.A 1 I<|.nil<|.block<|.L [0,1,12] h (λv=>[(13,.d (.int v))]) (λv=>[]) I λ_ x7 h=>.sA 1 I<|.seq<|.condS I h (λh=>?_) λh=>?_
  ·refine .skip<|.seq<|.block<|.sA 2 I<|.seq<|.draw 9 Hm (by kernel_rfl) (by kernel_rfl)<|.A 2 I<|.X h I λx9 h=>.A 3 I<|.X h I λx10 h=>.A 1 I<|.p I (.sneq I SE37 I I (xs:=Question.vals _) (ys:=Question.vals _) I I I I (SQ37 _ _))<|.nil<|.nil<|.condS I h (λh=>?_) λh=>?_
   ·refine .sA 1 I<|.ret (rO h I)
   ·refine .skip<|.rA 2 I (ndE h I)
  ·refine .exit<|.sA 1 I<|.ret (rO h I)
theorem law22_awake_ok (n r) (h:law22_awake n=some r):Pure pg 10 [] (.bool r):=by
 refine Pure.ot Tryz.func10 I Tryz.ntmps10 I λA w=>.sA 1 I<|.sr<|.Z h I (law22_example_ok _ ) λx1 h=>.allocStore I I I I I I I I (by simp) I I Z30<|.nil<|.sr<|.p I (.castD (Target.enc (⟨false,1⟩:Target)) I (.build I Pl35 (.agg Zc35 (ds':=[_,_]) (.e .e1)) I I))<|.p I (.castD (Question.enc (⟨0,0,(⟨false,1⟩:Target)⟩:Question)) I (.build I Pl37 (.agg Zc37 (ds':=[_,_,_,_]) (.e (.e (.e .e1)))) I I))<|.allocStore I I I I I I I I (by simp) I I Z37<|.nil<|.S 2 I<|bK h λx2 q2 h=>.p I (.callLe I (kC I) I (.e (.e .o1)) (zds _ _ _ _ _ q2))<|.A 1 I<|.p I (.extract I I I)<|.p I (.extract I I I)<|.allocStore I I I I I I I I (by simp) I I Z53<|.A 1 I<|.nil<|.K [1,2,3,4] I<|.S 1 I<|.Z h I (zgH _ _) λx3 h=>.A 1 I<|.nil<|.seq<|.draw 72 Hm (by kernel_rfl) (by kernel_rfl)<|.A 3 I<|.jA 4 ((x2.1.rows.length:Int)==3) I (λb4=>?_) ?_
 ·refine .A 2 I<|.q I (.len I U49 I)<|.A 1 I<|.nil I
 refine .A 1 I<|gK h λc6 h=>.jA 6 ((((idx x2.1.rows 1).getD default).bound)==1) I (λb5=>?_) ?_
 ·refine .A 2 I<|.q I (.ix I U49 S33 (someD (impT c6 b5)))<|.A 3 I<|.nil I
 refine .A 1 I<|gK h λc8 h=>.jA 6 ((((idx x2.1.rows 2).getD default).bound)==0) I (λb7=>?_) ?_
 ·refine .A 2 I<|.q I (.ix I U49 S33 (someD (impT c8 b7)))<|.A 3 I<|.nil I
 refine .A 1 I<|gK h λc10 h=>.jA 7 (((((idx x2.1.rows 2).getD default).terms).length:Int)==1) I (λb9=>?_) ?_
 ·refine .A 2 I<|.q I (.ix I U49 S33 (someD (impT c10 b9)))<|.A 2 I<|.q I (.len I U31 I)<|.A 1 I<|.nil I
 refine .A 1 I<|gK h λc12 h=>gK h λc13 h=>.jA 9 ((((idx (((idx x2.1.rows 2).getD default).terms) 0).getD default).factor)==(-1)) I (λb11=>?_) ?_
 ·refine .A 2 I<|.q I (.ix I U49 S33 (someD (impT c12 b11)))<|.A 2 I<|.q I (.ix I U31 S41 (someD (impT c13 b11)))<|.A 3 I<|.nil I
 refine .A 1 I<|gK h λc15 h=>.jA 3 (((zat n x1 (⟨0,0,(⟨false,1⟩:Target)⟩:Question)).getD default)) I (λb14=>?_) ?_
 ·refine .A 2 I<|.q I (.call I (kC I) I (zfM _ _ _ _ (someD (impT c15 b14))))<|.nil I
 refine .A 1 I<|gK h λc17 h=>.jA 4 (!((zat n x1 (⟨0,0,(⟨false,0⟩:Target)⟩:Question)).getD default)) I (λb16=>?_) ?_
 ·refine .A 1 I<|.q I (.castD (Question.enc (⟨0,0,(⟨false,0⟩:Target)⟩:Question)) I (.build I Pl37 (.agg Zc37 (ds':=[_,_,_,_]) (.e (.e (.e .e1)))) I I))<|.q I (.call I (kC I) I (zfM _ _ _ _ (someD (impT c17 b16))))<|.A 1 I<|.nil I
 refine .A 1 I<|gK h λc19 h=>gK h λc20 h=>.jA 8 (((zcC n x1 0 (((idx x1.constraints 0).getD default).row)).getD default)==(-2)) I (λb18=>?_) ?_
 ·refine .A 3 I<|.q I (.ix I U25 S78 (someD (impT c19 b18)))<|.q I (.fa I (G78_2 _))<|.A 1 I<|.q I (.call I (kC I) I (condition_Change_ok _ _ _ _ _ (someD (impT c20 b18))))<|.A 1 I<|.nil I
 refine .A 1 I<|gK h λc22 h=>.jA 4 (((zT n x3 [(⟨0,0,(⟨false,1⟩:Target)⟩:Question)]).getD default)) I (λb21=>?_) ?_
 ·refine .A 2 I<|.q I (.buildSl [_] I I E46 I (λ_=>I) I (enc:=Question.enc))<|.q I (.call I (kC I) I (zc9 _ _ _ _ (someD (impT c22 b21))))<|.nil I
 refine .A 1 I<|.nil<|.nil<|.K [0] I<|.ret (rO h I)
theorem ref09_Few_ok (n t0 t1 r) (h:zcU n t0 t1=some r):Pure pg 92 [eA t0,eB t1] (.bool r):=by
 refine Pure.ot Tryz.func92 I Tryz.ntmps92 I λA w=>.sA 1 I<|.seq<|.sA 1 I<|.block<|.L [0,1] h (λv=>[(5,.d (.int v))]) (λv=>[]) I λ_ x9 h=>.seq<|.S 2 I<|.p I (.len I U23 I)<|.A 1 I<|.nil<|.K [0,1,5,9] I<|.condS I h (λh=>?_) λh=>?_
 ·refine .skip<|.seq<|.block<|.seq<|.plain 16 I<|.A 2 I<|.X h I λx11 h=>.A 2 I<|.p I (.len_str I U9 I)<|.A 2 I<|gK h λc13 h=>.jO 7 (decide (12<((((idx t1 x9).getD default).columns).length:Int))) I (λb12=>?_) ?_
  ·refine .A 2 I<|.q I (.ix I U23 S127 (someD (impF c13 b12)))<|.A 2 I<|.q I (.len I U22 I)<|.A 1 I<|.nil I
  refine .nil<|.nil<|.K [0,1,5,27] I<|.condS I h (λh=>?_) λh=>?_
  ·refine .sA 1 I<|.ret (rO h I)
  ·refine .skip<|.rA 3 I (ndE h I)
 ·refine .exit<|.seq<|.plain 8 I<|.A 1 I<|.p I (.len I U22 I)<|.A 2 I<|.jA 3 (decide ((t1.length:Int)≤20)) I (λb14=>?_) ?_
  ·refine .A 1 I<|.q I (.len I U23 I)<|.A 1 I<|.nil I
  refine .nil<|.A 1 I<|.nil<|.ret (rO h I)
theorem ref13_Bounded_ok (n t0 r) (h:zt n t0=some r):Pure pg 37 [Model.enc t0] (.bool r):=by
 refine Pure.ot Tryz.func37 I Tryz.ntmps37 I λA w=>.sA 2 I<|.seq<|.seq<|.plain 48 I<|.A 2 I<|.p I (.len I U22 I)<|.A 2 I<|.jO 4 (decide (6<(t0.tables.length:Int))) I (λb1=>?_) ?_
 ·refine .A 2 I<|.q I (.len I U23 I)<|.A 1 I<|.nil I
 refine .A 1 I<|.jO 4 (decide (20<(t0.families.length:Int))) I (λb2=>?_) ?_
 ·refine .A 2 I<|.q I (.len I U24 I)<|.A 1 I<|.nil I
 refine .A 1 I<|.jO 4 (decide (60<(t0.constraints.length:Int))) I (λb3=>?_) ?_
 ·refine .A 2 I<|.q I (.len I U25 I)<|.A 1 I<|.nil I
 refine .A 1 I<|.jO 4 (decide (8<(t0.operations.length:Int))) I (λb4=>?_) ?_
 ·refine .A 2 I<|.q I (.len I U26 I)<|.A 1 I<|.nil I
 refine .A 1 I<|.jO 4 (decide (30<(t0.actions.length:Int))) I (λb5=>?_) ?_
 ·refine .A 2 I<|.q I (.len I U27 I)<|.A 1 I<|.nil I
 refine .A 1 I<|.jO 4 (decide (12<(t0.hides.length:Int))) I (λb6=>?_) ?_
 ·refine .A 2 I<|.q I (.len I U28 I)<|.A 1 I<|.nil I
 refine .A 1 I<|gK h λc8 h=>.jO 6 (!((zcU n t0.sorts t0.tables).getD default)) I (λb7=>?_) ?_
 ·refine .A 4 I<|.q I (.call I (kC I) I (ref09_Few_ok _ _ _ _ (someD (impF c8 b7))))<|.A 1 I<|.nil I
 refine .nil<|.nil<|.K [1,56] I<|.condS I h (λh=>?_) λh=>?_
 ·refine .sA 1 I<|.ret (rO h I)
 ·refine .skip<|.seq<|.sA 1 I<|.block<|.L [1] h (λv=>[(3,.d (.int v))]) (λv=>[]) I λ_ x13 h=>.seq<|.S 3 I<|.p I (.len I U24 I)<|.A 1 I<|.nil<|.K [1,3,61] I<|.condS I h (λh=>?_) λh=>?_
  ·refine .skip<|.seq<|.block<|.S 3 I<|.X h I λx15 h=>.A 1 I<|.p I (.len_str I U9 I)<|.A 1 I<|.nil<|.condS I h (λh=>?_) λh=>?_
   ·refine .sA 1 I<|.ret (rO h I)
   ·refine .skip<|.rA 3 I (ndE h I)
  ·refine .exit<|.seq<|.sA 1 I<|.block<|.L [1] h (λv=>[(4,.d (.int v))]) (λv=>[]) I λ_ x20 h=>.seq<|.S 3 I<|.p I (.len I U25 I)<|.A 1 I<|.nil<|.K [1,4,75] I<|.condS I h (λh=>?_) λh=>?_
   ·refine .skip<|.seq<|.block<|.S 3 I<|.X h I λx22 h=>.p I (.fa I (G78_2 _))<|.A 2 I<|.p I (.len I U31 I)<|.A 1 I<|.nil<|.condS I h (λh=>?_) λh=>?_
    ·refine .sA 1 I<|.ret (rO h I)
    ·refine .skip<|.rA 3 I (ndE h I)
   ·refine .exit<|.seq<|.sA 1 I<|.block<|.L [1] h (λv=>[(5,.d (.int v))]) (λv=>[]) I λ_ x31 h=>.seq<|.S 3 I<|.p I (.len I U26 I)<|.A 1 I<|.nil<|.K [1,5,91] I<|.condS I h (λh=>?_) λh=>?_
    ·refine .skip<|.seq<|.block<|.seq<|.plain 18 I<|.A 3 I<|.X h I λx33 h=>.A 2 I<|.p I (.len_str I U9 I)<|.A 2 I<|gK h λc35 h=>.jO 8 (decide (6<((((idx t0.operations x31).getD default).sorts).length:Int))) I (λb34=>?_) ?_
     ·refine .A 3 I<|.q I (.ix I U26 S129 (someD (impF c35 b34)))<|.A 2 I<|.q I (.len I U22 I)<|.A 1 I<|.nil I
     refine .nil<|.nil<|.K [1,5,111] I<|.condS I h (λh=>?_) λh=>?_
     ·refine .sA 1 I<|.ret (rO h I)
     ·refine .skip<|.rA 3 I (ndE h I)
    ·refine .exit<|.seq<|.sA 1 I<|.block<|.L [1] h (λv=>[(6,.d (.int v))]) (λv=>[]) I λ_ x62 h=>.seq<|.S 3 I<|.p I (.len I U27 I)<|.A 1 I<|.nil<|.K [1,6,116] I<|.condS I h (λh=>?_) λh=>?_
     ·refine .skip<|.seq<|.block<|.S 3 I<|.X h I λx64 h=>.p I (.fa I (G84_2 _))<|.A 1 I<|.allocStore I I I I I I I I (by simp) I I Z82<|.nil<|.seq<|.seq<|.plain 26 I<|.A 3 I<|.X h I λx65 h=>.A 2 I<|.p I (.len I U22 I)<|.A 2 I<|.jO 4 (decide (20<(x64.effect.delta.length:Int))) I (λb66=>?_) ?_
      ·refine .A 2 I<|.q I (.len I U79 I)<|.A 1 I<|.nil I
      refine .A 1 I<|.jO 4 (decide (10<(x64.effect.hold.length:Int))) I (λb67=>?_) ?_
      ·refine .A 2 I<|.q I (.len I U49 I)<|.A 1 I<|.nil I
      refine .A 1 I<|.jO 4 (decide (40<(x64.effect.updates.length:Int))) I (λb68=>?_) ?_
      ·refine .A 2 I<|.q I (.len I U80 I)<|.A 1 I<|.nil I
      refine .nil<|.nil<|.K [1,6,7,150] I<|.condS I h (λh=>?_) λh=>?_
      ·refine .sA 1 I<|.ret (rO h I)
      ·refine .skip<|.sA 1 I<|.block<|.L [1,6,7] h (λv=>[(8,.d (.int v))]) (λv=>[]) I λ_ x73 h=>.seq<|.S 3 I<|.p I (.len I U49 I)<|.A 1 I<|.nil<|.K [1,6,7,8,155] I<|.condS I h (λh=>?_) λh=>?_
       ·refine .skip<|.seq<|.block<|.S 3 I<|.X h I λx75 h=>.A 2 I<|.p I (.len I U31 I)<|.A 1 I<|.nil<|.condS I h (λh=>?_) λh=>?_
        ·refine .sA 1 I<|.ret (rO h I)
        ·refine .skip<|.rA 3 I (ndE h I)
       ·refine .exit<|.rA 3 I (ndE h I)
     ·refine .exit<|.sA 1 I<|.ret (rO h I)
theorem ref09_sound_ok (n t0 r) (h:zbj n t0=some r):Pure pg 161 [eA t0] (.bool r):=by
 refine Pure.ot Tryz.func161 I Tryz.ntmps161 I λA w=>.sA 1 I<|.seq<|.sA 1 I<|.block<|.L [0] h (λv=>[(3,.d (.int v))]) (λv=>[]) I λ_ x9 h=>.seq<|.S 2 I<|.p I (.len I U22 I)<|.A 1 I<|.nil<|.K [0,3,7] I<|.condS I h (λh=>?_) λh=>?_
 ·refine .skip<|.seq<|.block<|.seq<|.plain 12 I<|.A 2 I<|.X h I λx11 h=>.A 3 I<|gK h λc13 h=>.jO 5 (decide (6<((idx t0 x9).getD default))) I (λb12=>?_) ?_
  ·refine .A 2 I<|.q I (.ix I U22 S3 (someD (impF c13 b12)))<|.A 2 I<|.nil I
  refine .nil<|.nil<|.condS I h (λh=>?_) λh=>?_
  ·refine .sA 1 I<|.ret (rO h I)
  ·refine .skip<|.rA 3 I (ndE h I)
 ·refine .exit<|.sA 1 I<|.ret (rO h I)
theorem ze1 (n t0 t1 r) (h:zai n t0 t1=some r):Pure pg 140 [eA t0,eA t1] (.int r):=by
 refine Pure.ot Tryz.func140 I Tryz.ntmps140 I λA w=>.sA 1 I<|.seq<|.seq<|.plain 8 I<|.A 1 I<|.p I (.len I U22 I)<|.A 2 I<|gK h λc2 h=>.jO 3 (!((zbj n t0).getD default)) I (λb1=>?_) ?_
 ·refine .A 1 I<|.q I (.call I (kC I) I (ref09_sound_ok _ _ _ (someD (impF c2 b1))))<|.A 1 I<|.nil I
 refine .nil<|.nil<|.condS I h (λh=>?_) λh=>?_
 ·refine .sA 1 I<|.ret (rO h I)
 ·refine .skip<|.sA 1 I<|.seq<|.sA 1 I<|.block<|.L [0,1] h (λv=>[(5,.d (.int v.1)),(6,.d (.int v.2))]) (λv=>[]) I λ_ ⟨x17,x18⟩ h=>.seq<|.S 2 I<|.p I (.len I U22 I)<|.A 1 I<|.nil<|.K [0,1,5,6,18] I<|.condS I h (λh=>?_) λh=>?_
  ·refine .skip<|.seq<|.block<|.seq<|.seq<|.plain 14 I<|.A 2 I<|.X h I λx20 h=>.A 3 I<|gK h λc22 h=>.jO 7 (decide ((t0.length:Int)≤((idx t1 x18).getD default))) I (λb21=>?_) ?_
   ·refine .A 2 I<|.q I (.ix I U22 S3 (someD (impF c22 b21)))<|.A 2 I<|.q I (.len I U22 I)<|.A 1 I<|.nil I
   refine .nil<|.nil<|.condS I h (λh=>?_) λh=>?_
   ·refine .sA 1 I<|.ret (rO h I)
   ·refine .skip<|.region<|.A 4 I<|.X h I λx23 h=>.A 1 I<|.X h I λx24 h=>.A 3 I<|.nil<|.K [0,1,5,6] I<|.rA 3 I (ndE h I)
  ·refine .exit<|.sA 2 I<|.ret (rO h I)
theorem ref02_white_ok (n t0 r) (h:zaY n t0=some r):Pure pg 259 [.val (.int .u8 t0)] (.bool r):=by
 refine Pure.ot Tryz.func259 I Tryz.ntmps259 I λA w=>.sA 1 I<|.seq<|.plain 14 I<|.A 3 I<|.jO 2 (t0==10) I (λb1=>?_) ?_
 ·refine .A 2 I<|.nil I
 refine .A 1 I<|.jO 2 (t0==13) I (λb2=>?_) ?_
 ·refine .A 2 I<|.nil I
 refine .A 1 I<|.jO 2 (t0==32) I (λb3=>?_) ?_
 ·refine .A 2 I<|.nil I
 refine .nil<|.A 1 I<|.nil<|.K [2] I<|.ret (rO h I)
theorem ref02_skip_ok (n t0 t1 r) (h:zbl n t0 t1=some r):Pure pg 248 [.str t0,.int t1] (.int r):=by
 refine Pure.ot Tryz.func248 I Tryz.ntmps248 I λA w=>.sA 1 I<|.seq<|.block<|.L [0] h (λv=>[(1,.d (.int v))]) (λv=>[]) I λ_ x35 h=>.seq<|.seq<|.plain 16 I<|.A 2 I<|.p I (.len_str I U9 I)<|.A 2 I<|gK h λc38 h=>gK h λc39 h=>gK h λc41 h=>.jA 10 (((zaY n ((sidx t0 x35).getD default)).getD default)||(((sidx t0 x35).getD default)==35)) I (λb37=>?_) ?_
 ·refine .A 2 I<|.q I (.sidx I I I U9 (someD (impT c38 b37)))<|.q I (.call I (kC I) I (ref02_white_ok _ _ _ (someD (impT c39 b37))))<|.A 1 I<|.jOr 4 (b2:=((sidx t0 x35).getD default)==35) I I I I (.inr ⟨_,_,_,I,I,I⟩) (λ_ _ _ h1 h2=>by cases h1;cases h2;decide) I I (λb40=>?_) ?_
  ·refine .A 2 I<|.q I (.sidx I I I U9 (someD (impF (impT c41 b37) b40)))<|.A 1 I<|.nil I
  exact .nil I
 refine .nil<|.nil<|.K [0,1,20] I<|.condS I h (λh=>?_) λh=>?_
 ·refine .skip<|.block<|.S 2 I<|bK h λx42 q42 h=>.p I (.sidx I I I U9 q42)<|.A 1 I<|.nil<|.condS I h (λh=>?_) λh=>?_
  ·refine .block<|.L [0] h (λv=>[(1,.d (.int v))]) (λv=>[]) I λ_ x49 h=>.seq<|.seq<|.plain 10 I<|.A 2 I<|.p I (.len_str I U9 I)<|.A 2 I<|gK h λc52 h=>.jA 4 (((sidx t0 x49).getD default) != 10) I (λb51=>?_) ?_
   ·refine .A 2 I<|.q I (.sidx I I I U9 (someD (impT c52 b51)))<|.A 1 I<|.nil I
   refine .nil<|.nil<|.K [0,1,34] I<|.condS I h (λh=>?_) λh=>?_
   ·refine .skip<|.block<|.rA 3 I (ndE h I)
   ·refine .exit (ndE h I)
  ·refine .rA 3 I (ndE h I)
 ·refine .exit<|.sA 2 I<|.ret (rO h I)
theorem zeY (n t0 r) (h:zaO n t0=some r):Pure pg 260 [.val (.int .u8 t0)] (.bool r):=by
 refine Pure.ot Tryz.func260 I Tryz.ntmps260 I λA w=>.sA 1 I<|.seq<|.plain 6 I<|.A 3 I<|.jA 2 (decide (t0≤122)) I (λb1=>?_) ?_
 ·refine .A 2 I<|.nil I
 refine .nil<|.A 1 I<|.nil<|.ret (rO h I)
theorem zei (n t0 r) (h:za5 n t0=some r):Pure pg 261 [.val (.int .u8 t0)] (.bool r):=by
 refine Pure.ot Tryz.func261 I Tryz.ntmps261 I λA w=>.sA 1 I<|.seq<|.plain 6 I<|.A 3 I<|.jA 2 (decide (t0≤57)) I (λb1=>?_) ?_
 ·refine .A 2 I<|.nil I
 refine .nil<|.A 1 I<|.nil<|.ret (rO h I)
theorem ref02_Keywords_ok (n r) (h:zfA n=some r):Pure pg 262 [] (eC r):=by
 refine Pure.ot Tryz.func262 I Tryz.ntmps262 I λA w=>.sr<|.p I (.nilS 1 (α:=List UInt8) D.str I)<|.nil<|.sr<|.p I (.buildSl [_,_,_,_,_,_,_,_,_,_,_,_,_,_,_,_,_,_,_,_,_,_,_,_,_,_,_,_,_,_,_,_,_,_,_] I I E24 I (λ_=>I) I (enc:=D.str))<|.A 1 I<|.nil<|.ret ?_
 cases h
 exact zb8 I (.d _)
theorem ref02_Has_ok (n t0 t1 r) (h:zcD n t0 t1=some r):Pure pg 163 [eC t0,.str t1] (.bool r):=by
 refine Pure.ot Tryz.func163 I Tryz.ntmps163 I λA w=>.sA 1 I<|.seq<|.sA 1 I<|.block<|.L [0,1] h (λv=>[(5,.d (.int v))]) (λv=>[]) I λ_ x5 h=>.seq<|.S 2 I<|.p I (.len I U24 I)<|.A 1 I<|.nil<|.K [0,1,5,9] I<|.condS I h (λh=>?_) λh=>?_
 ·refine .skip<|.seq<|.block<|.S 2 I<|.X h I λx7 h=>.A 2 I<|.p I (.str_eql I I I)<|.nil<|.condS I h (λh=>?_) λh=>?_
  ·refine .sA 1 I<|.ret (rO h I)
  ·refine .skip<|.rA 3 I (ndE h I)
 ·refine .exit<|.sA 1 I<|.ret (rO h I)
theorem ref02_Symbols_ok (n r) (h:zgr n=some r):Pure pg 269 [] (eC r):=by
 refine Pure.ot Tryz.func269 I Tryz.ntmps269 I λA w=>.sr<|.p I (.nilS 1 (α:=List UInt8) D.str I)<|.nil<|.sr<|.p I (.buildSl [_,_,_,_,_,_,_,_,_,_,_,_,_,_,_,_,_,_] I I E24 I (λ_=>I) I (enc:=D.str))<|.A 1 I<|.nil<|.ret ?_
 cases h
 exact zb8 I (.d _)
theorem ref02_symbol_ok (n t0 t1 r) (h:zbn n t0 t1=some r):Pure pg 263 [.str t0,.int t1] (.int r):=by
 refine Pure.ot Tryz.func263 I Tryz.ntmps263 I λA w=>.sA 1 I<|.sr<|.Z h I (ref02_Symbols_ok _ ) λx1 h=>.A 1 I<|.nil<|.seq<|.sA 1 I<|.block<|.L [0,1,5] h (λv=>[(6,.d (.int v))]) (λv=>[]) I λ_ x12 h=>.seq<|.S 2 I<|.p I (.len I U24 I)<|.A 1 I<|.nil<|.K [0,1,5,6,12] I<|.condS I h (λh=>?_) λh=>?_
 ·refine .skip<|.seq<|.block<|.S 2 I<|.X h I λx14 h=>.A 1 I<|.p I (.len_str I U9 I)<|.A 1 I<|.nil<|.seq<|.draw 19 Hm (by kernel_rfl) (by kernel_rfl)<|.A 4 I<|.p I (.len_str I U9 I)<|.A 2 I<|gK h λc16 h=>gK h λc17 h=>.jA 11 (decide (((cut t0 t1 (add64 t1 (x14.length:Int))).getD default)=((idx x1 x12).getD default))) I (λb15=>?_) ?_
  ·refine .A 5 I<|.q I (.cutStrLH I I I I U9 (someD (impT c16 b15)))<|.A 2 I<|.q I (.ix I U24 S9 (someD (impT c17 b15)))<|.A 1 I<|.q I (.str_eql I I I)<|.nil I
  refine .nil<|.nil<|.K [0,1,5,6,7,38] I<|.condS I h (λh=>?_) λh=>?_
  ·refine .sA 2 I<|.ret (rO h I)
  ·refine .skip<|.rA 3 I (ndE h I)
 ·refine .exit<|.sA 1 I<|.ret (rO h I)
theorem ref02_token_ok (n t0 t1 r) (h:zaC n t0 t1=some r):Pure pg 249 [.str t0,.int t1] (.tup [.int r.1,.int r.2]):=by
 refine Pure.ot Tryz.func249 I Tryz.ntmps249 I λA w=>.sA 2 I<|.sA 2 I<|.seq<|.S 2 I<|bK h λx1 q1 h=>.p I (.sidx I I I U9 q1)<|.Z h I (zeY _ _) λx2 h=>.nil<|.condS I h (λh=>?_) λh=>?_
 ·refine .seq<|.block<|.L [0,1] h (λv=>[(6,.d (.int v))]) (λv=>[]) I λ_ x21 h=>.seq<|.seq<|.plain 22 I<|.A 2 I<|.p I (.len_str I U9 I)<|.A 2 I<|gK h λc24 h=>gK h λc25 h=>gK h λc27 h=>gK h λc28 h=>gK h λc30 h=>.jA 16 ((((zaO n ((sidx t0 x21).getD default)).getD default)||((za5 n ((sidx t0 x21).getD default)).getD default))||(((sidx t0 x21).getD default)==95)) I (λb23=>?_) ?_
  ·refine .A 2 I<|.q I (.sidx I I I U9 (someD (impT c24 b23)))<|.q I (.call I (kC I) I (zeY _ _ _ (someD (impT c25 b23))))<|.A 1 I<|.jOr 4 (b2:=((za5 n ((sidx t0 x21).getD default)).getD default)) I I I I (.inr ⟨_,_,_,I,I,I⟩) (λ_ _ _ h1 h2=>by cases h1;cases h2;decide) I I (λb26=>?_) ?_
   ·refine .A 2 I<|.q I (.sidx I I I U9 (someD (impF (impT c27 b23) b26)))<|.q I (.call I (kC I) I (zei _ _ _ (someD (impF (impT c28 b23) b26))))<|.nil I
   refine .A 1 I<|.jOr 4 (b2:=((sidx t0 x21).getD default)==95) I I I I (.inr ⟨_,_,_,I,I,I⟩) (λ_ _ _ h1 h2=>by cases h1;cases h2;decide) I I (λb29=>?_) ?_
   ·refine .A 2 I<|.q I (.sidx I I I U9 (someD (impF (impT c30 b23) b29)))<|.A 1 I<|.nil I
   exact .nil I
  refine .nil<|.nil<|.K [0,1,6,34] I<|.condS I h (λh=>?_) λh=>?_
  ·refine .skip<|.block<|.rA 3 I (ndE h I)
  ·refine .exit<|.seq<|.seq<|.draw 6 Hm (by kernel_rfl) (by kernel_rfl)<|.Z h I (ref02_Keywords_ok _ ) λx31 h=>.A 3 I<|bK h λx32 q32 h=>.p I (.cutStrLH I I I I U9 q32)<|.Z h I (ref02_Has_ok _ _ _) λx33 h=>.nil<|.nil<|.condS I h (λh=>?_) λh=>?_
   ·refine .sA 3 I<|.ret ?_
    cases h
    exact zcd I I (.d _) (.d _)
   ·refine .skip<|.sA 3 I<|.ret ?_
    cases h
    exact zcd I I (.d _) (.d _)
 ·refine .skip<|.seq<|.S 2 I<|bK h λx34 q34 h=>.p I (.sidx I I I U9 q34)<|.Z h I (zei _ _) λx35 h=>.nil<|.condS I h (λh=>?_) λh=>?_
  ·refine .seq<|.block<|.L [0] h (λv=>[(6,.d (.int v))]) (λv=>[]) I λ_ x44 h=>.seq<|.seq<|.plain 10 I<|.A 2 I<|.p I (.len_str I U9 I)<|.A 2 I<|gK h λc47 h=>gK h λc48 h=>.jA 4 (((za5 n ((sidx t0 x44).getD default)).getD default)) I (λb46=>?_) ?_
   ·refine .A 2 I<|.q I (.sidx I I I U9 (someD (impT c47 b46)))<|.q I (.call I (kC I) I (zei _ _ _ (someD (impT c48 b46))))<|.nil I
   refine .nil<|.nil<|.K [0,6,58] I<|.condS I h (λh=>?_) λh=>?_
   ·refine .skip<|.block<|.rA 3 I (ndE h I)
   ·refine .exit<|.sA 3 I<|.ret ?_
    cases h
    exact zcd I I (.d _) (.d _)
  ·refine .skip<|.seq<|.S 2 I<|.Z h I (ref02_symbol_ok _ _ _) λx49 h=>.A 1 I<|.nil<|.K [0,1,6,7] I<|.sA 2 I<|.condS I h (λh=>?_) λh=>?_
   ·refine .sA 5 I<|.ret ?_
    cases h
    exact zcd I I (.d _) (.d _)
   ·refine .skip<|.seq<|.block<|.L [0] h (λv=>[(6,.d (.int v))]) (λv=>[]) I λ_ x78 h=>.seq<|.seq<|.plain 37 I<|.A 2 I<|.p I (.len_str I U9 I)<|.A 2 I<|gK h λc81 h=>gK h λc82 h=>.jA 5 (!((zaY n ((sidx t0 x78).getD default)).getD default)) I (λb80=>?_) ?_
    ·refine .A 2 I<|.q I (.sidx I I I U9 (someD (impT c81 b80)))<|.q I (.call I (kC I) I (ref02_white_ok _ _ _ (someD (impT c82 b80))))<|.A 1 I<|.nil I
    refine .A 1 I<|gK h λc84 h=>.jA 4 (((sidx t0 x78).getD default) != 35) I (λb83=>?_) ?_
    ·refine .A 2 I<|.q I (.sidx I I I U9 (someD (impT c84 b83)))<|.A 1 I<|.nil I
    refine .A 1 I<|gK h λc86 h=>gK h λc87 h=>.jA 5 (!((zaO n ((sidx t0 x78).getD default)).getD default)) I (λb85=>?_) ?_
    ·refine .A 2 I<|.q I (.sidx I I I U9 (someD (impT c86 b85)))<|.q I (.call I (kC I) I (zeY _ _ _ (someD (impT c87 b85))))<|.A 1 I<|.nil I
    refine .A 1 I<|gK h λc89 h=>gK h λc90 h=>.jA 5 (!((za5 n ((sidx t0 x78).getD default)).getD default)) I (λb88=>?_) ?_
    ·refine .A 2 I<|.q I (.sidx I I I U9 (someD (impT c89 b88)))<|.q I (.call I (kC I) I (zei _ _ _ (someD (impT c90 b88))))<|.A 1 I<|.nil I
    refine .A 1 I<|gK h λc92 h=>.jA 4 (((zbn n t0 x78).getD default)==0) I (λb91=>?_) ?_
    ·refine .A 2 I<|.q I (.call I (kC I) I (ref02_symbol_ok _ _ _ _ (someD (impT c92 b91))))<|.A 1 I<|.nil I
    refine .nil<|.nil<|.K [0,6,106] I<|.condS I h (λh=>?_) λh=>?_
    ·refine .skip<|.block<|.rA 3 I (ndE h I)
    ·refine .exit<|.sA 3 I<|.ret ?_
     cases h
     exact zcd I I (.d _) (.d _)
theorem ref02_Scan_ok (n t0 r) (h:zc6 n t0=some r):Pure pg 224 [.str t0] (.tup [eQ r.1,.int r.2]):=by
 refine Pure.ot Tryz.func224 I Tryz.ntmps224 I λA w=>.sr<|.p I (.nilS 4 (α:=Token) Token.enc I)<|.A 1 I<|.nil<|.seq<|.S 1 I<|.p I (.len_str I U9 I)<|.A 1 I<|.nil<|.condS I h (λh=>?_) λh=>?_
 ·refine .sr<|.p I (.nilS 4 (α:=Token) Token.enc I)<|.A 1 I<|.nil<|.ret ?_
  cases h
  exact zcd I I (.d _) (.d _)
 ·refine .skip<|.sr<|.buildVec [] I I I I I E242 I (λ_=>I) I (enc:=Token.enc)<|.A 1 I<|.nil<|.sA 1 I<|.seq<|.block<|.L [0] h (λv=>[(4,.vec 0 (List.length v.1)),(5,.d (.int v.2))]) (λv=>[(0,.vec 234 4 (List.map Token.enc v.1))]) I λ_ ⟨b0_13,x14⟩ h=>.seq<|.S 2 I<|.Z h I (ref02_skip_ok _ _ _) λx16 h=>.A 1 I<|.p I (.len_str I U9 I)<|.A 1 I<|.nil<|.K [0,4,5,18] I<|.condS I h (λh=>?_) λh=>?_
  ·refine .skip<|.block<|.S 2 I<|.Z h I (ref02_skip_ok _ _ _) λx17 h=>.A 1 I<|.nil<|.S 2 I<|.Z h I (ref02_token_ok _ _ _) λx18 h=>.A 1 I<|.p I (.extract I I I)<|.p I (.extract I I I)<|.A 2 I<|.nil<|.S 5 I<|.p I (.castD (Token.enc (⟨x18.1,x14,x17,x18.2⟩:Token)) I (.build I Pl234 (.agg Zc234 (ds':=[_,_,_,_]) (.e (.e (.e .e1)))) I I))<|.p I (.buildSl [_] I I E242 I (λ_=>I) I (enc:=Token.enc))<|bK h λx19 q19 h=>.app I I I I I I I I E242 I (λ_=>I) q19<|.A 1 I<|.nil<|.K [0,4,8] I<|.rA 2 I (ndE h I)
  ·refine .exit<|.S 3 I<|.p I (.len_str I U9 I)<|.A 1 I<|.p I (.len_str I U9 I)<|.p I (.castD (Token.enc (⟨0,x14,(t0.length:Int),(t0.length:Int)⟩:Token)) I (.build I Pl234 (.agg Zc234 (ds':=[_,_,_,_]) (.e (.e (.e .e1)))) I I))<|.p I (.buildSl [_] I I E242 I (λ_=>I) I (enc:=Token.enc))<|bK h λx20 q20 h=>.app I I I I I I I I E242 I (λ_=>I) q20<|.A 2 I<|.nil<|.ret ?_
   cases h
   exact zcd I I (.vec I (by simp)) (.d _)
theorem ref02_Kind_ok (n t0 r) (h:ref02_Kind n t0=some r):Pure pg 204 [.str t0] (.int r):=by
 refine Pure.ot Tryz.func204 I Tryz.ntmps204 I λA w=>.sA 1 I<|.S 1 I<|.Z h I (ref02_Scan_ok _ _) λx1 h=>.A 1 I<|.p I (.extract I I I)<|.p I (.extract I I I)<|.A 2 I<|.nil<|.seq<|.seq<|.plain 23 I<|.A 3 I<|.jO 3 ((x1.1.length:Int) != 2) I (λb2=>?_) ?_
 ·refine .A 1 I<|.q I (.len I U242 I)<|.A 1 I<|.nil I
 refine .A 1 I<|gK h λc4 h=>.jO 5 ((((idx x1.1 0).getD default).at_) != 0) I (λb3=>?_) ?_
 ·refine .A 1 I<|.q I (.ix I U242 S234 (someD (impF c4 b3)))<|.A 3 I<|.nil I
 refine .A 1 I<|gK h λc6 h=>.jO 7 ((((idx x1.1 0).getD default).end_) != (t0.length:Int)) I (λb5=>?_) ?_
 ·refine .A 1 I<|.q I (.ix I U242 S234 (someD (impF c6 b5)))<|.A 3 I<|.q I (.len_str I U9 I)<|.A 1 I<|.nil I
 refine .nil<|.nil<|.K [3,32] I<|.condS I h (λh=>?_) λh=>?_
 ·refine .sA 1 I<|.ret (rO h I)
 ·refine .skip<|.S 1 I<|.X h I λx7 h=>.A 3 I<|.nil<|.ret (rO h I)
theorem ref02_Name_ok (n t0 r) (h:zf1 n t0=some r):Pure pg 162 [.str t0] (.bool r):=by
 refine Pure.ot Tryz.func162 I Tryz.ntmps162 I λA w=>.sA 1 I<|.seq<|.plain 8 I<|.A 1 I<|.Z h I (ref02_Kind_ok _ _) λx1 h=>.A 2 I<|.jA 3 (decide ((t0.length:Int)≤16)) I (λb2=>?_) ?_
 ·refine .A 1 I<|.q I (.len_str I U9 I)<|.A 1 I<|.nil I
 refine .nil<|.A 1 I<|.nil<|.ret (rO h I)
theorem ze2 (n t0 r) (h:zb6 n t0=some r):Pure pg 139 [.int t0] (.bool r):=by
 refine Pure.ot Tryz.func139 I Tryz.ntmps139 I λA w=>.sA 1 I<|.seq<|.plain 6 I<|.A 3 I<|.jO 2 (t0==1) I (λb1=>?_) ?_
 ·refine .A 2 I<|.nil I
 refine .nil<|.A 1 I<|.nil<|.ret (rO h I)
theorem zfC (n t0 t1 r) (h:zaK n t0 t1=some r):Pure pg 101 [eA t0,eB t1] (.bool r):=by
 refine Pure.ot Tryz.func101 I Tryz.ntmps101 I λA w=>.sA 1 I<|.seq<|.seq<|.plain 13 I<|.A 1 I<|.p I (.len I U22 I)<|.A 2 I<|gK h λc2 h=>.jO 3 (!((zbj n t0).getD default)) I (λb1=>?_) ?_
 ·refine .A 1 I<|.q I (.call I (kC I) I (ref09_sound_ok _ _ _ (someD (impF c2 b1))))<|.A 1 I<|.nil I
 refine .A 1 I<|.jO 3 (decide (12<(t1.length:Int))) I (λb3=>?_) ?_
 ·refine .A 1 I<|.q I (.len I U23 I)<|.A 1 I<|.nil I
 refine .nil<|.nil<|.condS I h (λh=>?_) λh=>?_
 ·refine .sA 1 I<|.ret (rO h I)
 ·refine .skip<|.sA 2 I<|.K [0,1,5,6] I<|.seq<|.sA 1 I<|.block<|.L [0,1] h (λv=>[(5,.d (.int v.1)),(6,.d (.int v.2.1)),(7,.d (.int v.2.2))]) (λv=>[]) I λ_ ⟨x56,x57,x58⟩ h=>.seq<|.S 2 I<|.p I (.len I U23 I)<|.A 1 I<|.nil<|.K [0,1,5,6,7,27] I<|.condS I h (λh=>?_) λh=>?_
  ·refine .skip<|.J [0,1,7] h (λv=>[(5,.d (.int v.1)),(6,.d (.int v.2))]) (λv=>[]) I (λk_62 h=>?_) (λv h=>?_)
   ·refine .block<|.S 2 I<|.X h I λx63 h=>.A 1 I<|.allocStore I I I I I I I I (by simp) I I Z127<|.nil<|.seq<|.sA 1 I<|.block<|.L [0,1,5,6,7,8] h (λv=>[(9,.d (.int v))]) (λv=>[]) I λ_ x68 h=>.seq<|.sA 3 I<|.condS I h (λh=>?_) λh=>?_
    ·refine .skip<|.seq<|.block<|.seq<|.draw 8 Hm (by kernel_rfl) (by kernel_rfl)<|.A 2 I<|.X h I λx70 h=>.A 4 I<|.p I (.str_eql I I I)<|.nil<|.nil<|.condS I h (λh=>?_) λh=>?_
     ·refine .sA 1 I<|.ret (rO h I)
     ·refine .skip<|.rA 3 I (ndE h I)
    ·refine .exit<|.S 3 I<|.Z h I (ze1 _ _ _) λx71 h=>.A 1 I<|.nil<|.seq<|.seq<|.plain 18 I<|.A 2 I<|.Z h I (ref02_Name_ok _ _) λx72 h=>.A 2 I<|.jO 3 (decide (x63.kind<0)) I (λb73=>?_) ?_
     ·refine .A 3 I<|.nil I
     refine .A 1 I<|.jO 3 (decide (5<x63.kind)) I (λb74=>?_) ?_
     ·refine .A 3 I<|.nil I
     refine .A 1 I<|.jO 2 (x71==0) I (λb75=>?_) ?_
     ·refine .A 2 I<|.nil I
     refine .nil<|.nil<|.K [0,1,5,6,7,8,10,68] I<|.condS I h (λh=>?_) λh=>?_
     ·refine .sA 1 I<|.ret (rO h I)
     ·refine .skip<|.seq<|.seq<|.plain 19 I<|.p I (.fa I (zd2 _))<|.A 2 I<|.p I (.fa I (zd2 _))<|.A 4 I<|.jO 4 (decide (x63.range.lo<(-9999))) I (λb76=>?_) ?_
      ·refine .q I (.fa I (zd2 _))<|.A 3 I<|.nil I
      refine .A 1 I<|.jO 4 (decide (9999<x63.range.hi)) I (λb77=>?_) ?_
      ·refine .q I (.fa I (zd2 _))<|.A 3 I<|.nil I
      refine .nil<|.nil<|.K [0,1,5,6,7,8,10,87] I<|.condS I h (λh=>?_) λh=>?_
      ·refine .sA 1 I<|.ret (rO h I)
      ·refine .skip<|.seq<|.seq<|.plain 25 I<|.A 4 I<|.jO 3 (x63.kind==2) I (λb78=>?_) ?_
       ·refine .A 3 I<|.nil I
       refine .A 1 I<|.jO 3 (x63.kind==3) I (λb79=>?_) ?_
       ·refine .A 3 I<|.nil I
       refine .A 1 I<|.jA 10 ((x63.range.lo != 0)||(x63.range.hi != 1)) I (λb80=>?_) ?_
       ·refine .q I (.fa I (zd2 _))<|.A 4 I<|.jOr 4 (b2:=x63.range.hi != 1) I I I I (.inr ⟨_,_,_,I,I,I⟩) (λ_ _ _ h1 h2=>by cases h1;cases h2;decide) I I (λb81=>?_) ?_
        ·refine .q I (.fa I (zd2 _))<|.A 3 I<|.nil I
        exact .nil I
       refine .nil<|.nil<|.K [0,1,5,6,7,8,10,112] I<|.condS I h (λh=>?_) λh=>?_
       ·refine .sA 1 I<|.ret (rO h I)
       ·refine .skip<|.S 2 I<|.Z h I (ze2 _ _) λx82 h=>.nil<|.condS I h (λh=>?_) λh=>?_
        ·refine .seq<|.sA 4 I<|.condS I h (λh=>?_) λh=>?_
         ·refine .sA 1 I<|.ret (rO h I)
         ·refine .skip<|.rA 4 I (ndE h I)
        ·refine .seq<|.sA 4 I<|.condS I h (λh=>?_) λh=>?_
         ·refine .sA 1 I<|.ret (rO h I)
         ·refine .skip<|.rA 4 I (ndE h I)
   ·obtain ⟨x60,x61⟩:=v
    refine .rA 3 I (ndE h I)
  ·refine .exit<|.seq<|.plain 6 I<|.A 3 I<|.jA 2 (decide (x57≤64)) I (λb83=>?_) ?_
   ·refine .A 2 I<|.nil I
   refine .nil<|.A 1 I<|.nil<|.ret (rO h I)
theorem ref09_Ranges_ok (n t0 t1 t2 r) (h:zaP n t0 t1 t2=some r):Pure pg 93 [eA t0,eB t1,.bool t2] (eK r):=by
 refine Pure.ot Tryz.func93 I Tryz.ntmps93 I λA w=>.sr<|.p I (.nilS 2 (α:=Range) Range.enc I)<|.nil<|.sr<|.buildVec [] I I I I I E48 I (λ_=>I) I (enc:=Range.enc)<|.A 1 I<|.nil<|.seq<|.S 2 I<|.Z h I (zfC _ _ _) λx1 h=>.A 1 I<|.nil<|.condS I h (λh=>?_) λh=>?_
 ·refine .sA 2 I<|.ret ?_
  cases h
  exact zb8 I (.vec I (by simp))
 ·refine .skip<|.seq<|.sA 1 I<|.block<|.L [0,1,2] h (λv=>[(7,.vec 0 (List.length v.1)),(8,.d (.int v.2))]) (λv=>[(0,.vec 87 2 (List.map Range.enc v.1))]) I λ_ ⟨b0_62,x63⟩ h=>.seq<|.S 2 I<|.p I (.len I U23 I)<|.A 1 I<|.nil<|.K [0,1,2,7,8,19] I<|.condS I h (λh=>?_) λh=>?_
  ·refine .skip<|.seq<|.block<|.sA 1 I<|.block<|.L [0,1,2,8] h (λv=>[(7,.vec 0 (List.length v.1)),(9,.d (.int v.2))]) (λv=>[(0,.vec 87 2 (List.map Range.enc v.1))]) I λ_ ⟨b0_83,x84⟩ h=>.seq<|.seq<|.plain 19 I<|.A 2 I<|.X h I λx86 h=>.A 2 I<|.Z h I (ze2 _ _) λx87 h=>.A 1 I<|.p I (.beq I U4 I I)<|.A 1 I<|gK h λc89 h=>gK h λc90 h=>.jA 9 (decide (x84<((zai n t0 (((idx t1 x63).getD default).columns)).getD default))) I (λb88=>?_) ?_
   ·refine .A 4 I<|.q I (.ix I U23 S127 (someD (impT c89 b88)))<|.A 2 I<|.q I (.call I (kC I) I (ze1 _ _ _ _ (someD (impT c90 b88))))<|.A 1 I<|.nil I
   refine .nil<|.nil<|.K [0,1,2,7,8,9,40] I<|.condS I h (λh=>?_) λh=>?_
   ·refine .skip<|.seq<|.block<|.region<|.A 3 I<|.X h I λx91 h=>.p I (.fa I (zd2 _))<|.A 1 I<|.p I (.buildSl [_] I I E48 I (λ_=>I) I (enc:=Range.enc))<|bK h λx92 q92 h=>.app I I I I I I I I E48 I (λ_=>I) q92<|.A 1 I<|.nil<|.rA 3 I (ndE h I)
   ·refine .exit<|.rA 3 I (ndE h I)
  ·refine .exit<|.sA 2 I<|.ret ?_
   cases h
   exact zb8 I (.vec I (by simp))
theorem ze4 (n t0 r) (h:zcr n t0=some r):Pure pg 38 [Model.enc t0] (eK r):=by
 refine Pure.ot Tryz.func38 I Tryz.ntmps38 I λA w=>.S 1 I<|.p I (.nilS 2 (α:=Range) Range.enc I)<|.nil<|.S 4 I<|.Z h I (ref09_Ranges_ok _ _ _ _) λx1 h=>.A 1 I<|.nil<|.ret ?_
 cases h
 exact zb8 I (.d _)
theorem ref13_Few_ok (n t0 r) (h:zbU n t0=some r):Pure pg 11 [Model.enc t0] (.bool r):=by
 refine Pure.ot Tryz.func11 I Tryz.ntmps11 I λA w=>.sA 2 I<|.seq<|.seq<|.plain 15 I<|.A 1 I<|.Z h I (ref13_Bounded_ok _ _) λx1 h=>.A 2 I<|.jO 4 (decide (12<(t0.actions.length:Int))) I (λb2=>?_) ?_
 ·refine .A 2 I<|.q I (.len I U27 I)<|.A 1 I<|.nil I
 refine .A 1 I<|.jO 4 (decide (40<(t0.constraints.length:Int))) I (λb3=>?_) ?_
 ·refine .A 2 I<|.q I (.len I U25 I)<|.A 1 I<|.nil I
 refine .nil<|.nil<|.K [1,21] I<|.condS I h (λh=>?_) λh=>?_
 ·refine .sA 1 I<|.ret (rO h I)
 ·refine .skip<|.seq<|.sA 1 I<|.block<|.L [1] h (λv=>[(3,.d (.int v))]) (λv=>[]) I λ_ x8 h=>.seq<|.S 3 I<|.p I (.len I U27 I)<|.A 1 I<|.nil<|.K [1,3,26] I<|.condS I h (λh=>?_) λh=>?_
  ·refine .skip<|.seq<|.block<|.S 3 I<|.X h I λx10 h=>.p I (.fa I (G84_2 _))<|.A 2 I<|.p I (.len I U49 I)<|.A 1 I<|.nil<|.condS I h (λh=>?_) λh=>?_
   ·refine .sA 1 I<|.ret (rO h I)
   ·refine .skip<|.rA 3 I (ndE h I)
  ·refine .exit<|.S 1 I<|.Z h I (ze4 _ _) λx11 h=>.A 1 I<|.nil<|.seq<|.S 1 I<|.p I (.len I U48 I)<|.A 1 I<|.nil<|.condS I h (λh=>?_) λh=>?_
   ·refine .sA 1 I<|.ret (rO h I)
   ·refine .skip<|.sA 1 I<|.seq<|.sA 1 I<|.block<|.L [4] h (λv=>[(5,.d (.int v.1)),(6,.d (.int v.2))]) (λv=>[]) I λ_ ⟨x20,x21⟩ h=>.seq<|.S 2 I<|.p I (.len I U48 I)<|.A 1 I<|.nil<|.K [4,5,6,46] I<|.condS I h (λh=>?_) λh=>?_
    ·refine .skip<|.seq<|.block<|.seq<|.draw 15 Hm (by kernel_rfl) (by kernel_rfl)<|.A 3 I<|.X h I λx23 h=>.A 4 I<|.X h I λx24 h=>.A 6 I<|.nil<|.nil<|.sA 2 I<|.K [4,5,6,64] I<|.condS I h (λh=>?_) λh=>?_
     ·refine .sA 1 I<|.ret (rO h I)
     ·refine .skip<|.rA 3 I (ndE h I)
    ·refine .exit<|.sA 1 I<|.ret (rO h I)
theorem zf3 (n t0 r) (h:zaw n t0=some r):Pure pg 102 [eC t0] (.bool r):=by
 refine Pure.ot Tryz.func102 I Tryz.ntmps102 I λA w=>.sA 1 I<|.seq<|.sA 1 I<|.block<|.L [0] h (λv=>[(3,.d (.int v))]) (λv=>[]) I λ_ x15 h=>.seq<|.S 2 I<|.p I (.len I U24 I)<|.A 1 I<|.nil<|.K [0,3,7] I<|.condS I h (λh=>?_) λh=>?_
 ·refine .skip<|.seq<|.block<|.seq<|.draw 16 Hm (by kernel_rfl) (by kernel_rfl)<|.A 2 I<|.X h I λx17 h=>.A 1 I<|.Z h I (ref02_Name_ok _ _) λx18 h=>.A 2 I<|gK h λc20 h=>gK h λc21 h=>gK h λc22 h=>.jO 8 (((zcD n ((cut t0 0 x15).getD default) ((idx t0 x15).getD default)).getD default)) I (λb19=>?_) ?_
  ·refine .A 2 I<|.q I (.cutSlH I I I U24 S9 (someD (impF c20 b19)))<|.A 2 I<|.q I (.ix I U24 S9 (someD (impF c21 b19)))<|.A 1 I<|.q I (.call I (kC I) I (ref02_Has_ok _ _ _ _ (someD (impF c22 b19))))<|.nil I
  refine .nil<|.nil<|.K [0,3,25] I<|.condS I h (λh=>?_) λh=>?_
  ·refine .sA 1 I<|.ret (rO h I)
  ·refine .skip<|.rA 3 I (ndE h I)
 ·refine .exit<|.sA 1 I<|.ret (rO h I)
theorem ref11_SameTerms_ok (n t0 t1 r) (h:zaQ n t0 t1=some r):Pure pg 205 [eL t0,eL t1] (.bool r):=by
 refine Pure.ot Tryz.func205 I Tryz.ntmps205 I λA w=>.sA 1 I<|.seq<|.S 1 I<|.p I (.len I U31 I)<|.A 1 I<|.p I (.len I U31 I)<|.A 1 I<|.nil<|.condS I h (λh=>?_) λh=>?_
 ·refine .sA 1 I<|.ret (rO h I)
 ·refine .skip<|.seq<|.sA 1 I<|.block<|.L [0,1] h (λv=>[(5,.d (.int v))]) (λv=>[]) I λ_ x7 h=>.seq<|.S 2 I<|.p I (.len I U31 I)<|.A 1 I<|.nil<|.K [0,1,5,14] I<|.condS I h (λh=>?_) λh=>?_
  ·refine .skip<|.seq<|.block<|.seq<|.draw 9 Hm (by kernel_rfl) (by kernel_rfl)<|.A 2 I<|.X h I λx9 h=>.A 3 I<|.X h I λx10 h=>.A 1 I<|.p I (.sneq I SE41 I I (xs:=Term.vals _) (ys:=Term.vals _) I I I I (SQ41 _ _))<|.nil<|.nil<|.condS I h (λh=>?_) λh=>?_
   ·refine .sA 1 I<|.ret (rO h I)
   ·refine .skip<|.rA 3 I (ndE h I)
  ·refine .exit<|.sA 1 I<|.ret (rO h I)
theorem zgC (n t0 t1 r) (h:zcx n t0 t1=some r):Pure pg 164 [Row.enc t0,Row.enc t1] (.bool r):=by
 refine Pure.ot Tryz.func164 I Tryz.ntmps164 I λA w=>.sA 3 I<|.seq<|.plain 12 I<|.A 6 I<|gK h λc2 h=>.jA 5 (((zaQ n t0.terms t1.terms).getD default)) I (λb1=>?_) ?_
 ·refine .A 4 I<|.q I (.call I (kC I) I (ref11_SameTerms_ok _ _ _ _ (someD (impT c2 b1))))<|.nil I
 refine .nil<|.A 1 I<|.nil<|.K [4] I<|.ret (rO h I)
theorem zdo (n t0 t1 r) (h:zan n t0 t1=some r):Pure pg 167 [.int t0,.int t1] (.bool r):=by
 refine Pure.ot Tryz.func167 I Tryz.ntmps167 I λA w=>.sA 1 I<|.seq<|.plain 9 I<|.A 2 I<|.p I (.neg6 I I)<|.A 2 I<|.jA 3 (decide (t0≤t1)) I (λb1=>?_) ?_
 ·refine .A 3 I<|.nil I
 refine .nil<|.A 1 I<|.nil<|.ret (rO h I)
theorem ref13_row_ok (n t0 t1 r) (h:zcn n t0 t1=some r):Pure pg 165 [Row.enc t0,.int t1] (.bool r):=by
 refine Pure.ot Tryz.func165 I Tryz.ntmps165 I λA w=>.sA 2 I<|.seq<|.sA 1 I<|.block<|.L [1,2] h (λv=>[(5,.d (.int v))]) (λv=>[]) I λ_ x19 h=>.seq<|.S 3 I<|.p I (.len I U31 I)<|.A 1 I<|.nil<|.K [1,2,5,11] I<|.condS I h (λh=>?_) λh=>?_
 ·refine .skip<|.seq<|.block<|.S 3 I<|.X h I λx21 h=>.A 1 I<|.allocStore I I I I I I I I (by simp) I I Z41<|.nil<|.seq<|.draw 36 Hm (by kernel_rfl) (by kernel_rfl)<|.A 4 I<|.jO 4 (decide (t1≤x21.cell)) I (λb22=>?_) ?_
  ·refine .A 4 I<|.nil I
  refine .A 1 I<|gK h λc25 h=>.jO 14 ((decide (0<x19))&&(decide (x21.cell≤((idx t0.terms (sub64 x19 1)).getD default).cell))) I (λb23=>?_) ?_
  ·refine .A 3 I<|.jAnd 10 (b2:=decide (x21.cell≤((idx t0.terms (sub64 x19 1)).getD default).cell)) I I I I (.inr ⟨_,_,_,I,I,I⟩) (λ_ _ _ h1 h2=>by cases h1;cases h2;decide) I I (λb24=>?_) ?_
   ·refine .A 4 I<|.q I (.ix I U31 S41 (someD (impT (impF c25 b23) b24)))<|.A 5 I<|.nil I
   exact .nil I
  refine .A 1 I<|.jO 3 (x21.factor==0) I (λb26=>?_) ?_
  ·refine .A 3 I<|.nil I
  refine .A 1 I<|gK h λc28 h=>.jO 4 (!((zan n x21.factor 1000).getD default)) I (λb27=>?_) ?_
  ·refine .A 2 I<|.q I (.call I (kC I) I (zdo _ _ _ _ (someD (impF c28 b27))))<|.A 1 I<|.nil I
  refine .nil<|.nil<|.K [1,2,5,54] I<|.condS I h (λh=>?_) λh=>?_
  ·refine .sA 1 I<|.ret (rO h I)
  ·refine .skip<|.rA 3 I (ndE h I)
 ·refine .exit<|.S 2 I<|.Z h I (zdo _ _ _) λx29 h=>.A 1 I<|.nil<|.ret (rO h I)
theorem ref13_graph_ok (n t0 t1 r) (h:zbG n t0 t1=some r):Pure pg 166 [Model.enc t0,Constraint.enc t1] (.bool r):=by
 refine Pure.ot Tryz.func166 I Tryz.ntmps166 I λA w=>.sA 3 I<|.seq<|.seq<|.plain 11 I<|.p I (.fa I (G78_2 _))<|.A 2 I<|.p I (.len I U31 I)<|.A 2 I<|.jO 4 (t1.row.bound != 0) I (λb1=>?_) ?_
 ·refine .q I (.fa I (G78_2 _))<|.A 3 I<|.nil I
 refine .nil<|.nil<|.condS I h (λh=>?_) λh=>?_
 ·refine .sA 1 I<|.ret (rO h I)
 ·refine .skip<|.seq<|.sA 1 I<|.block<|.L [2,3] h (λv=>[(5,.d (.int v))]) (λv=>[]) I λ_ x22 h=>.seq<|.S 3 I<|.p I (.len I U23 I)<|.A 1 I<|.nil<|.K [2,3,5,22] I<|.condS I h (λh=>?_) λh=>?_
  ·refine .skip<|.seq<|.block<|.S 3 I<|.X h I λx24 h=>.A 1 I<|.allocStore I I I I I I I I (by simp) I I Z127<|.nil<|.seq<|.draw 40 Hm (by kernel_rfl) (by kernel_rfl)<|.A 4 I<|.jA 4 ((x24.columns.length:Int)==2) I (λb25=>?_) ?_
   ·refine .A 2 I<|.q I (.len I U22 I)<|.A 1 I<|.nil I
   refine .A 1 I<|gK h λc27 h=>gK h λc28 h=>.jA 9 (((idx x24.columns 0).getD default)==((idx x24.columns 1).getD default)) I (λb26=>?_) ?_
   ·refine .A 2 I<|.q I (.ix I U22 S3 (someD (impT c27 b26)))<|.A 3 I<|.q I (.ix I U22 S3 (someD (impT c28 b26)))<|.A 2 I<|.nil I
   refine .A 1 I<|.jA 5 (x24.first==t1.first) I (λb29=>?_) ?_
   ·refine .A 5 I<|.nil I
   refine .A 1 I<|gK h λc31 h=>gK h λc32 h=>.jA 11 (((idx t0.sorts ((idx x24.columns 0).getD default)).getD default)==t1.size) I (λb30=>?_) ?_
   ·refine .A 4 I<|.q I (.ix I U22 S3 (someD (impT c31 b30)))<|.A 1 I<|.q I (.ix I U22 S3 (someD (impT c32 b30)))<|.A 4 I<|.nil I
   refine .nil<|.nil<|.K [2,3,5,69] I<|.condS I h (λh=>?_) λh=>?_
   ·refine .sA 1 I<|.ret (rO h I)
   ·refine .skip<|.rA 3 I (ndE h I)
  ·refine .exit<|.sA 1 I<|.ret (rO h I)
theorem ref13_constraints_ok (n t0 r) (h:zR n t0=some r):Pure pg 103 [Model.enc t0] (.bool r):=by
 refine Pure.ot Tryz.func103 I Tryz.ntmps103 I λA w=>.sA 2 I<|.S 1 I<|.Z h I (ze4 _ _) λx1 h=>.A 1 I<|.nil<|.seq<|.seq<|.plain 13 I<|.A 2 I<|.p I (.len I U25 I)<|.A 1 I<|.p I (.len I U48 I)<|.A 3 I<|.jO 4 (decide (512<(t0.constraints.length:Int))) I (λb2=>?_) ?_
 ·refine .A 2 I<|.q I (.len I U25 I)<|.A 1 I<|.nil I
 refine .nil<|.nil<|.K [1,3,24] I<|.condS I h (λh=>?_) λh=>?_
 ·refine .sA 1 I<|.ret (rO h I)
 ·refine .skip<|.seq<|.sA 1 I<|.block<|.L [1,3] h (λv=>[(4,.d (.int v))]) (λv=>[]) I λ_ x19 h=>.seq<|.S 2 I<|.p I (.len I U48 I)<|.A 1 I<|.nil<|.K [1,3,4,28] I<|.condS I h (λh=>?_) λh=>?_
  ·refine .skip<|.seq<|.block<|.S 1 I<|.p I (.castD (Term.enc (⟨x19,(-1)⟩:Term)) I (.build I Pl41 (.agg Zc41 (ds':=[_,_]) (.e .e1)) I I))<|.p I (.buildSl [_] I I E31 I (λ_=>I) I (enc:=Term.enc))<|.A 2 I<|.X h I λx21 h=>.A 2 I<|.p I (.neg6 I I)<|.p I (.castD (Row.enc (⟨[(⟨x19,(-1)⟩:Term)],neg64 x21.lo⟩:Row)) I (.build I Pl33 (.agg Zc33 (ds':=[_,_]) (.e .e1)) I I))<|.allocStore I I I I I I I I (by simp) I I Z33<|.nil<|.S 1 I<|.p I (.castD (Term.enc (⟨x19,1⟩:Term)) I (.build I Pl41 (.agg Zc41 (ds':=[_,_]) (.e .e1)) I I))<|.p I (.buildSl [_] I I E31 I (λ_=>I) I (enc:=Term.enc))<|.A 2 I<|.X h I λx22 h=>.A 2 I<|.p I (.castD (Row.enc (⟨[(⟨x19,1⟩:Term)],x22.hi⟩:Row)) I (.build I Pl33 (.agg Zc33 (ds':=[_,_]) (.e .e1)) I I))<|.allocStore I I I I I I I I (by simp) I I Z33<|.nil<|.K [1,3,4,5,6] I<|.seq<|.draw 23 Hm (by kernel_rfl) (by kernel_rfl)<|.A 4 I<|.X h I λx23 h=>.p I (.fa I (G78_2 _))<|.A 2 I<|.Z h I (zgC _ _ _) λx24 h=>.A 2 I<|gK h λc26 h=>gK h λc27 h=>.jO 11 (!((zcx n (((idx t0.constraints (add64 (mul64 2 x19) 1)).getD default).row) (⟨[(⟨x19,1⟩:Term)],x22.hi⟩:Row)).getD default)) I (λb25=>?_) ?_
   ·refine .A 5 I<|.q I (.ix I U25 S78 (someD (impF c26 b25)))<|.q I (.fa I (G78_2 _))<|.A 2 I<|.q I (.call I (kC I) I (zgC _ _ _ _ (someD (impF c27 b25))))<|.A 1 I<|.nil I
   refine .nil<|.nil<|.K [1,3,4,72] I<|.condS I h (λh=>?_) λh=>?_
   ·refine .sA 1 I<|.ret (rO h I)
   ·refine .skip<|.rA 3 I (ndE h I)
  ·refine .exit<|.seq<|.sA 1 I<|.block<|.L [1,3] h (λv=>[(7,.d (.int v))]) (λv=>[]) I λ_ x50 h=>.seq<|.S 3 I<|.p I (.len I U25 I)<|.A 1 I<|.nil<|.K [1,3,7,77] I<|.condS I h (λh=>?_) λh=>?_
   ·refine .skip<|.seq<|.block<|.S 3 I<|.X h I λx52 h=>.A 1 I<|.allocStore I I I I I I I I (by simp) I I Z78<|.nil<|.seq<|.seq<|.plain 11 I<|.A 4 I<|.jO 6 (decide ((t0.families.length:Int)≤x52.family)) I (λb53=>?_) ?_
    ·refine .A 4 I<|.q I (.len I U24 I)<|.A 1 I<|.nil I
    refine .nil<|.nil<|.K [1,3,7,8,95] I<|.condS I h (λh=>?_) λh=>?_
    ·refine .sA 1 I<|.ret (rO h I)
    ·refine .skip<|.seq<|.plain 20 I<|.A 4 I<|.jA 3 (x52.first==0) I (λb54=>?_) ?_
     ·refine .A 3 I<|.nil I
     refine .A 1 I<|.jA 3 (x52.size==0) I (λb55=>?_) ?_
     ·refine .A 3 I<|.nil I
     refine .A 1 I<|gK h λc57 h=>.jA 5 (((zcn n x52.row (x1.length:Int)).getD default)) I (λb56=>?_) ?_
     ·refine .q I (.fa I (G78_2 _))<|.A 2 I<|.q I (.len I U48 I)<|.q I (.call I (kC I) I (ref13_row_ok _ _ _ _ (someD (impT c57 b56))))<|.nil I
     refine .nil<|.A 1 I<|.nil<|.K [1,3,7,8,9] I<|.seq<|.plain 20 I<|.A 3 I<|gK h λc61 h=>.jA 16 (!(((decide (mul64 2 (x1.length:Int)≤x50))&&(x52.kind==1))&&((zbG n t0 x52).getD default))) I (λb58=>?_) ?_
     ·refine .A 2 I<|.q I (.len I U48 I)<|.A 3 I<|.jAnd 3 (b2:=x52.kind==1) I I I I (.inr ⟨_,_,_,I,I,I⟩) (λ_ _ _ h1 h2=>by cases h1;cases h2;decide) I I (λb59=>?_) ?_
      ·refine .A 3 I<|.nil I
      refine .A 1 I<|.jAnd 3 (b2:=((zbG n t0 x52).getD default)) I I I I (.inr ⟨_,_,_,I,I,I⟩) (λ_ _ _ h1 h2=>by cases h1;cases h2;decide) I I (λb60=>?_) ?_
      ·refine .A 2 I<|.q I (.call I (kC I) I (ref13_graph_ok _ _ _ _ (someD (impT (impT c61 b58) b60))))<|.nil I
      refine .A 1 I<|.nil I
     refine .nil<|.nil<|.K [1,3,7,135] I<|.condS I h (λh=>?_) λh=>?_
     ·refine .sA 1 I<|.ret (rO h I)
     ·refine .skip<|.rA 3 I (ndE h I)
   ·refine .exit<|.sA 1 I<|.ret (rO h I)
theorem ref13_less_ok (n t0 t1 r) (h:zb3 n t0 t1=some r):Pure pg 168 [eA t0,eA t1] (.bool r):=by
 refine Pure.ot Tryz.func168 I Tryz.ntmps168 I λA w=>.sA 1 I<|.seq<|.sA 1 I<|.block<|.L [0,1] h (λv=>[(5,.d (.int v))]) (λv=>[]) I λ_ x13 h=>.seq<|.seq<|.plain 10 I<|.A 2 I<|.p I (.len I U22 I)<|.A 2 I<|.jA 4 (decide (x13<(t1.length:Int))) I (λb15=>?_) ?_
 ·refine .A 2 I<|.q I (.len I U22 I)<|.A 1 I<|.nil I
 refine .nil<|.nil<|.K [0,1,5,15] I<|.condS I h (λh=>?_) λh=>?_
 ·refine .skip<|.seq<|.block<|.seq<|.draw 9 Hm (by kernel_rfl) (by kernel_rfl)<|.A 2 I<|.X h I λx16 h=>.A 3 I<|.X h I λx17 h=>.A 2 I<|.nil<|.nil<|.condS I h (λh=>?_) λh=>?_
  ·refine .seq<|.draw 10 Hm (by kernel_rfl) (by kernel_rfl)<|.A 2 I<|.X h I λx18 h=>.A 3 I<|.X h I λx19 h=>.A 3 I<|.nil<|.nil<|.K [4] I<|.ret (rO h I)
  ·refine .skip<|.rA 3 I (ndE h I)
 ·refine .exit<|.S 1 I<|.p I (.len I U22 I)<|.A 1 I<|.p I (.len I U22 I)<|.A 2 I<|.nil<|.ret (rO h I)
theorem ref09_nth_ok (n t0 t1 t2 r) (h:zdU n t0 t1 t2=some r):Pure pg 225 [eA t0,eA t1,.int t2] (eA r):=by
 refine Pure.ot Tryz.func225 I Tryz.ntmps225 I λA w=>.sr<|.p I (.nilS 1 (α:=Int) D.int I)<|.nil<|.S 1 I<|.p I (.len I U22 I)<|bK h λx1 q1 h=>.makeVec (enc:=D.int) (z:=(0:Int)) I I I I E22 I I I (.val Zv3) q1<|.A 1 I<|.nil<|.seq<|.S 1 I<|.p I (.len I U22 I)<|.A 2 I<|.nil<|.block<|.L [0,1] h (λv=>[(2,.d (.int v.2.1)),(7,.vec 0 (List.length v.1)),(8,.d (.int v.2.2))]) (λv=>[(0,.vec 3 1 (List.map D.int v.1))]) I λ_ ⟨b0_24,x25,x26⟩ h=>.seq<|.sA 2 I<|.K [0,1,2,7,8,16] I<|.condS I h (λh=>?_) λh=>?_
 ·refine .skip<|.seq<|.block<|.S 6 I<|.X h I λx28 h=>.A 1 I<|.X h I λx29 h=>.A 1 I<|bK h λx30 q30 h=>.p I (.rem6 I I I q30)<|bK h λx31 q31 h=>.p I (.idxV I I I I I U22 S3 q31)<|bK h λb0_32 hb0_32 h=>.storeEl (enc:=D.int) I I I I I I I I I C3 hb0_32<|.relen 7 I (zdy hb0_32)<|.relen 19 I (zdy hb0_32)<|.nil<|.region<|.A 4 I<|.X h I λx33 h=>.A 1 I<|.X h I λx34 h=>.A 1 I<|bK h λx35 q35 h=>.p I (.quo6 I I I q35)<|.A 1 I<|.nil<|.K [0,1,2,7,8] I<|.rA 3 I (ndE h I)
 ·refine .exit<|.sA 2 I<|.ret ?_
  cases h
  exact zb8 I (.vec I (by simp))
theorem ref09_Tuple_ok (n t0 t1 t2 t3 r) (h:zcw n t0 t1 t2 t3=some r):Pure pg 206 [eA t0,eB t1,.bool t2,.int t3] (.tup [.int r.1,eA r.2.1,.bool r.2.2]):=by
 refine Pure.ot Tryz.func206 I Tryz.ntmps206 I λA w=>.S 1 I<|.p I (.nilS 1 (α:=Int) D.int I)<|.A 1 I<|.nil<|.seq<|.S 2 I<|.Z h I (zfC _ _ _) λx1 h=>.A 1 I<|.nil<|.condS I h (λh=>?_) λh=>?_
 ·refine .S 1 I<|.p I (.nilS 1 (α:=Int) D.int I)<|.A 1 I<|.nil<|.ret ?_
  cases h
  exact retThree I I I (.d _) (.d _) (.d _)
 ·refine .skip<|.seq<|.sA 1 I<|.block<|.L [0,1,2,3] h (λv=>[(11,.d (.int v))]) (λv=>[]) I λ_ x24 h=>.seq<|.S 2 I<|.p I (.len I U23 I)<|.A 1 I<|.nil<|.K [0,1,2,3,11,20] I<|.condS I h (λh=>?_) λh=>?_
  ·refine .skip<|.seq<|.block<|.S 3 I<|.X h I λx26 h=>.A 4 I<|.nil<|.seq<|.plain 27 I<|.A 2 I<|.X h I λx27 h=>.A 2 I<|.Z h I (ze2 _ _) λx28 h=>.A 1 I<|.p I (.beq I U4 I I)<|.A 1 I<|.jA 2 (decide (0≤t3)) I (λb29=>?_) ?_
   ·refine .A 2 I<|.nil I
   refine .A 1 I<|.jA 2 (decide (0≤sub64 t3 x26.first)) I (λb30=>?_) ?_
   ·refine .A 2 I<|.nil I
   refine .A 1 I<|gK h λc32 h=>gK h λc33 h=>.jA 9 (decide (sub64 t3 x26.first<((zai n t0 (((idx t1 x24).getD default).columns)).getD default))) I (λb31=>?_) ?_
   ·refine .A 4 I<|.q I (.ix I U23 S127 (someD (impT c32 b31)))<|.A 2 I<|.q I (.call I (kC I) I (ze1 _ _ _ _ (someD (impT c33 b31))))<|.A 1 I<|.nil I
   refine .nil<|.nil<|.K [0,1,2,3,11,12,56] I<|.condS I h (λh=>?_) λh=>?_
   ·refine .S 4 I<|.X h I λx34 h=>.A 3 I<|.Z h I (ref09_nth_ok _ _ _ _) λx35 h=>.A 3 I<|.nil<|.ret ?_
    cases h
    exact retThree I I I (.d _) (.d _) (.d _)
   ·refine .skip<|.rA 3 I (ndE h I)
  ·refine .exit<|.S 1 I<|.p I (.nilS 1 (α:=Int) D.int I)<|.A 1 I<|.nil<|.ret ?_
   cases h
   exact retThree I I I (.d _) (.d _) (.d _)
theorem ref13_set_ok (n t0 r) (h:ref13_set n t0=some r):Pure pg 207 [.int t0] (.bool r):=by
 refine Pure.ot Tryz.func207 I Tryz.ntmps207 I λA w=>.sA 1 I<|.seq<|.plain 6 I<|.A 3 I<|.jO 2 (t0==3) I (λb1=>?_) ?_
 ·refine .A 2 I<|.nil I
 refine .nil<|.A 1 I<|.nil<|.ret (rO h I)
theorem ref13_effect_ok (n t0 t1 r) (h:z9 n t0 t1=some r):Pure pg 169 [Model.enc t0,Effect.enc t1] (.bool r):=by
 refine Pure.ot Tryz.func169 I Tryz.ntmps169 I λA w=>.sA 3 I<|.S 1 I<|.Z h I (ze4 _ _) λx1 h=>.p I (.len I U48 I)<|.A 1 I<|.nil<|.seq<|.sA 1 I<|.block<|.L [2,3,5] h (λv=>[(6,.d (.int v))]) (λv=>[]) I λ_ x20 h=>.seq<|.S 3 I<|.p I (.len I U79 I)<|.A 1 I<|.nil<|.K [2,3,5,6,22] I<|.condS I h (λh=>?_) λh=>?_
 ·refine .skip<|.seq<|.block<|.S 3 I<|.X h I λx22 h=>.A 1 I<|.allocStore I I I I I I I I (by simp) I I Z131<|.nil<|.seq<|.draw 36 Hm (by kernel_rfl) (by kernel_rfl)<|.A 4 I<|.jO 4 (decide ((x1.length:Int)≤x22.cell)) I (λb23=>?_) ?_
  ·refine .A 4 I<|.nil I
  refine .A 1 I<|gK h λc26 h=>.jO 14 ((decide (0<x20))&&(decide (x22.cell≤((idx t1.delta (sub64 x20 1)).getD default).cell))) I (λb24=>?_) ?_
  ·refine .A 3 I<|.jAnd 10 (b2:=decide (x22.cell≤((idx t1.delta (sub64 x20 1)).getD default).cell)) I I I I (.inr ⟨_,_,_,I,I,I⟩) (λ_ _ _ h1 h2=>by cases h1;cases h2;decide) I I (λb25=>?_) ?_
   ·refine .A 4 I<|.q I (.ix I U79 S131 (someD (impT (impF c26 b24) b25)))<|.A 5 I<|.nil I
   exact .nil I
  refine .A 1 I<|.jO 3 (x22.add==0) I (λb27=>?_) ?_
  ·refine .A 3 I<|.nil I
  refine .A 1 I<|gK h λc29 h=>.jO 4 (!((zan n x22.add 1000000000).getD default)) I (λb28=>?_) ?_
  ·refine .A 2 I<|.q I (.call I (kC I) I (zdo _ _ _ _ (someD (impF c29 b28))))<|.A 1 I<|.nil I
  refine .nil<|.nil<|.K [2,3,5,6,65] I<|.condS I h (λh=>?_) λh=>?_
  ·refine .sA 1 I<|.ret (rO h I)
  ·refine .skip<|.rA 3 I (ndE h I)
 ·refine .exit<|.seq<|.sA 1 I<|.block<|.L [2,3,5] h (λv=>[(8,.d (.int v))]) (λv=>[]) I λ_ x36 h=>.seq<|.S 3 I<|.p I (.len I U49 I)<|.A 1 I<|.nil<|.K [2,3,5,8,70] I<|.condS I h (λh=>?_) λh=>?_
  ·refine .skip<|.seq<|.block<|.S 3 I<|.X h I λx38 h=>.A 2 I<|.Z h I (ref13_row_ok _ _ _) λx39 h=>.A 1 I<|.nil<|.condS I h (λh=>?_) λh=>?_
   ·refine .sA 1 I<|.ret (rO h I)
   ·refine .skip<|.rA 3 I (ndE h I)
  ·refine .exit<|.seq<|.sA 1 I<|.block<|.L [2,3] h (λv=>[(9,.d (.int v))]) (λv=>[]) I λ_ x70 h=>.seq<|.S 3 I<|.p I (.len I U80 I)<|.A 1 I<|.nil<|.K [2,3,9,85] I<|.condS I h (λh=>?_) λh=>?_
   ·refine .skip<|.seq<|.block<|.S 3 I<|.X h I λx72 h=>.A 1 I<|.allocStore I I I I I I I I (by simp) I I Z218<|.nil<|.S 6 I<|.Z h I (ref09_Tuple_ok _ _ _ _ _) λx73 h=>.A 1 I<|.p I (.extract I I I)<|.p I (.extract I I I)<|.p I (.extract I I I)<|.A 3 I<|.nil<|.K [2,3,9,10,11,13] I<|.seq<|.seq<|.draw 18 Hm (by kernel_rfl) (by kernel_rfl)<|.A 3 I<|gK h λc76 h=>.jO 14 ((decide (0<x70))&&(decide (x72.cell≤((idx t1.updates (sub64 x70 1)).getD default).cell))) I (λb74=>?_) ?_
    ·refine .A 3 I<|.jAnd 10 (b2:=decide (x72.cell≤((idx t1.updates (sub64 x70 1)).getD default).cell)) I I I I (.inr ⟨_,_,_,I,I,I⟩) (λ_ _ _ h1 h2=>by cases h1;cases h2;decide) I I (λb75=>?_) ?_
     ·refine .A 4 I<|.q I (.ix I U80 S218 (someD (impT (impF c76 b74) b75)))<|.A 5 I<|.nil I
     exact .nil I
    refine .nil<|.nil<|.K [2,3,9,10,11,121] I<|.condS I h (λh=>?_) λh=>?_
    ·refine .sA 1 I<|.ret (rO h I)
    ·refine .skip<|.S 3 I<|.X h I λx77 h=>.A 1 I<|.allocStore I I I I I I I I (by simp) I I Z127<|.nil<|.seq<|.seq<|.plain 18 I<|.A 2 I<|.Z h I (ref13_set_ok _ _) λx78 h=>.A 1 I<|.jA 13 (((x72.kind != 0)&&(x72.kind != 1))||(x72.value != 0)) I (λb79=>?_) ?_
     ·refine .A 4 I<|.jAnd 3 (b2:=x72.kind != 1) I I I I (.inr ⟨_,_,_,I,I,I⟩) (λ_ _ _ h1 h2=>by cases h1;cases h2;decide) I I (λb80=>?_) ?_
      ·refine .A 3 I<|.nil I
      refine .A 1 I<|.jOr 3 (b2:=x72.value != 0) I I I I (.inr ⟨_,_,_,I,I,I⟩) (λ_ _ _ h1 h2=>by cases h1;cases h2;decide) I I (λb81=>?_) ?_
      ·refine .A 3 I<|.nil I
      exact .nil I
     refine .nil<|.nil<|.K [2,3,9,10,14,144] I<|.condS I h (λh=>?_) λh=>?_
     ·refine .sA 1 I<|.ret (rO h I)
     ·refine .skip<|.seq<|.plain 25 I<|.A 2 I<|.Z h I (ref13_set_ok _ _) λx82 h=>.A 2 I<|.jA 19 (((x72.kind != 2)||(decide (x72.value<x77.range.lo)))||(decide (x77.range.hi<x72.value))) I (λb83=>?_) ?_
      ·refine .A 4 I<|.jOr 6 (b2:=decide (x72.value<x77.range.lo)) I I I I (.inr ⟨_,_,_,I,I,I⟩) (λ_ _ _ h1 h2=>by cases h1;cases h2;decide) I I (λb84=>?_) ?_
       ·refine .A 2 I<|.q I (.fa I (zd2 _))<|.A 3 I<|.nil I
       refine .A 1 I<|.jOr 6 (b2:=decide (x77.range.hi<x72.value)) I I I I (.inr ⟨_,_,_,I,I,I⟩) (λ_ _ _ h1 h2=>by cases h1;cases h2;decide) I I (λb85=>?_) ?_
       ·refine .A 2 I<|.q I (.fa I (zd2 _))<|.A 3 I<|.nil I
       exact .nil I
      refine .nil<|.nil<|.K [2,3,9,169] I<|.condS I h (λh=>?_) λh=>?_
      ·refine .sA 1 I<|.ret (rO h I)
      ·refine .skip<|.rA 3 I (ndE h I)
   ·refine .exit<|.seq<|.plain 10 I<|.A 2 I<|.p I (.len I U49 I)<|.A 2 I<|.jA 4 (decide ((t1.updates.length:Int)≤32)) I (λb86=>?_) ?_
    ·refine .A 2 I<|.q I (.len I U80 I)<|.A 1 I<|.nil I
    refine .nil<|.A 1 I<|.nil<|.ret (rO h I)
theorem ref13_actions_ok (n t0 r) (h:zu n t0=some r):Pure pg 104 [Model.enc t0] (.bool r):=by
 refine Pure.ot Tryz.func104 I Tryz.ntmps104 I λA w=>.sA 2 I<|.sr<|.buildVec [] I I I I I E24 I (λ_=>I) I (enc:=D.str)<|.A 1 I<|.nil<|.seq<|.sA 1 I<|.block<|.L [1] h (λv=>[(3,.vec 0 (List.length v.1)),(4,.d (.int v.2))]) (λv=>[(0,.vec 9 1 (List.map D.str v.1))]) I λ_ ⟨b0_35,x36⟩ h=>.seq<|.S 3 I<|.p I (.len I U26 I)<|.A 1 I<|.nil<|.K [1,3,4,17] I<|.condS I h (λh=>?_) λh=>?_
 ·refine .skip<|.seq<|.block<|.S 3 I<|.X h I λx38 h=>.A 1 I<|.allocStore I I I I I I I I (by simp) I I Z129<|.nil<|.S 3 I<|.p I (.buildSl [_] I I E24 I (λ_=>I) I (enc:=D.str))<|bK h λx39 q39 h=>.app I I I I I I I I E24 I (λ_=>I) q39<|.A 1 I<|.nil<|.seq<|.sA 1 I<|.block<|.L [1,3,4,5] h (λv=>[(6,.d (.int v))]) (λv=>[]) I λ_ x48 h=>.seq<|.S 3 I<|.p I (.len I U22 I)<|.A 1 I<|.nil<|.K [1,3,4,5,6,34] I<|.condS I h (λh=>?_) λh=>?_
  ·refine .skip<|.seq<|.block<|.seq<|.draw 17 Hm (by kernel_rfl) (by kernel_rfl)<|.A 3 I<|.X h I λx50 h=>.A 3 I<|gK h λc52 h=>.jO 9 (decide ((t0.sorts.length:Int)≤((idx x38.sorts x48).getD default))) I (λb51=>?_) ?_
   ·refine .A 3 I<|.q I (.ix I U22 S3 (someD (impF c52 b51)))<|.A 3 I<|.q I (.len I U22 I)<|.A 1 I<|.nil I
   refine .nil<|.nil<|.K [1,3,4,5,6,53] I<|.condS I h (λh=>?_) λh=>?_
   ·refine .sA 1 I<|.ret (rO h I)
   ·refine .skip<|.rA 3 I (ndE h I)
  ·refine .exit<|.S 2 I<|.p I (.len I U22 I)<|.A 1 I<|.nil<|.condS I h (λh=>?_) λh=>?_
   ·refine .sA 1 I<|.ret (rO h I)
   ·refine .skip<|.rA 3 I (ndE h I)
 ·refine .exit<|.seq<|.seq<|.plain 15 I<|.A 2 I<|.p I (.len I U26 I)<|.A 2 I<|gK h λc54 h=>.jO 3 (!((zaw n b0_35).getD default)) I (λb53=>?_) ?_
  ·refine .A 1 I<|.q I (.callB I (kC I) (.cons I (.vec I (by simp)) .nil) I (zf3 _ _ _ (someD (impF c54 b53))))<|.A 1 I<|.nil I
  refine .A 1 I<|.jO 4 (decide (256<(t0.actions.length:Int))) I (λb55=>?_) ?_
  ·refine .A 2 I<|.q I (.len I U27 I)<|.A 1 I<|.nil I
  refine .nil<|.nil<|.condS I h (λh=>?_) λh=>?_
  ·refine .sA 1 I<|.K [2] I<|.ret (rO h I)
  ·refine .skip<|.seq<|.sA 1 I<|.K [1,7] I<|.block<|.L [1] h (λv=>[(7,.d (.int v))]) (λv=>[]) I λ_ x152 h=>.seq<|.S 3 I<|.p I (.len I U27 I)<|.A 1 I<|.nil<|.K [1,7,77] I<|.condS I h (λh=>?_) λh=>?_
   ·refine .skip<|.seq<|.block<|.S 3 I<|.X h I λx154 h=>.A 1 I<|.allocStore I I I I I I I I (by simp) I I Z84<|.nil<|.seq<|.seq<|.draw 25 Hm (by kernel_rfl) (by kernel_rfl)<|.A 4 I<|.jO 6 (decide ((t0.operations.length:Int)≤x154.operation)) I (λb155=>?_) ?_
    ·refine .A 4 I<|.q I (.len I U26 I)<|.A 1 I<|.nil I
    refine .A 1 I<|gK h λc157 h=>.jO 12 ((x154.arguments.length:Int) != ((((idx t0.operations x154.operation).getD default).sorts).length:Int)) I (λb156=>?_) ?_
    ·refine .A 2 I<|.q I (.len I U22 I)<|.A 4 I<|.q I (.ix I U26 S129 (someD (impF c157 b156)))<|.A 2 I<|.q I (.len I U22 I)<|.A 1 I<|.nil I
    refine .nil<|.nil<|.K [1,7,8,109] I<|.condS I h (λh=>?_) λh=>?_
    ·refine .sA 1 I<|.ret (rO h I)
    ·refine .skip<|.seq<|.sA 1 I<|.block<|.L [1,7,8] h (λv=>[(9,.d (.int v))]) (λv=>[]) I λ_ x182 h=>.seq<|.S 3 I<|.p I (.len I U22 I)<|.A 1 I<|.nil<|.K [1,7,8,9,114] I<|.condS I h (λh=>?_) λh=>?_
     ·refine .skip<|.seq<|.block<|.S 4 I<|.X h I λx184 h=>.A 3 I<|.X h I λx185 h=>.A 2 I<|.nil<|.seq<|.draw 36 Hm (by kernel_rfl) (by kernel_rfl)<|.A 3 I<|gK h λc187 h=>gK h λc188 h=>.jA 7 (!((zan n ((idx x154.arguments x182).getD default) 9999).getD default)) I (λb186=>?_) ?_
      ·refine .A 3 I<|.q I (.ix I U22 S3 (someD (impT c187 b186)))<|.A 1 I<|.q I (.call I (kC I) I (zdo _ _ _ _ (someD (impT c188 b186))))<|.A 1 I<|.nil I
      refine .A 1 I<|gK h λc191 h=>gK h λc193 h=>gK h λc194 h=>.jO 23 ((decide (0≤x185))&&((decide (((idx x154.arguments x182).getD default)<0))||(decide (((idx t0.sorts x185).getD default)≤((idx x154.arguments x182).getD default))))) I (λb189=>?_) ?_
      ·refine .A 3 I<|.jAnd 19 (b2:=(decide (((idx x154.arguments x182).getD default)<0))||(decide (((idx t0.sorts x185).getD default)≤((idx x154.arguments x182).getD default)))) I I I I (.inr ⟨_,_,_,I,I,I⟩) (λ_ _ _ h1 h2=>by cases h1;cases h2;decide) I I (λb190=>?_) ?_
       ·refine .A 3 I<|.q I (.ix I U22 S3 (someD (impT (impF c191 b189) b190)))<|.A 3 I<|.jOr 11 (b2:=decide (((idx t0.sorts x185).getD default)≤((idx x154.arguments x182).getD default))) I I I I (.inr ⟨_,_,_,I,I,I⟩) (λ_ _ _ h1 h2=>by cases h1;cases h2;decide) I I (λb192=>?_) ?_
        ·refine .A 3 I<|.q I (.ix I U22 S3 (someD (impF (impT (impF c193 b189) b190) b192)))<|.A 4 I<|.q I (.ix I U22 S3 (someD (impF (impT (impF c194 b189) b190) b192)))<|.A 2 I<|.nil I
        exact .nil I
       exact .nil I
      refine .nil<|.nil<|.K [1,7,8,9,162] I<|.condS I h (λh=>?_) λh=>?_
      ·refine .sA 1 I<|.ret (rO h I)
      ·refine .skip<|.rA 3 I (ndE h I)
     ·refine .exit<|.J [1,7,8] h (λv=>[]) (λv=>[]) I (λk_195 h=>?_) (λv h=>?_)
      ·refine .sA 2 I<|.condS I h (λh=>?_) λh=>?_
       ·refine .S 4 I<|.X h I λx196 h=>.A 1 I<|.allocStore I I I I I I I I (by simp) I I Z84<|.nil<|.seq<|.plain 20 I<|.A 6 I<|gK h λc199 h=>.jO 13 ((x196.operation==x154.operation)&&(!((zb3 n x196.arguments x154.arguments).getD default))) I (λb197=>?_) ?_
        ·refine .A 6 I<|.jAnd 6 (b2:=!((zb3 n x196.arguments x154.arguments).getD default)) I I I I (.inr ⟨_,_,_,I,I,I⟩) (λ_ _ _ h1 h2=>by cases h1;cases h2;decide) I I (λb198=>?_) ?_
         ·refine .A 4 I<|.q I (.call I (kC I) I (ref13_less_ok _ _ _ _ (someD (impT (impF c199 b197) b198))))<|.A 1 I<|.nil I
         exact .nil I
        refine .nil<|.nil<|.K [1,7,8,190] I<|.condS I h (λh=>?_) λh=>?_
        ·refine .sA 1 I<|.ret (rO h I)
        ·refine .skip (ndE h I)
       ·refine .skip (ndE h I)
      ·refine .S 1 I<|.p I (.fa I (G84_2 _))<|.A 1 I<|.Z h I (ref13_effect_ok _ _ _) λx200 h=>.A 1 I<|.nil<|.K [1,7,195] I<|.condS I h (λh=>?_) λh=>?_
       ·refine .sA 1 I<|.ret (rO h I)
       ·refine .skip<|.rA 3 I (ndE h I)
   ·refine .exit<|.sA 1 I<|.ret (rO h I)
theorem ref13_leads_body (n:Nat) (self:Model→Int→Int→Int→Option Bool) (hself:∀ (t0:Model) (t1:Int) (t2:Int) (t3:Int) (r:Bool),self t0 t1 t2 t3=some r→Pure pg 170 [Model.enc t0,.int t1,.int t2,.int t3] (.bool r)) (t0:Model) (t1:Int) (t2:Int) (t3:Int) (r:Bool) (h:zaD.body n self t0 t1 t2 t3=some r):Pure pg 170 [Model.enc t0,.int t1,.int t2,.int t3] (.bool r):=by
 refine Pure.ot Tryz.func170 I Tryz.ntmps170 I λA w=>.sA 2 I<|.seq<|.sA 3 I<|.condS I h (λh=>?_) λh=>?_
 ·refine .sA 1 I<|.ret (rO h I)
 ·refine .skip<|.seq<|.sA 1 I<|.block<|.L [1,2,3,4] h (λv=>[(9,.d (.int v))]) (λv=>[]) I λ_ x13 h=>.seq<|.seq<|.plain 9 I<|.A 3 I<|.p I (.len I U28 I)<|.A 2 I<|.jA 2 (decide (0<t3)) I (λb15=>?_) ?_
  ·refine .A 2 I<|.nil I
  refine .nil<|.nil<|.K [1,2,3,4,9,21] I<|.condS I h (λh=>?_) λh=>?_
  ·refine .skip<|.seq<|.block<|.seq<|.draw 21 Hm (by kernel_rfl) (by kernel_rfl)<|.A 3 I<|.X h I λx16 h=>.A 5 I<|gK h λc18 h=>gK h λc19 h=>.jA 11 (((self t0 (((idx t0.hides x13).getD default).to) t2 (sub64 t3 1)).getD default)) I (λb17=>?_) ?_
   ·refine .A 4 I<|.q I (.ix I U28 S179 (someD (impT c18 b17)))<|.A 5 I<|.q I (.call I (kC I) I (hself _ _ _ _ _ (someD (impT c19 b17))))<|.nil I
   refine .nil<|.nil<|.K [1,2,3,4,9,44] I<|.condS I h (λh=>?_) λh=>?_
   ·refine .sA 1 I<|.ret (rO h I)
   ·refine .skip<|.rA 3 I (ndE h I)
  ·refine .exit<|.sA 1 I<|.ret (rO h I)
theorem ref13_leads_ok  : ∀ (n:Nat) (t0:Model) (t1:Int) (t2:Int) (t3:Int) (r:Bool) (h:zaD n t0 t1 t2 t3=some r),Pure pg 170 [Model.enc t0,.int t1,.int t2,.int t3] (.bool r)
 | 0,t0,t1,t2,t3,r,h=>by cases h
 | n+1,t0,t1,t2,t3,r,h=>ref13_leads_body n (zaD n) (ref13_leads_ok n) t0 t1 t2 t3 r h
theorem ref13_hidden_ok (n t0 r) (h:zaA n t0=some r):Pure pg 105 [Model.enc t0] (.bool r):=by
 refine Pure.ot Tryz.func105 I Tryz.ntmps105 I λA w=>.sA 2 I<|.seq<|.S 2 I<|.p I (.len I U28 I)<|.A 1 I<|.nil<|.condS I h (λh=>?_) λh=>?_
 ·refine .sA 1 I<|.ret (rO h I)
 ·refine .skip<|.seq<|.sA 1 I<|.block<|.L [1] h (λv=>[(3,.d (.int v))]) (λv=>[]) I λ_ x31 h=>.seq<|.S 3 I<|.p I (.len I U28 I)<|.A 1 I<|.nil<|.K [1,3,16] I<|.condS I h (λh=>?_) λh=>?_
  ·refine .skip<|.seq<|.block<|.S 3 I<|.X h I λx33 h=>.A 1 I<|.allocStore I I I I I I I I (by simp) I I Z179<|.nil<|.seq<|.seq<|.plain 31 I<|.A 4 I<|.jO 6 (decide ((t0.tables.length:Int)≤x33.table)) I (λb34=>?_) ?_
   ·refine .A 4 I<|.q I (.len I U23 I)<|.A 1 I<|.nil I
   refine .A 1 I<|.jO 3 (decide (x33.to<0)) I (λb35=>?_) ?_
   ·refine .A 3 I<|.nil I
   refine .A 1 I<|.jO 6 (decide ((t0.tables.length:Int)≤x33.to)) I (λb36=>?_) ?_
   ·refine .A 4 I<|.q I (.len I U23 I)<|.A 1 I<|.nil I
   refine .A 1 I<|.jO 5 (x33.table==x33.to) I (λb37=>?_) ?_
   ·refine .A 5 I<|.nil I
   refine .nil<|.nil<|.K [1,3,4,54] I<|.condS I h (λh=>?_) λh=>?_
   ·refine .sA 1 I<|.ret (rO h I)
   ·refine .skip<|.seq<|.draw 16 Hm (by kernel_rfl) (by kernel_rfl)<|.A 4 I<|.X h I λx38 h=>.A 5 I<|.X h I λx39 h=>.A 1 I<|.alloc I I I I ZZ127<|.alloc I I I I ZZ127<|.store I I I I I I Z127<|.store I I I I I I Z127<|.nil<|.freezes [0,1] (.cons (t:=5) (d:=.ref (Table.enc x38)) I (.loc (inIds I) I (.v (.v (.v (.v (.v .v1)))))) (.cons (t:=6) (d:=.ref (Table.enc x39)) I (.loc (inIds I) I (.v (.v (.v (.v (.v .v1)))))) .nil))<|.nil<|.K [1,3,4,5,6] I<|.seq<|.draw 40 Hm (by kernel_rfl) (by kernel_rfl)<|.A 4 I<|.jO 3 (x39.kind != 0) I (λb40=>?_) ?_
    ·refine .A 3 I<|.nil I
    refine .A 1 I<|.jO 3 (decide (x33.column<0)) I (λb41=>?_) ?_
    ·refine .A 3 I<|.nil I
    refine .A 1 I<|.jO 6 (decide ((x38.columns.length:Int)≤x33.column)) I (λb42=>?_) ?_
    ·refine .A 4 I<|.q I (.len I U22 I)<|.A 1 I<|.nil I
    refine .A 1 I<|.jO 4 ((x39.columns.length:Int) != 1) I (λb43=>?_) ?_
    ·refine .A 2 I<|.q I (.len I U22 I)<|.A 1 I<|.nil I
    refine .A 1 I<|gK h λc45 h=>gK h λc46 h=>.jO 11 (((idx x39.columns 0).getD default) != ((idx x38.columns x33.column).getD default)) I (λb44=>?_) ?_
    ·refine .A 2 I<|.q I (.ix I U22 S3 (someD (impF c45 b44)))<|.A 5 I<|.q I (.ix I U22 S3 (someD (impF c46 b44)))<|.A 2 I<|.nil I
    refine .nil<|.nil<|.K [1,3,106] I<|.condS I h (λh=>?_) λh=>?_
    ·refine .sA 1 I<|.ret (rO h I)
    ·refine .skip<|.rA 3 I (ndE h I)
  ·refine .exit<|.seq<|.sA 1 I<|.block<|.L [1] h (λv=>[(7,.d (.int v))]) (λv=>[]) I λ_ x55 h=>.seq<|.S 3 I<|.p I (.len I U28 I)<|.A 1 I<|.nil<|.K [1,7,111] I<|.condS I h (λh=>?_) λh=>?_
   ·refine .skip<|.seq<|.block<|.seq<|.draw 17 Hm (by kernel_rfl) (by kernel_rfl)<|.A 4 I<|.X h I λx57 h=>.A 5 I<|.X h I λx58 h=>.A 4 I<|.p I (.len I U23 I)<|.Z h I (ref13_leads_ok _ _ _ _ _) λx59 h=>.nil<|.nil<|.K [1,7,130] I<|.condS I h (λh=>?_) λh=>?_
    ·refine .sA 1 I<|.ret (rO h I)
    ·refine .skip<|.rA 3 I (ndE h I)
   ·refine .exit<|.sA 1 I<|.ret (rO h I)
theorem ref13_Valid_ok (n t0 r) (h:ze3 n t0=some r):Pure pg 41 [Model.enc t0] (.bool r):=by
 refine Pure.ot Tryz.func41 I Tryz.ntmps41 I λA w=>.sA 2 I<|.seq<|.seq<|.plain 18 I<|.A 4 I<|.Z h I (zfC _ _ _) λx1 h=>.A 2 I<|.jO 4 (decide (24<(t0.families.length:Int))) I (λb2=>?_) ?_
 ·refine .A 2 I<|.q I (.len I U24 I)<|.A 1 I<|.nil I
 refine .A 1 I<|gK h λc4 h=>.jO 4 (!((zaw n t0.families).getD default)) I (λb3=>?_) ?_
 ·refine .A 2 I<|.q I (.call I (kC I) I (zf3 _ _ _ (someD (impF c4 b3))))<|.A 1 I<|.nil I
 refine .nil<|.nil<|.K [1,20] I<|.condS I h (λh=>?_) λh=>?_
 ·refine .sA 1 I<|.ret (rO h I)
 ·refine .skip<|.seq<|.plain 10 I<|.A 1 I<|.Z h I (ref13_constraints_ok _ _) λx5 h=>.A 1 I<|gK h λc7 h=>.jA 2 (((zu n t0).getD default)) I (λb6=>?_) ?_
  ·refine .A 1 I<|.q I (.call I (kC I) I (ref13_actions_ok _ _ _ (someD (impT c7 b6))))<|.nil I
  refine .A 1 I<|gK h λc9 h=>.jA 2 (((zaA n t0).getD default)) I (λb8=>?_) ?_
  ·refine .A 1 I<|.q I (.call I (kC I) I (ref13_hidden_ok _ _ _ (someD (impT c9 b8))))<|.nil I
  refine .nil<|.A 1 I<|.nil<|.ret (rO h I)
theorem ref16_Valid_ok (n t0 t1 r) (h:zeb n t0 t1=some r):Pure pg 22 [Model.enc t0,Question.enc t1] (.bool r):=by
 refine Pure.ot Tryz.func22 I Tryz.ntmps22 I λA w=>.sA 3 I<|.seq<|.seq<|.plain 35 I<|.A 1 I<|.Z h I (ref13_Valid_ok _ _) λx1 h=>.A 2 I<|.jO 3 (decide (t1.e<0)) I (λb2=>?_) ?_
 ·refine .A 3 I<|.nil I
 refine .A 1 I<|.jO 3 (decide (t1.f<0)) I (λb3=>?_) ?_
 ·refine .A 3 I<|.nil I
 refine .A 1 I<|.jO 6 (decide ((t0.actions.length:Int)≤t1.e)) I (λb4=>?_) ?_
 ·refine .A 4 I<|.q I (.len I U27 I)<|.A 1 I<|.nil I
 refine .A 1 I<|.jO 6 (decide ((t0.actions.length:Int)≤t1.f)) I (λb5=>?_) ?_
 ·refine .A 4 I<|.q I (.len I U27 I)<|.A 1 I<|.nil I
 refine .A 1 I<|.jO 4 (decide (t1.target.index<0)) I (λb6=>?_) ?_
 ·refine .q I (.fa I (G37_2 _))<|.A 3 I<|.nil I
 refine .nil<|.nil<|.K [2,3,39] I<|.condS I h (λh=>?_) λh=>?_
 ·refine .sA 1 I<|.ret (rO h I)
 ·refine .skip<|.seq<|.sr<|.p I (.fa I (G37_2 _))<|.A 2 I<|.nil<|.condS I h (λh=>?_) λh=>?_
  ·refine .seq<|.draw 14 Hm (by kernel_rfl) (by kernel_rfl)<|.p I (.fa I (G37_2 _))<|.A 6 I<|.X h I λx7 h=>.p I (.fa I (G84_2 _))<|.A 2 I<|.p I (.len I U49 I)<|.A 2 I<|.nil<|.nil<|.K [4] I<|.ret (rO h I)
  ·refine .skip<|.seq<|.plain 14 I<|.A 6 I<|.jA 7 (decide (t1.target.index<(t0.constraints.length:Int))) I (λb8=>?_) ?_
   ·refine .q I (.fa I (G37_2 _))<|.A 4 I<|.q I (.len I U25 I)<|.A 1 I<|.nil I
   refine .nil<|.A 1 I<|.nil<|.K [4] I<|.ret (rO h I)
theorem ze5 (n t0 r) (h:zcV n t0=some r):Pure pg 121 [.int t0] (.bool r):=by
 refine Pure.ot Tryz.func121 I Tryz.ntmps121 I λA w=>.sA 1 I<|.seq<|.plain 6 I<|.A 3 I<|.jO 2 (t0==1) I (λb1=>?_) ?_
 ·refine .A 2 I<|.nil I
 refine .nil<|.A 1 I<|.nil<|.ret (rO h I)
theorem zfE (n t0 t1 r) (h:zbs n t0 t1=some r):Pure pg 122 [Model.enc t0,Table.enc t1] (.int r):=by
 refine Pure.ot Tryz.func122 I Tryz.ntmps122 I λA w=>.sA 3 I<|.sA 1 I<|.seq<|.sA 1 I<|.block<|.L [2,3] h (λv=>[(5,.d (.int v.1)),(6,.d (.int v.2))]) (λv=>[]) I λ_ ⟨x9,x10⟩ h=>.seq<|.S 3 I<|.p I (.len I U22 I)<|.A 1 I<|.nil<|.K [2,3,5,6,11] I<|.condS I h (λh=>?_) λh=>?_
 ·refine .skip<|.seq<|.block<|.draw 12 Hm (by kernel_rfl) (by kernel_rfl)<|.A 6 I<|.X h I λx12 h=>.A 1 I<|.X h I λx13 h=>.A 3 I<|.nil<|.nil<|.rA 3 I (ndE h I)
 ·refine .exit<|.sA 2 I<|.ret (rO h I)
theorem ref22_Box_ok (n t0 r) (h:zb7 n t0=some r):Pure pg 65 [Model.enc t0] (eK r):=by
 refine Pure.ot Tryz.func65 I Tryz.ntmps65 I λA w=>.S 1 I<|.p I (.nilS 2 (α:=Range) Range.enc I)<|.nil<|.sr<|.buildVec [] I I I I I E48 I (λ_=>I) I (enc:=Range.enc)<|.A 1 I<|.nil<|.seq<|.sA 1 I<|.block<|.L [1] h (λv=>[(3,.vec 0 (List.length v.1)),(4,.d (.int v.2))]) (λv=>[(0,.vec 87 2 (List.map Range.enc v.1))]) I λ_ ⟨b0_51,x52⟩ h=>.seq<|.S 3 I<|.p I (.len I U23 I)<|.A 1 I<|.nil<|.K [1,3,4,11] I<|.condS I h (λh=>?_) λh=>?_
 ·refine .skip<|.J [1,4] h (λv=>[(3,.vec 0 (List.length v))]) (λv=>[(0,.vec 87 2 (List.map Range.enc v))]) I (λk_55 h=>?_) (λb0_54 h=>?_)
  ·refine .block<|.S 3 I<|.X h I λx56 h=>.A 2 I<|.Z h I (ze5 _ _) λx57 h=>.nil<|.condS I h (λh=>?_) λh=>?_
   ·refine .sA 1 I<|.block<|.L [1,4] h (λv=>[(3,.vec 0 (List.length v.1)),(5,.d (.int v.2))]) (λv=>[(0,.vec 87 2 (List.map Range.enc v.1))]) I λ_ ⟨b0_70,x71⟩ h=>.seq<|.seq<|.draw 9 Hm (by kernel_rfl) (by kernel_rfl)<|.A 5 I<|.X h I λx73 h=>.A 1 I<|.Z h I (zfE _ _ _) λx74 h=>.A 1 I<|.nil<|.nil<|.K [1,3,4,5,29] I<|.condS I h (λh=>?_) λh=>?_
    ·refine .skip<|.seq<|.block<|.region<|.A 4 I<|.X h I λx75 h=>.p I (.fa I (zd2 _))<|.A 1 I<|.p I (.buildSl [_] I I E48 I (λ_=>I) I (enc:=Range.enc))<|bK h λx76 q76 h=>.app I I I I I I I I E48 I (λ_=>I) q76<|.A 1 I<|.nil<|.rA 3 I (ndE h I)
    ·refine .exit (ndE h I)
   ·refine .skip (ndE h I)
  ·refine .rA 3 I (ndE h I)
 ·refine .exit<|.sA 2 I<|.ret ?_
  cases h
  exact zb8 I (.vec I (by simp))
theorem zcW (n t0 t1 t2 r) (h:zaS n t0 t1 t2=some r):Pure pg 127 [.int t0,.int t1,.int t2] (.bool r):=by
 refine Pure.ot Tryz.func127 I Tryz.ntmps127 I λA w=>.sA 1 I<|.seq<|.plain 8 I<|.A 4 I<|.jA 3 (decide (t0≤t2)) I (λb1=>?_) ?_
 ·refine .A 3 I<|.nil I
 refine .nil<|.A 1 I<|.nil<|.ret (rO h I)
theorem ref17_Row_ok (n t0 t1 r) (h:zdV n t0 t1=some r):Pure pg 186 [Row.enc t0,.int t1] (.bool r):=by
 refine Pure.ot Tryz.func186 I Tryz.ntmps186 I λA w=>.sA 2 I<|.sA 1 I<|.seq<|.sA 1 I<|.block<|.L [1,2] h (λv=>[(5,.d (.int v.1)),(6,.d (.int v.2))]) (λv=>[]) I λ_ ⟨x15,x16⟩ h=>.seq<|.S 3 I<|.p I (.len I U31 I)<|.A 1 I<|.nil<|.K [1,2,5,6,12] I<|.condS I h (λh=>?_) λh=>?_
 ·refine .skip<|.seq<|.block<|.S 3 I<|.X h I λx18 h=>.A 1 I<|.allocStore I I I I I I I I (by simp) I I Z41<|.nil<|.seq<|.seq<|.plain 21 I<|.A 5 I<|.jO 4 (decide (t1≤x18.cell)) I (λb19=>?_) ?_
  ·refine .A 4 I<|.nil I
  refine .A 1 I<|.jO 3 (x18.factor==0) I (λb20=>?_) ?_
  ·refine .A 3 I<|.nil I
  refine .A 1 I<|gK h λc22 h=>.jO 4 (!((zaS n x18.factor (-1000) 1000).getD default)) I (λb21=>?_) ?_
  ·refine .A 2 I<|.q I (.call I (kC I) I (zcW _ _ _ _ _ (someD (impF c22 b21))))<|.A 1 I<|.nil I
  refine .nil<|.nil<|.K [1,2,6,7,40] I<|.condS I h (λh=>?_) λh=>?_
  ·refine .sA 1 I<|.ret (rO h I)
  ·refine .skip<|.rA 3 I<|.rA 3 I (ndE h I)
 ·refine .exit<|.S 2 I<|.Z h I (zcW _ _ _ _) λx23 h=>.A 1 I<|.nil<|.ret (rO h I)
theorem zfF (n t0 t1 r) (h:zS n t0 t1=some r):Pure pg 124 [eK t0,eH t1] (.bool r):=by
 refine Pure.ot Tryz.func124 I Tryz.ntmps124 I λA w=>.sA 1 I<|.seq<|.S 1 I<|.p I (.len I U48 I)<|.A 1 I<|.nil<|.condS I h (λh=>?_) λh=>?_
 ·refine .sA 1 I<|.ret (rO h I)
 ·refine .skip<|.seq<|.sA 1 I<|.block<|.L [0,1] h (λv=>[(5,.d (.int v))]) (λv=>[]) I λ_ x13 h=>.seq<|.S 2 I<|.p I (.len I U48 I)<|.A 1 I<|.nil<|.K [0,1,5,13] I<|.condS I h (λh=>?_) λh=>?_
  ·refine .skip<|.seq<|.block<|.seq<|.plain 16 I<|.A 2 I<|.X h I λx15 h=>.A 2 I<|.Z h I (zcW _ _ _ _) λx16 h=>.A 2 I<|gK h λc18 h=>gK h λc19 h=>.jO 7 (!((zaS n (((idx t0 x13).getD default).hi) (-1000000) 1000000).getD default)) I (λb17=>?_) ?_
   ·refine .A 2 I<|.q I (.ix I U48 S87 (someD (impF c18 b17)))<|.A 2 I<|.q I (.call I (kC I) I (zcW _ _ _ _ _ (someD (impF c19 b17))))<|.A 1 I<|.nil I
   refine .nil<|.nil<|.K [0,1,5,31] I<|.condS I h (λh=>?_) λh=>?_
   ·refine .sA 1 I<|.ret (rO h I)
   ·refine .skip<|.rA 3 I (ndE h I)
  ·refine .exit<|.seq<|.sA 1 I<|.block<|.L [0,1] h (λv=>[(6,.d (.int v))]) (λv=>[]) I λ_ x26 h=>.seq<|.S 2 I<|.p I (.len I U49 I)<|.A 1 I<|.nil<|.K [0,1,6,35] I<|.condS I h (λh=>?_) λh=>?_
   ·refine .skip<|.seq<|.block<|.S 2 I<|.X h I λx28 h=>.A 2 I<|.p I (.len I U48 I)<|.Z h I (ref17_Row_ok _ _ _) λx29 h=>.A 1 I<|.nil<|.condS I h (λh=>?_) λh=>?_
    ·refine .sA 1 I<|.ret (rO h I)
    ·refine .skip<|.rA 3 I (ndE h I)
   ·refine .exit<|.sA 1 I<|.ret (rO h I)
theorem ref17_Empty_ok (n t0 r) (h:zbW n t0=some r):Pure pg 125 [eK t0] (.bool r):=by
 refine Pure.ot Tryz.func125 I Tryz.ntmps125 I λA w=>.sA 1 I<|.seq<|.sA 1 I<|.block<|.L [0] h (λv=>[(3,.d (.int v))]) (λv=>[]) I λ_ x7 h=>.seq<|.S 2 I<|.p I (.len I U48 I)<|.A 1 I<|.nil<|.K [0,3,7] I<|.condS I h (λh=>?_) λh=>?_
 ·refine .skip<|.seq<|.block<|.seq<|.draw 11 Hm (by kernel_rfl) (by kernel_rfl)<|.A 2 I<|.X h I λx9 h=>.A 4 I<|.X h I λx10 h=>.A 3 I<|.nil<|.nil<|.condS I h (λh=>?_) λh=>?_
  ·refine .sA 1 I<|.ret (rO h I)
  ·refine .skip<|.rA 3 I (ndE h I)
 ·refine .exit<|.sA 1 I<|.ret (rO h I)
theorem ref18_Valid_ok (n t0 r) (h:zag n t0=some r):Pure pg 72 [System.enc t0] (.bool r):=by
 refine Pure.ot Tryz.func72 I Tryz.ntmps72 I λA w=>.sA 2 I<|.seq<|.seq<|.plain 29 I<|.A 2 I<|.p I (.len I U49 I)<|.A 2 I<|.jO 4 (decide (64<(t0.graphs.length:Int))) I (λb1=>?_) ?_
 ·refine .A 2 I<|.q I (.len I U50 I)<|.A 1 I<|.nil I
 refine .A 1 I<|.jO 4 (decide (1024<(t0.cases.length:Int))) I (λb2=>?_) ?_
 ·refine .A 2 I<|.q I (.len I U51 I)<|.A 1 I<|.nil I
 refine .A 1 I<|gK h λc4 h=>.jO 6 (!((zS n t0.box t0.rows).getD default)) I (λb3=>?_) ?_
 ·refine .A 4 I<|.q I (.call I (kC I) I (zfF _ _ _ _ (someD (impF c4 b3))))<|.A 1 I<|.nil I
 refine .A 1 I<|gK h λc6 h=>.jO 3 (((zbW n t0.box).getD default)) I (λb5=>?_) ?_
 ·refine .A 2 I<|.q I (.call I (kC I) I (ref17_Empty_ok _ _ _ (someD (impF c6 b5))))<|.nil I
 refine .nil<|.nil<|.K [1,35] I<|.condS I h (λh=>?_) λh=>?_
 ·refine .sA 1 I<|.ret (rO h I)
 ·refine .skip<|.seq<|.sA 1 I<|.block<|.L [1] h (λv=>[(3,.d (.int v))]) (λv=>[]) I λ_ x17 h=>.seq<|.S 3 I<|.p I (.len I U51 I)<|.A 1 I<|.nil<|.K [1,3,40] I<|.condS I h (λh=>?_) λh=>?_
  ·refine .skip<|.seq<|.block<|.seq<|.draw 18 Hm (by kernel_rfl) (by kernel_rfl)<|.A 3 I<|.X h I λx19 h=>.A 1 I<|.p I (.len I U49 I)<|.A 2 I<|gK h λc21 h=>gK h λc22 h=>.jO 9 (!((zS n t0.box ((idx t0.cases x17).getD default)).getD default)) I (λb20=>?_) ?_
   ·refine .A 5 I<|.q I (.ix I U51 S49 (someD (impF c21 b20)))<|.A 1 I<|.q I (.call I (kC I) I (zfF _ _ _ _ (someD (impF c22 b20))))<|.A 1 I<|.nil I
   refine .nil<|.nil<|.K [1,3,60] I<|.condS I h (λh=>?_) λh=>?_
   ·refine .sA 1 I<|.ret (rO h I)
   ·refine .skip<|.rA 3 I (ndE h I)
  ·refine .exit<|.seq<|.sA 1 I<|.block<|.L [1] h (λv=>[(4,.d (.int v))]) (λv=>[]) I λ_ x61 h=>.seq<|.S 3 I<|.p I (.len I U50 I)<|.A 1 I<|.nil<|.K [1,4,65] I<|.condS I h (λh=>?_) λh=>?_
   ·refine .skip<|.seq<|.block<|.S 3 I<|.X h I λx63 h=>.A 1 I<|.allocStore I I I I I I I I (by simp) I I Z99<|.nil<|.seq<|.seq<|.plain 38 I<|.A 4 I<|.jO 3 (decide (6<x63.size)) I (λb64=>?_) ?_
    ·refine .A 3 I<|.nil I
    refine .A 1 I<|.jO 3 (decide (x63.first<0)) I (λb65=>?_) ?_
    ·refine .A 3 I<|.nil I
    refine .A 1 I<|.jO 12 (decide (sub64 (t0.box.length:Int) (mul64 x63.size x63.size)<x63.first)) I (λb66=>?_) ?_
    ·refine .A 4 I<|.q I (.len I U48 I)<|.A 7 I<|.nil I
    refine .A 1 I<|.jO 9 ((x63.least.length:Int) != (mul64 x63.size x63.size)) I (λb67=>?_) ?_
    ·refine .A 2 I<|.q I (.len I U22 I)<|.A 6 I<|.nil I
    refine .nil<|.nil<|.K [1,4,5,110] I<|.condS I h (λh=>?_) λh=>?_
    ·refine .sA 1 I<|.ret (rO h I)
    ·refine .skip<|.sA 1 I<|.block<|.L [1,4,5] h (λv=>[(6,.d (.int v))]) (λv=>[]) I λ_ x76 h=>.seq<|.S 3 I<|.p I (.len I U22 I)<|.A 1 I<|.nil<|.K [1,4,5,6,115] I<|.condS I h (λh=>?_) λh=>?_
     ·refine .skip<|.seq<|.block<|.seq<|.plain 14 I<|.A 3 I<|.X h I λx78 h=>.A 3 I<|gK h λc80 h=>.jO 6 (decide (4000000<((idx x63.least x76).getD default))) I (λb79=>?_) ?_
      ·refine .A 3 I<|.q I (.ix I U22 S3 (someD (impF c80 b79)))<|.A 2 I<|.nil I
      refine .nil<|.nil<|.condS I h (λh=>?_) λh=>?_
      ·refine .sA 1 I<|.ret (rO h I)
      ·refine .skip<|.rA 3 I (ndE h I)
     ·refine .exit<|.rA 3 I (ndE h I)
   ·refine .exit<|.sA 1 I<|.ret (rO h I)
theorem zf5 (n t0 t1 r) (h:zax n t0 t1=some r):Pure pg 78 [eK t0,eA t1] (.bool r):=by
 refine Pure.ot Tryz.func78 I Tryz.ntmps78 I λA w=>.sA 1 I<|.seq<|.S 1 I<|.p I (.len I U48 I)<|.A 1 I<|.p I (.len I U22 I)<|.A 1 I<|.nil<|.condS I h (λh=>?_) λh=>?_
 ·refine .sA 1 I<|.ret (rO h I)
 ·refine .skip<|.seq<|.sA 1 I<|.block<|.L [0,1] h (λv=>[(5,.d (.int v))]) (λv=>[]) I λ_ x11 h=>.seq<|.S 2 I<|.p I (.len I U48 I)<|.A 1 I<|.nil<|.K [0,1,5,14] I<|.condS I h (λh=>?_) λh=>?_
  ·refine .skip<|.seq<|.block<|.seq<|.draw 16 Hm (by kernel_rfl) (by kernel_rfl)<|.A 2 I<|.X h I λx13 h=>.A 3 I<|.X h I λx14 h=>.A 4 I<|.X h I λx15 h=>.A 2 I<|.Z h I (zcW _ _ _ _) λx16 h=>.A 1 I<|.nil<|.nil<|.K [0,1,5,32] I<|.condS I h (λh=>?_) λh=>?_
   ·refine .sA 1 I<|.ret (rO h I)
   ·refine .skip<|.rA 3 I (ndE h I)
  ·refine .exit<|.sA 1 I<|.ret (rO h I)
theorem ref18_right_ok (n t0 t1 r) (h:zbX n t0 t1=some r):Pure pg 128 [System.enc t0,eA t1] (.bool r):=by
 refine Pure.ot Tryz.func128 I Tryz.ntmps128 I λA w=>.sA 2 I<|.seq<|.seq<|.plain 11 I<|.A 1 I<|.Z h I (ref18_Valid_ok _ _) λx1 h=>.A 2 I<|.jO 6 ((t1.length:Int) != (t0.box.length:Int)) I (λb2=>?_) ?_
 ·refine .A 1 I<|.q I (.len I U22 I)<|.A 2 I<|.q I (.len I U48 I)<|.A 1 I<|.nil I
 refine .nil<|.nil<|.condS I h (λh=>?_) λh=>?_
 ·refine .sA 1 I<|.ret (rO h I)
 ·refine .skip<|.seq<|.sA 1 I<|.block<|.L [1] h (λv=>[(5,.d (.int v))]) (λv=>[]) I λ_ x11 h=>.seq<|.S 2 I<|.p I (.len I U22 I)<|.A 1 I<|.nil<|.K [1,5,20] I<|.condS I h (λh=>?_) λh=>?_
  ·refine .skip<|.seq<|.block<|.seq<|.plain 12 I<|.A 2 I<|.X h I λx13 h=>.A 3 I<|gK h λc15 h=>.jO 5 (decide (4000000<((idx t1 x11).getD default))) I (λb14=>?_) ?_
   ·refine .A 2 I<|.q I (.ix I U22 S3 (someD (impF c15 b14)))<|.A 2 I<|.nil I
   refine .nil<|.nil<|.condS I h (λh=>?_) λh=>?_
   ·refine .sA 1 I<|.ret (rO h I)
   ·refine .skip<|.rA 3 I (ndE h I)
  ·refine .exit<|.sA 1 I<|.ret (rO h I)
theorem ref17_Value_ok (n t0 t1 r) (h:zaR n t0 t1=some r):Pure pg 129 [Row.enc t0,eA t1] (.int r):=by
 refine Pure.ot Tryz.func129 I Tryz.ntmps129 I λA w=>.sA 2 I<|.sA 1 I<|.seq<|.sA 1 I<|.block<|.L [1,2] h (λv=>[(5,.d (.int v.1)),(6,.d (.int v.2))]) (λv=>[]) I λ_ ⟨x11,x12⟩ h=>.seq<|.S 3 I<|.p I (.len I U31 I)<|.A 1 I<|.nil<|.K [1,2,5,6,11] I<|.condS I h (λh=>?_) λh=>?_
 ·refine .skip<|.seq<|.block<|.draw 19 Hm (by kernel_rfl) (by kernel_rfl)<|.A 4 I<|.X h I λx14 h=>.A 6 I<|.X h I λx15 h=>.A 2 I<|.X h I λx16 h=>.A 4 I<|.nil<|.nil<|.K [1,2,5,6] I<|.rA 3 I (ndE h I)
 ·refine .exit<|.sA 2 I<|.ret (rO h I)
theorem ref18_Edges_ok (n t0 t1 r) (h:za6 n t0 t1=some r):Pure pg 131 [Graph.enc t0,eA t1] (eJ r):=by
 refine Pure.ot Tryz.func131 I Tryz.ntmps131 I λA w=>.S 1 I<|.p I (.nilS 1 (α:=Bool) D.bool I)<|.nil<|.sr<|.buildVec [] I I I I I E144 I (λ_=>I) I (enc:=D.bool)<|.A 1 I<|.nil<|.seq<|.sA 1 I<|.block<|.L [1,2] h (λv=>[(5,.vec 0 (List.length v.1)),(6,.d (.int v.2))]) (λv=>[(0,.vec 4 1 (List.map D.bool v.1))]) I λ_ ⟨b0_11,x12⟩ h=>.seq<|.sA 7 I<|.K [1,2,5,6,14] I<|.condS I h (λh=>?_) λh=>?_
 ·refine .skip<|.seq<|.block<|.draw 15 Hm (by kernel_rfl) (by kernel_rfl)<|.A 6 I<|.X h I λx14 h=>.A 4 I<|.X h I λx15 h=>.A 2 I<|.p I (.buildSl [_] I I E144 I (λ_=>I) I (enc:=D.bool))<|.nil<|bK h λx16 q16 h=>.app I I I I I I I I E144 I (λ_=>I) q16<|.A 1 I<|.nil<|.K [1,2,5,6] I<|.rA 3 I (ndE h I)
 ·refine .exit<|.sA 2 I<|.ret ?_
  cases h
  exact zb8 I (.vec I (by simp))
theorem ref18_Acyclic_ok (n t0 t1 r) (h:zd n t0 t1=some r):Pure pg 130 [.int t0,eJ t1] (.bool r):=by
 refine Pure.ot Tryz.func130 I Tryz.ntmps130 I λA w=>.sA 1 I<|.sr<|.buildVec [] I I I I I E144 I (λ_=>I) I (enc:=D.bool)<|.A 1 I<|.nil<|.seq<|.sA 1 I<|.block<|.L [0,1] h (λv=>[(5,.vec 0 (List.length v.1)),(6,.d (.int v.2))]) (λv=>[(0,.vec 4 1 (List.map D.bool v.1))]) I λ_ ⟨b0_7,x8⟩ h=>.seq<|.sA 3 I<|.K [0,1,5,6,15] I<|.condS I h (λh=>?_) λh=>?_
 ·refine .skip<|.seq<|.block<|.region<|.A 1 I<|.p I (.buildSl [_] I I E144 I (λ_=>I) I (enc:=D.bool))<|bK h λx10 q10 h=>.app I I I I I I I I E144 I (λ_=>I) q10<|.A 1 I<|.nil<|.rA 3 I (ndE h I)
 ·refine .exit<|.seq<|.sA 1 I<|.block<|.L [0,1] h (λv=>[(5,.vec 0 (List.length v.1)),(7,.d (.int v.2))]) (λv=>[(0,.vec 4 1 (List.map D.bool v.1))]) I λ_ ⟨b0_185,x186⟩ h=>.seq<|.sA 3 I<|.K [0,1,5,7,23] I<|.condS I h (λh=>?_) λh=>?_
  ·refine .skip<|.seq<|.block<|.sA 1 I<|.block<|.L [0,1,7] h (λv=>[(5,.vec 0 (List.length v.1)),(8,.d (.int v.2))]) (λv=>[(0,.vec 4 1 (List.map D.bool v.1))]) I λ_ ⟨b0_244,x245⟩ h=>.seq<|.sA 3 I<|.K [0,1,5,7,8,28] I<|.condS I h (λh=>?_) λh=>?_
   ·refine .skip<|.J [0,1,7,8] h (λv=>[(5,.vec 0 (List.length v))]) (λv=>[(0,.vec 4 1 (List.map D.bool v))]) I (λk_248 h=>?_) (λb0_247 h=>?_)
    ·refine .block<|.sA 1 I<|.seq<|.sA 1 I<|.block<|.L [0,1,5,7,8] h (λv=>[(9,.d (.bool v.1)),(10,.d (.int v.2))]) (λv=>[]) I λ_ ⟨x263,x264⟩ h=>.seq<|.sA 3 I<|.condS I h (λh=>?_) λh=>?_
     ·refine .skip<|.J [0,1,5,7,8,10] h (λv=>[(9,.d (.bool v))]) (λv=>[]) I (λk_267 h=>?_) (λx266 h=>?_)
      ·refine .block<|.seq<|.plain 14 I<|.A 2 I<|bK h λx268 q268 h=>.p I (.idxV I I I I I U144 S4 q268)<|.p I (.loadEl I I I I q268 Y4 I)<|.A 1 I<|gK h λc270 h=>.jA 8 (((idx t1 (add64 (mul64 x264 t0) x245)).getD default)) I (λb269=>?_) ?_
       ·refine .A 6 I<|.q I (.ix I U144 S4 (someD (impT c270 b269)))<|.A 1 I<|.nil I
       refine .nil<|.nil<|.condS I h (λh=>?_) λh=>?_
       ·refine .rA 1 I (ndE h I)
       ·refine .skip (ndE h I)
      ·refine .rA 3 I (ndE h I)
     ·refine .exit<|.sA 1 I<|.condS I h (λh=>?_) λh=>?_
      ·refine .region<|.A 2 I<|bK h λx271 q271 h=>.p I (.idxV I I I I I U144 S4 q271)<|bK h λb0_272 hb0_272 h=>.storeEl (enc:=D.bool) I I I I I I I I I C4 hb0_272<|.relen 5 I (zdy hb0_272)<|.relen 51 I (zdy hb0_272)<|.nil (ndE h I)
      ·refine .skip (ndE h I)
    ·refine .rA 3 I (ndE h I)
   ·refine .exit<|.rA 3 I (ndE h I)
  ·refine .exit<|.seq<|.sA 1 I<|.block<|.L [0,5] h (λv=>[(11,.d (.int v))]) (λv=>[]) I λ_ x277 h=>.seq<|.sA 3 I<|.condS I h (λh=>?_) λh=>?_
   ·refine .skip<|.seq<|.block<|.S 2 I<|bK h λx279 q279 h=>.p I (.idxV I I I I I U144 S4 q279)<|.p I (.loadEl I I I I q279 Y4 I)<|.nil<|.condS I h (λh=>?_) λh=>?_
    ·refine .sA 1 I<|.ret (rO h I)
    ·refine .skip<|.rA 3 I (ndE h I)
   ·refine .exit<|.sA 1 I<|.ret (rO h I)
theorem ref18_Fails_ok (n t0 t1 r) (h:za7 n t0 t1=some r):Pure pg 79 [System.enc t0,eA t1] (.tup [eA r.1,eA r.2]):=by
 refine Pure.ot Tryz.func79 I Tryz.ntmps79 I λA w=>.S 1 I<|.p I (.nilS 1 (α:=Int) D.int I)<|.p I (.nilS 1 (α:=Int) D.int I)<|.nil<|.seq<|.S 2 I<|.Z h I (ref18_right_ok _ _ _) λx1 h=>.A 1 I<|.nil<|.condS I h (λh=>?_) λh=>?_
 ·refine .sr<|.p I (.nilS 1 (α:=Int) D.int I)<|.p I (.nilS 1 (α:=Int) D.int I)<|.nil<|.ret ?_
  cases h
  exact zcd I I (.d _) (.d _)
 ·refine .skip<|.sr<|.buildVec [] I I I I I E22 I (λ_=>I) I (enc:=D.int)<|.buildVec [] I I I I I E22 I (λ_=>I) I (enc:=D.int)<|.A 2 I<|.nil<|.seq<|.sA 1 I<|.block<|.L [1,2,7] h (λv=>[(6,.vec 0 (List.length v.1)),(8,.d (.int v.2))]) (λv=>[(0,.vec 3 1 (List.map D.int v.1))]) I λ_ ⟨b0_18,x19⟩ h=>.seq<|.S 3 I<|.p I (.len I U49 I)<|.A 1 I<|.nil<|.K [1,2,6,7,8,20] I<|.condS I h (λh=>?_) λh=>?_
  ·refine .skip<|.J [1,2,7,8] h (λv=>[(6,.vec 0 (List.length v))]) (λv=>[(0,.vec 3 1 (List.map D.int v))]) I (λk_22 h=>?_) (λb0_21 h=>?_)
   ·refine .block<|.seq<|.draw 14 Hm (by kernel_rfl) (by kernel_rfl)<|.A 3 I<|.X h I λx23 h=>.A 2 I<|.Z h I (ref17_Value_ok _ _ _) λx24 h=>.A 3 I<|.X h I λx25 h=>.A 3 I<|.nil<|.nil<|.condS I h (λh=>?_) λh=>?_
    ·refine .region<|.A 2 I<|.p I (.buildSl [_] I I E22 I (λ_=>I) I (enc:=D.int))<|bK h λx26 q26 h=>.app I I I I I I I I E22 I (λ_=>I) q26<|.A 1 I<|.nil (ndE h I)
    ·refine .skip (ndE h I)
   ·refine .rA 3 I (ndE h I)
  ·refine .exit<|.seq<|.sA 1 I<|.block<|.L [1,2,6] h (λv=>[(7,.vec 1 (List.length v.1)),(9,.d (.int v.2))]) (λv=>[(1,.vec 3 1 (List.map D.int v.1))]) I λ_ ⟨b1_45,x46⟩ h=>.seq<|.S 3 I<|.p I (.len I U50 I)<|.A 1 I<|.nil<|.K [1,2,6,7,9,45] I<|.condS I h (λh=>?_) λh=>?_
   ·refine .skip<|.J [1,2,6,9] h (λv=>[(7,.vec 1 (List.length v))]) (λv=>[(1,.vec 3 1 (List.map D.int v))]) I (λk_49 h=>?_) (λb1_48 h=>?_)
    ·refine .block<|.seq<|.draw 15 Hm (by kernel_rfl) (by kernel_rfl)<|.A 3 I<|.X h I λx50 h=>.A 5 I<|.X h I λx51 h=>.A 2 I<|.Z h I (ref18_Edges_ok _ _ _) λx52 h=>.Z h I (ref18_Acyclic_ok _ _ _) λx53 h=>.A 1 I<|.nil<|.nil<|.condS I h (λh=>?_) λh=>?_
     ·refine .region<|.A 2 I<|.p I (.buildSl [_] I I E22 I (λ_=>I) I (enc:=D.int))<|bK h λx54 q54 h=>.app I I I I I I I I E22 I (λ_=>I) q54<|.A 1 I<|.nil (ndE h I)
     ·refine .skip (ndE h I)
    ·refine .rA 3 I (ndE h I)
   ·refine .exit<|.sA 4 I<|.ret ?_
    cases h
    exact zcd I I (.vec I (by simp)) (.vec I (by simp))
theorem ref18_Case_ok (n t0 t1 r) (h:zbF n t0 t1=some r):Pure pg 80 [System.enc t0,eA t1] (.tup [.int r.1,.bool r.2]):=by
 refine Pure.ot Tryz.func80 I Tryz.ntmps80 I λA w=>.sA 3 I<|.seq<|.S 2 I<|.Z h I (ref18_right_ok _ _ _) λx1 h=>.A 1 I<|.nil<|.condS I h (λh=>?_) λh=>?_
 ·refine .sA 2 I<|.ret ?_
  cases h
  exact zcd I I (.d _) (.d _)
 ·refine .skip<|.seq<|.sA 1 I<|.block<|.L [1,2] h (λv=>[(6,.d (.int v))]) (λv=>[]) I λ_ x66 h=>.seq<|.S 3 I<|.p I (.len I U51 I)<|.A 1 I<|.nil<|.K [1,2,6,17] I<|.condS I h (λh=>?_) λh=>?_
  ·refine .skip<|.seq<|.block<|.sA 1 I<|.seq<|.sA 1 I<|.block<|.L [1,2,6] h (λv=>[(7,.d (.bool v.1)),(8,.d (.int v.2))]) (λv=>[]) I λ_ ⟨x88,x89⟩ h=>.seq<|.S 4 I<|.X h I λx91 h=>.A 1 I<|.p I (.len I U49 I)<|.A 1 I<|.nil<|.K [1,2,6,7,8,27] I<|.condS I h (λh=>?_) λh=>?_
   ·refine .skip<|.J [1,2,6,8] h (λv=>[(7,.d (.bool v))]) (λv=>[]) I (λk_93 h=>?_) (λx92 h=>?_)
    ·refine .block<|.seq<|.draw 20 Hm (by kernel_rfl) (by kernel_rfl)<|.A 3 I<|.X h I λx94 h=>.A 2 I<|.X h I λx95 h=>.A 2 I<|.Z h I (ref17_Value_ok _ _ _) λx96 h=>.A 3 I<|.X h I λx97 h=>.A 2 I<|.X h I λx98 h=>.A 3 I<|.nil<|.nil<|.K [1,2,6,7,8,49] I<|.condS I h (λh=>?_) λh=>?_
     ·refine .rA 1 I (ndE h I)
     ·refine .skip (ndE h I)
    ·refine .rA 3 I (ndE h I)
   ·refine .exit<|.sA 1 I<|.condS I h (λh=>?_) λh=>?_
    ·refine .sA 3 I<|.ret ?_
     cases h
     exact zcd I I (.d _) (.d _)
    ·refine .skip<|.rA 3 I (ndE h I)
  ·refine .exit<|.sA 2 I<|.ret ?_
   cases h
   exact zcd I I (.d _) (.d _)
theorem ref18_Holds_ok (n t0 t1 r) (h:ze6 n t0 t1=some r):Pure pg 25 [System.enc t0,eA t1] (.bool r):=by
 refine Pure.ot Tryz.func25 I Tryz.ntmps25 I λA w=>.sA 2 I<|.seq<|.seq<|.plain 10 I<|.A 1 I<|.Z h I (ref18_Valid_ok _ _) λx1 h=>.A 2 I<|gK h λc3 h=>.jO 5 (!((zax n t0.box t1).getD default)) I (λb2=>?_) ?_
 ·refine .A 3 I<|.q I (.call I (kC I) I (zf5 _ _ _ _ (someD (impF c3 b2))))<|.A 1 I<|.nil I
 refine .nil<|.nil<|.condS I h (λh=>?_) λh=>?_
 ·refine .sA 1 I<|.ret (rO h I)
 ·refine .skip<|.S 2 I<|.Z h I (ref18_Fails_ok _ _ _) λx4 h=>.A 1 I<|.p I (.extract I I I)<|.p I (.extract I I I)<|.A 2 I<|.nil<|.K [1,2,5,6] I<|.S 2 I<|.Z h I (ref18_Case_ok _ _ _) λx5 h=>.A 1 I<|.p I (.extract I I I)<|.p I (.extract I I I)<|.A 2 I<|.nil<|.seq<|.plain 17 I<|.A 1 I<|.p I (.len I U22 I)<|.A 2 I<|.jA 3 ((x4.2.length:Int)==0) I (λb6=>?_) ?_
  ·refine .A 1 I<|.q I (.len I U22 I)<|.A 1 I<|.nil I
  refine .A 1 I<|.jA 7 (((t0.cases.length:Int)==0)||x5.2) I (λb7=>?_) ?_
  ·refine .A 2 I<|.q I (.len I U51 I)<|.A 2 I<|.jOr 1 (b2:=x5.2) I I I I (.inr ⟨_,_,_,I,I,I⟩) (λ_ _ _ h1 h2=>by cases h1;cases h2;decide) I I (λb8=>?_) ?_
   ·refine .A 1 I<|.nil I
   exact .nil I
  refine .nil<|.A 1 I<|.nil<|.K [4] I<|.ret (rO h I)
theorem ref16_Total_ok (n t0 r) (h:zbV n t0=some r):Pure pg 81 [Model.enc t0] (.int r):=by
 refine Pure.ot Tryz.func81 I Tryz.ntmps81 I λA w=>.sA 2 I<|.sA 1 I<|.seq<|.sA 1 I<|.block<|.L [1] h (λv=>[(3,.d (.int v.1)),(4,.d (.int v.2))]) (λv=>[]) I λ_ ⟨x17,x18⟩ h=>.seq<|.S 3 I<|.p I (.len I U23 I)<|.A 1 I<|.nil<|.K [1,3,4,9] I<|.condS I h (λh=>?_) λh=>?_
 ·refine .skip<|.J [1,4] h (λv=>[(3,.d (.int v))]) (λv=>[]) I (λk_21 h=>?_) (λx20 h=>?_)
  ·refine .block<|.S 3 I<|.X h I λx22 h=>.A 2 I<|.Z h I (ze5 _ _) λx23 h=>.nil<|.condS I h (λh=>?_) λh=>?_
   ·refine .draw 10 Hm (by kernel_rfl) (by kernel_rfl)<|.A 5 I<|.X h I λx24 h=>.A 1 I<|.Z h I (zfE _ _ _) λx25 h=>.A 2 I<|.nil<|.nil (ndE h I)
   ·refine .skip (ndE h I)
  ·refine .rA 3 I (ndE h I)
 ·refine .exit<|.sA 2 I<|.ret (rO h I)
theorem ref17_Least_ok (n t0 r) (h:zcA n t0=some r):Pure pg 76 [eK t0] (eA r):=by
 refine Pure.ot Tryz.func76 I Tryz.ntmps76 I λA w=>.sr<|.p I (.nilS 1 (α:=Int) D.int I)<|.nil<|.sr<|.buildVec [] I I I I I E22 I (λ_=>I) I (enc:=D.int)<|.A 1 I<|.nil<|.seq<|.sA 1 I<|.block<|.L [0] h (λv=>[(3,.vec 0 (List.length v.1)),(4,.d (.int v.2))]) (λv=>[(0,.vec 3 1 (List.map D.int v.1))]) I λ_ ⟨b0_9,x10⟩ h=>.seq<|.S 2 I<|.p I (.len I U48 I)<|.A 1 I<|.nil<|.K [0,3,4,9] I<|.condS I h (λh=>?_) λh=>?_
 ·refine .skip<|.seq<|.block<|.region<|.A 3 I<|.X h I λx12 h=>.A 2 I<|.p I (.buildSl [_] I I E22 I (λ_=>I) I (enc:=D.int))<|bK h λx13 q13 h=>.app I I I I I I I I E22 I (λ_=>I) q13<|.A 1 I<|.nil<|.rA 3 I (ndE h I)
 ·refine .exit<|.sA 2 I<|.ret ?_
  cases h
  exact zb8 I (.vec I (by simp))
theorem ref17_Next_ok (n t0 t1 r) (h:zbR n t0 t1=some r):Pure pg 77 [eK t0,eA t1] (.tup [eA r.1,.bool r.2]):=by
 refine Pure.ot Tryz.func77 I Tryz.ntmps77 I λA w=>.sr<|.p I (.nilS 1 (α:=Int) D.int I)<|.A 1 I<|.nil<|.seq<|.seq<|.plain 9 I<|.A 1 I<|bK h λx1 q1 h=>.p I (.callLe I (kC I) I (.e .o1) (zfF _ _ _ _ q1))<|.A 2 I<|gK h λc3 h=>.jO 4 (!((zax n t0 t1).getD default)) I (λb2=>?_) ?_
 ·refine .A 2 I<|.q I (.call I (kC I) I (zf5 _ _ _ _ (someD (impF c3 b2))))<|.A 1 I<|.nil I
 refine .nil<|.nil<|.condS I h (λh=>?_) λh=>?_
 ·refine .sr<|.p I (.nilS 1 (α:=Int) D.int I)<|.A 1 I<|.nil<|.ret ?_
  cases h
  exact zcd I I (.d _) (.d _)
 ·refine .skip<|.seq<|.S 1 I<|.p I (.len I U48 I)<|.A 2 I<|.nil<|.block<|.L [0,1] h (λv=>[(6,.d (.int v))]) (λv=>[]) I λ_ x72 h=>.seq<|.sA 2 I<|.condS I h (λh=>?_) λh=>?_
  ·refine .skip<|.seq<|.block<|.seq<|.draw 10 Hm (by kernel_rfl) (by kernel_rfl)<|.A 2 I<|.X h I λx74 h=>.A 3 I<|.X h I λx75 h=>.A 3 I<|.nil<|.nil<|.condS I h (λh=>?_) λh=>?_
   ·refine .sr<|.buildVec [] I I I I I E22 I (λ_=>I) I (enc:=D.int)<|.A 1 I<|.nil<|.seq<|.sA 1 I<|.block<|.L [0,1,6] h (λv=>[(7,.vec 0 (List.length v.1)),(8,.d (.int v.2))]) (λv=>[(0,.vec 3 1 (List.map D.int v.1))]) I λ_ ⟨b0_96,x97⟩ h=>.seq<|.S 2 I<|.p I (.len I U48 I)<|.A 1 I<|.nil<|.K [0,1,6,7,8,39] I<|.condS I h (λh=>?_) λh=>?_
    ·refine .skip<|.J [0,1,6,8] h (λv=>[(7,.vec 0 (List.length v))]) (λv=>[(0,.vec 3 1 (List.map D.int v))]) I (λk_100 h=>?_) (λb0_99 h=>?_)
     ·refine .block<|.block<|.sA 4 I<|.condS I h (λh=>?_) λh=>?_
      ·refine .region<|.A 3 I<|.X h I λx101 h=>.A 1 I<|.p I (.buildSl [_] I I E22 I (λ_=>I) I (enc:=D.int))<|bK h λx102 q102 h=>.app I I I I I I I I E22 I (λ_=>I) q102<|.A 1 I<|.nil (ndE h I)
      ·refine .sA 4 I<|.condS I h (λh=>?_) λh=>?_
       ·refine .region<|.A 3 I<|.X h I λx103 h=>.A 2 I<|.p I (.buildSl [_] I I E22 I (λ_=>I) I (enc:=D.int))<|bK h λx104 q104 h=>.app I I I I I I I I E22 I (λ_=>I) q104<|.A 1 I<|.nil (ndE h I)
       ·refine .region<|.A 3 I<|.X h I λx105 h=>.A 2 I<|.p I (.buildSl [_] I I E22 I (λ_=>I) I (enc:=D.int))<|bK h λx106 q106 h=>.app I I I I I I I I E22 I (λ_=>I) q106<|.A 1 I<|.nil (ndE h I)
     ·refine .rA 3 I (ndE h I)
    ·refine .exit<|.sA 3 I<|.ret ?_
     cases h
     exact zcd I I (.vec I (by simp)) (.d _)
   ·refine .skip<|.rA 3 I (ndE h I)
  ·refine .exit<|.sr<|.p I (.nilS 1 (α:=Int) D.int I)<|.A 1 I<|.nil<|.ret ?_
   cases h
   exact zcd I I (.d _) (.d _)
theorem law22_states_ok (n t0) (t1:(List Int)→Option Bool) (F1:D) (hF1:∀ (q0:List Int) (y:Bool),t1 q0=some y→Dyn pg F1 [eA q0] (.bool y)) (r) (h:za9 n t0 t1=some r):Pure pg 23 [Model.enc t0,F1] (.bool r):=by
 refine Pure.ot Tryz.func23 I Tryz.ntmps23 I λA w=>.sA 2 I<|.S 1 I<|.Z h I (ref22_Box_ok _ _) λx1 h=>.A 1 I<|.nil<|.S 1 I<|.Z h I (ref17_Least_ok _ _) λx2 h=>.A 2 I<|.nil<|.seq<|.block<|.L [1,5] h (λv=>[(6,.d (eA v.1)),(7,.d (.bool v.2))]) (λv=>[]) I λ_ ⟨x11,x12⟩ h=>.seq<|.sA 1 I<|.condS I h (λh=>?_) λh=>?_
 ·refine .skip<|.block<|.seq<|.S 2 I<|bK h λx14 q14 h=>.p I (.dyn I I I (hF1 _ _ q14))<|.A 1 I<|.nil<|.condS I h (λh=>?_) λh=>?_
  ·refine .sA 1 I<|.ret (rO h I)
  ·refine .skip<|.region<|.A 2 I<|.Z h I (ref17_Next_ok _ _ _) λx15 h=>.A 1 I<|.p I (.extract I I I)<|.p I (.extract I I I)<|.A 2 I<|.nil (ndE h I)
 ·refine .exit<|.sA 1 I<|.ret (rO h I)
theorem zeG (n t0 t1 r) (h:zea n t0 t1=some r):Pure pg 87 [Model.enc t0,Swap.enc t1] (.bool r):=by
 refine Pure.ot Tryz.func87 I Tryz.ntmps87 I λA w=>.sA 3 I<|.seq<|.draw 39 Hm (by kernel_rfl) (by kernel_rfl)<|.A 1 I<|.Z h I (ref13_Valid_ok _ _) λx1 h=>.A 1 I<|.jA 3 (decide (0≤t1.sort)) I (λb2=>?_) ?_
 ·refine .A 3 I<|.nil I
 refine .A 1 I<|.jA 6 (decide (t1.sort<(t0.sorts.length:Int))) I (λb3=>?_) ?_
 ·refine .A 4 I<|.q I (.len I U22 I)<|.A 1 I<|.nil I
 refine .A 1 I<|.jA 3 (decide (0≤t1.a)) I (λb4=>?_) ?_
 ·refine .A 3 I<|.nil I
 refine .A 1 I<|.jA 5 (decide (t1.a<t1.b)) I (λb5=>?_) ?_
 ·refine .A 5 I<|.nil I
 refine .A 1 I<|gK h λc7 h=>.jA 9 (decide (t1.b<((idx t0.sorts t1.sort).getD default))) I (λb6=>?_) ?_
 ·refine .A 6 I<|.q I (.ix I U22 S3 (someD (impT c7 b6)))<|.A 2 I<|.nil I
 refine .A 1 I<|.nil<|.nil<|.K [4] I<|.ret (rO h I)
theorem zgD (n t0 t1 r) (h:zc8 n t0 t1=some r):Pure pg 138 [Swap.enc t0,.int t1] (.int r):=by
 refine Pure.ot Tryz.func138 I Tryz.ntmps138 I λA w=>.sA 2 I<|.seq<|.sA 1 I<|.block<|.sA 4 I<|.condS I h (λh=>?_) λh=>?_
 ·refine .sA 3 I<|.ret (rO h I)
 ·refine .sA 4 I<|.condS I h (λh=>?_) λh=>?_
  ·refine .sA 3 I<|.ret (rO h I)
  ·refine .skip<|.sA 2 I<|.ret (rO h I)
theorem zeH (n t0 t1 t2 t3 r) (h:zaM n t0 t1 t2 t3=some r):Pure pg 91 [Model.enc t0,Swap.enc t1,.int t2,.bool t3] (.int r):=by
 refine Pure.ot Tryz.func91 I Tryz.ntmps91 I λA w=>.sA 3 I<|.seq<|.sA 1 I<|.block<|.L [2,3,4,5] h (λv=>[(9,.d (.int v))]) (λv=>[]) I λ_ x87 h=>.seq<|.S 3 I<|.p I (.len I U23 I)<|.A 1 I<|.nil<|.K [2,3,4,5,9,21] I<|.condS I h (λh=>?_) λh=>?_
 ·refine .skip<|.seq<|.block<|.S 3 I<|.X h I λx89 h=>.A 1 I<|.allocStore I I I I I I I I (by simp) I I Z127<|.nil<|.sA 5 I<|.seq<|.seq<|.plain 16 I<|.A 2 I<|.Z h I (ze5 _ _) λx90 h=>.A 1 I<|.p I (.bne I U4 I I)<|.A 1 I<|.jO 2 (decide (sub64 t2 x89.first<0)) I (λb91=>?_) ?_
  ·refine .A 2 I<|.nil I
  refine .A 1 I<|gK h λc93 h=>.jO 5 (decide (((zbs n t0 x89).getD default)≤sub64 t2 x89.first)) I (λb92=>?_) ?_
  ·refine .A 3 I<|.q I (.call I (kC I) I (zfE _ _ _ _ (someD (impF c93 b92))))<|.A 1 I<|.nil I
  refine .nil<|.nil<|.K [2,3,4,5,9,10,11,48] I<|.condS I h (λh=>?_) λh=>?_
  ·refine .exit<|.rA 3 I (ndE h I)
  ·refine .skip<|.sA 1 I<|.sA 1 I<|.seq<|.S 2 I<|.p I (.len I U22 I)<|.A 2 I<|.nil<|.block<|.L [4,5,10] h (λv=>[(11,.d (.int v.1)),(12,.d (.int v.2.1)),(13,.d (.int v.2.2.1)),(14,.d (.int v.2.2.2))]) (λv=>[]) I λ_ ⟨x118,x119,x120,x121⟩ h=>.seq<|.sA 2 I<|.condS I h (λh=>?_) λh=>?_
   ·refine .skip<|.seq<|.block<|.seq<|.draw 10 Hm (by kernel_rfl) (by kernel_rfl)<|.A 5 I<|.X h I λx123 h=>.A 1 I<|.X h I λx124 h=>.A 2 I<|.nil<|.nil<|.S 2 I<|bK h λx125 q125 h=>.p I (.rem6 I I I q125)<|.A 1 I<|.nil<|.J [4,5,10,11,12,13,14,15] h (λv=>[(16,.d (.int v))]) (λv=>[]) I (λk_127 h=>?_) (λx126 h=>?_)
    ·refine .seq<|.draw 8 Hm (by kernel_rfl) (by kernel_rfl)<|.A 3 I<|.X h I λx128 h=>.A 4 I<|.nil<|.nil<|.K [4,5,10,11,12,13,14,15,16,76] I<|.condS I h (λh=>?_) λh=>?_
     ·refine .region<|.A 2 I<|.Z h I (zgD _ _ _) λx129 h=>.A 1 I<|.nil (ndE h I)
     ·refine .skip (ndE h I)
    ·refine .sA 6 I<|.K [4,5,10,11,12,13,14,15] I<|.sA 4 I<|.region<|.A 2 I<|bK h λx130 q130 h=>.p I (.quo6 I I I q130)<|.A 1 I<|.nil<|.rA 3 I (ndE h I)
   ·refine .exit<|.sA 5 I<|.ret (rO h I)
 ·refine .exit<|.sA 1 I<|.ret (rO h I)
theorem ref16_row_ok (n t0 t1 t2 r) (h:zbH n t0 t1 t2=some r):Pure pg 134 [Model.enc t0,Swap.enc t1,Row.enc t2] (Row.enc r):=by
 refine Pure.ot Tryz.func134 I Tryz.ntmps134 I λA w=>.S 3 I<|.allocZ I I I I (.agg Zc33 (ds':=[eL [],.int 0]) (.o .e1)) I<|.nil<|.S 2 I<|.p I (.castD (Row.enc (⟨[],t2.bound⟩:Row)) I (.build I Pl33 (.agg Zc33 (ds':=[eL [],_]) (.o .e1)) I I))<|.allocZ I I I I (.agg Zc33 (ds':=[eL [],.int 0]) (.o .e1)) I<|.store I I I I I I (.ofD I) C33 I (yh I)<|.nil<|.seq<|.sA 1 I<|.block<|.L [3,4,5,6,7] h (λv=>[(8,.d (.int v.2))]) (λv=>[(1,.box 33 [.d (eL v.1),.d (.int t2.bound)])]) I λ_ ⟨c1_0_85,x86⟩ h=>.seq<|.S 3 I<|.p I (.len I U31 I)<|.A 1 I<|.nil<|.K [3,4,5,6,7,8,20] I<|.condS I h (λh=>?_) λh=>?_
 ·refine .skip<|.seq<|.block<|.seq<|.draw 18 Hm (by kernel_rfl) (by kernel_rfl)<|.A 5 I<|.X h I λx88 h=>.A 2 I<|.Z h I (zeH _ _ _ _ _) λx89 h=>.A 3 I<|.X h I λx90 h=>.A 2 I<|.p I (.castD (Term.enc (⟨x89,x90.factor⟩:Term)) I (.build I Pl41 (.agg Zc41 (ds':=[_,_]) (.e .e1)) I I))<|.alloc I I I I ZZ41<|.store I I I I I I Z41<|.nil<|.freezes [2] (.cons (t:=9) (d:=.ref (Term.enc (⟨x89,x90.factor⟩:Term))) I (.loc (inIds I) I (.v .v1)) .nil)<|.nil<|.K [3,4,5,6,7,8,9] I<|.sr<|.buildVec [] I I I I I E31 I (λ_=>I) I (enc:=Term.enc)<|.A 1 I<|.nil<|.sA 1 I<|.seq<|.sA 1 I<|.block<|.L [3,4,5,6,7,8,9] h (λv=>[(10,.vec 3 (List.length v.1)),(11,.d (.bool v.2.1)),(12,.d (.int v.2.2))]) (λv=>[(3,.vec 41 2 (List.map Term.enc v.1))]) I λ_ ⟨b3_113,x114,x115⟩ h=>.seq<|.S 1 I<|.p I (.fieldAddrLoc I I I F33_0)<|.p I (.loadLoc1 I I I Y31 I)<|.p I (.len I U31 I)<|.A 1 I<|.nil<|.K [3,4,5,6,7,8,9,10,11,12,44] I<|.condS I h (λh=>?_) λh=>?_
  ·refine .skip<|.seq<|.block<|.J [3,4,5,6,7,8,9,12] h (λv=>[(10,.vec 3 (List.length v.1)),(11,.d (.bool v.2))]) (λv=>[(3,.vec 41 2 (List.map Term.enc v.1))]) I (λk_119 h=>?_) (λv h=>?_)
   ·refine .seq<|.draw 13 Hm (by kernel_rfl) (by kernel_rfl)<|.A 3 I<|gK h λc121 h=>.jA 9 (decide (x89<((idx c1_0_85 x115).getD default).cell)) I (λb120=>?_) ?_
    ·refine .q I (.fieldAddrLoc I I I F33_0)<|.q I (.loadLoc1 I I I Y31 I)<|.A 1 I<|.q I (.ix I U31 S41 (someD (impT c121 b120)))<|.A 5 I<|.nil I
    refine .nil<|.nil<|.condS I h (λh=>?_) λh=>?_
    ·refine .S 2 I<|.p I (.buildSl [_] I I E31 I (λ_=>I) I (enc:=Term.enc))<|bK h λx122 q122 h=>.app I I I I I I I I E31 I (λ_=>I) q122<|.A 1 I<|.nil<|.K [3,4,5,6,7,8,9,10,12] I<|.rA 1 I (ndE h I)
    ·refine .skip (ndE h I)
   ·obtain ⟨b3_117,x118⟩:=v
    refine .region<|.A 1 I<|.p I (.fieldAddrLoc I I I F33_0)<|.p I (.loadLoc1 I I I Y31 I)<|.A 1 I<|.X h I λx123 h=>.A 1 I<|.p I (.buildSl [_] I I E31 I (λ_=>I) I (enc:=Term.enc))<|bK h λx124 q124 h=>.app I I I I I I I I E31 I (λ_=>I) q124<|.A 1 I<|.nil<|.K [3,4,5,6,7,8,9,10,11,12] I<|.rA 3 I (ndE h I)
  ·refine .exit<|.J [3,4,5,6,7,8] h (λv=>[(10,.vec 3 (List.length v))]) (λv=>[(3,.vec 41 2 (List.map Term.enc v))]) I (λk_126 h=>?_) (λb3_125 h=>?_)
   ·refine .sA 2 I<|.condS I h (λh=>?_) λh=>?_
    ·refine .region<|.A 2 I<|.p I (.buildSl [_] I I E31 I (λ_=>I) I (enc:=Term.enc))<|bK h λx127 q127 h=>.app I I I I I I I I E31 I (λ_=>I) q127<|.A 1 I<|.nil (ndE h I)
    ·refine .skip (ndE h I)
   ·refine .freezes [3] (.cons (t:=10) I (.vec (inIds I) I (by simp)) .nil)<|.region<|.A 1 I<|.p I (.fieldAddrLoc I I I F33_0)<|.store I I I I I I (.ofD I) C31 I (yh I)<|.nil<|.K [3,4,5,6,7,8] I<|.rA 3 I (ndE h I)
 ·refine .exit<|.sr<|.p I (.loadLoc I I I Y33 (yh I) (v:=.d (Row.enc (⟨c1_0_85,t2.bound⟩:Row))) I)<|.store I I I I I I (.ofD I) C33 I (yh I)<|.nil<|.ret ?_
  cases h
  exact retCell I I Y33 (.v .v1)
theorem zdq (n t0 t1 r) (h:zah n t0 t1=some r):Pure pg 135 [Row.enc t0,Row.enc t1] (.bool r):=by
 refine Pure.ot Tryz.func135 I Tryz.ntmps135 I λA w=>.sA 3 I<|.seq<|.seq<|.plain 14 I<|.A 6 I<|.jO 7 ((t0.terms.length:Int) != (t1.terms.length:Int)) I (λb1=>?_) ?_
 ·refine .A 2 I<|.q I (.len I U31 I)<|.A 2 I<|.q I (.len I U31 I)<|.A 1 I<|.nil I
 refine .nil<|.nil<|.K [2,3,19] I<|.condS I h (λh=>?_) λh=>?_
 ·refine .sA 1 I<|.ret (rO h I)
 ·refine .skip<|.seq<|.sA 1 I<|.block<|.L [2,3] h (λv=>[(5,.d (.int v))]) (λv=>[]) I λ_ x8 h=>.seq<|.S 3 I<|.p I (.len I U31 I)<|.A 1 I<|.nil<|.K [2,3,5,24] I<|.condS I h (λh=>?_) λh=>?_
  ·refine .skip<|.seq<|.block<|.seq<|.draw 11 Hm (by kernel_rfl) (by kernel_rfl)<|.A 3 I<|.X h I λx10 h=>.A 4 I<|.X h I λx11 h=>.A 1 I<|.p I (.sneq I SE41 I I (xs:=Term.vals _) (ys:=Term.vals _) I I I I (SQ41 _ _))<|.nil<|.nil<|.condS I h (λh=>?_) λh=>?_
   ·refine .sA 1 I<|.ret (rO h I)
   ·refine .skip<|.rA 3 I (ndE h I)
  ·refine .exit<|.sA 1 I<|.ret (rO h I)
theorem zej (n t0 t1 t2 r) (h:zaZ n t0 t1 t2=some r):Pure pg 136 [eH t0,.int t1,Row.enc t2] (.int r):=by
 refine Pure.ot Tryz.func136 I Tryz.ntmps136 I λA w=>.sA 2 I<|.sA 1 I<|.seq<|.sA 1 I<|.block<|.L [0,1,5] h (λv=>[(7,.d (.int v.1)),(8,.d (.int v.2))]) (λv=>[]) I λ_ ⟨x13,x14⟩ h=>.seq<|.sA 3 I<|.condS I h (λh=>?_) λh=>?_
 ·refine .skip<|.J [0,1,5,8] h (λv=>[(7,.d (.int v))]) (λv=>[]) I (λk_17 h=>?_) (λx16 h=>?_)
  ·refine .block<|.seq<|.draw 6 Hm (by kernel_rfl) (by kernel_rfl)<|.A 2 I<|.X h I λx18 h=>.A 2 I<|.Z h I (zdq _ _ _) λx19 h=>.nil<|.nil<|.condS I h (λh=>?_) λh=>?_
   ·refine .rA 3 I (ndE h I)
   ·refine .skip (ndE h I)
  ·refine .rA 3 I (ndE h I)
 ·refine .exit<|.sA 2 I<|.ret (rO h I)
theorem zgE (n t0 t1 r) (h:zbv n t0 t1=some r):Pure pg 216 [eI t0,Update.enc t1] (.int r):=by
 refine Pure.ot Tryz.func216 I Tryz.ntmps216 I λA w=>.sA 2 I<|.sA 1 I<|.seq<|.sA 1 I<|.block<|.L [0,3] h (λv=>[(5,.d (.int v.1)),(6,.d (.int v.2))]) (λv=>[]) I λ_ ⟨x11,x12⟩ h=>.seq<|.S 2 I<|.p I (.len I U80 I)<|.A 1 I<|.nil<|.K [0,3,5,6,10] I<|.condS I h (λh=>?_) λh=>?_
 ·refine .skip<|.J [0,3,6] h (λv=>[(5,.d (.int v))]) (λv=>[]) I (λk_15 h=>?_) (λx14 h=>?_)
  ·refine .block<|.seq<|.draw 6 Hm (by kernel_rfl) (by kernel_rfl)<|.A 2 I<|.X h I λx16 h=>.A 2 I<|.p I (.seql I SE218 I I (xs:=Update.vals _) (ys:=Update.vals _) I I I I (SQ218 _ _))<|.nil<|.nil<|.condS I h (λh=>?_) λh=>?_
   ·refine .rA 3 I (ndE h I)
   ·refine .skip (ndE h I)
  ·refine .rA 3 I (ndE h I)
 ·refine .exit<|.sA 2 I<|.ret (rO h I)
theorem ref16_alike_ok (n t0 t1 t2 t3 r) (h:zL n t0 t1 t2 t3=some r):Pure pg 190 [Model.enc t0,Swap.enc t1,Effect.enc t2,Effect.enc t3] (.bool r):=by
 refine Pure.ot Tryz.func190 I Tryz.ntmps190 I λA w=>.sA 5 I<|.seq<|.seq<|.plain 25 I<|.A 2 I<|.p I (.len I U79 I)<|.A 2 I<|.p I (.len I U79 I)<|.A 2 I<|.jO 7 ((t2.hold.length:Int) != (t3.hold.length:Int)) I (λb1=>?_) ?_
 ·refine .A 2 I<|.q I (.len I U49 I)<|.A 2 I<|.q I (.len I U49 I)<|.A 1 I<|.nil I
 refine .A 1 I<|.jO 7 ((t2.updates.length:Int) != (t3.updates.length:Int)) I (λb2=>?_) ?_
 ·refine .A 2 I<|.q I (.len I U80 I)<|.A 2 I<|.q I (.len I U80 I)<|.A 1 I<|.nil I
 refine .nil<|.nil<|.K [4,5,6,7,40] I<|.condS I h (λh=>?_) λh=>?_
 ·refine .sA 1 I<|.ret (rO h I)
 ·refine .skip<|.seq<|.sA 1 I<|.block<|.L [4,5,6,7] h (λv=>[(9,.d (.int v))]) (λv=>[]) I λ_ x67 h=>.seq<|.S 3 I<|.p I (.len I U79 I)<|.A 1 I<|.nil<|.K [4,5,6,7,9,45] I<|.condS I h (λh=>?_) λh=>?_
  ·refine .skip<|.seq<|.block<|.sA 1 I<|.seq<|.sA 1 I<|.block<|.L [4,5,6,7,9] h (λv=>[(10,.d (.bool v.1)),(11,.d (.int v.2))]) (λv=>[]) I λ_ ⟨x89,x90⟩ h=>.seq<|.S 3 I<|.p I (.len I U79 I)<|.A 1 I<|.nil<|.K [4,5,6,7,9,10,11,52] I<|.condS I h (λh=>?_) λh=>?_
   ·refine .skip<|.J [4,5,6,7,9,11] h (λv=>[(10,.d (.bool v))]) (λv=>[]) I (λk_93 h=>?_) (λx92 h=>?_)
    ·refine .block<|.seq<|.draw 31 Hm (by kernel_rfl) (by kernel_rfl)<|.A 3 I<|.X h I λx94 h=>.A 7 I<|.X h I λx95 h=>.A 2 I<|.Z h I (zeH _ _ _ _ _) λx96 h=>.A 2 I<|gK h λc98 h=>gK h λc99 h=>.jA 13 ((((idx t3.delta x90).getD default).add)==(((idx t2.delta x67).getD default).add)) I (λb97=>?_) ?_
     ·refine .A 3 I<|.q I (.ix I U79 S131 (someD (impT c98 b97)))<|.A 5 I<|.q I (.ix I U79 S131 (someD (impT c99 b97)))<|.A 3 I<|.nil I
     refine .nil<|.nil<|.K [4,5,6,7,9,10,11,85] I<|.condS I h (λh=>?_) λh=>?_
     ·refine .rA 1 I (ndE h I)
     ·refine .skip (ndE h I)
    ·refine .rA 3 I (ndE h I)
   ·refine .exit<|.sA 2 I<|.condS I h (λh=>?_) λh=>?_
    ·refine .sA 1 I<|.ret (rO h I)
    ·refine .skip<|.rA 3 I (ndE h I)
  ·refine .exit<|.seq<|.sA 1 I<|.block<|.L [4,5,6,7] h (λv=>[(12,.d (.int v))]) (λv=>[]) I λ_ x112 h=>.seq<|.S 3 I<|.p I (.len I U49 I)<|.A 1 I<|.nil<|.K [4,5,6,7,12,92] I<|.condS I h (λh=>?_) λh=>?_
   ·refine .skip<|.seq<|.block<|.seq<|.draw 10 Hm (by kernel_rfl) (by kernel_rfl)<|.A 5 I<|.X h I λx114 h=>.A 1 I<|.Z h I (ref16_row_ok _ _ _ _) λx115 h=>.alloc I I I I ZZ33<|.store I I I I I I Z33<|.nil<|.freezes [0] (.cons (t:=13) (d:=.ref (Row.enc x115)) I (.loc (inIds I) I (.v .v1)) .nil)<|.nil<|.seq<|.draw 19 Hm (by kernel_rfl) (by kernel_rfl)<|.A 4 I<|.p I (.len I U49 I)<|.A 3 I<|.X h I λx116 h=>.A 1 I<|.Z h I (zej _ _ _ _) λx117 h=>.A 4 I<|.p I (.len I U49 I)<|.A 1 I<|.Z h I (zej _ _ _ _) λx118 h=>.A 1 I<|.nil<|.nil<|.K [4,5,6,7,12,121] I<|.condS I h (λh=>?_) λh=>?_
    ·refine .sA 1 I<|.ret (rO h I)
    ·refine .skip<|.rA 3 I (ndE h I)
   ·refine .exit<|.seq<|.sA 1 I<|.block<|.L [4,5,6,7] h (λv=>[(14,.d (.int v))]) (λv=>[]) I λ_ x131 h=>.seq<|.S 3 I<|.p I (.len I U80 I)<|.A 1 I<|.nil<|.K [4,5,6,7,14,126] I<|.condS I h (λh=>?_) λh=>?_
    ·refine .skip<|.seq<|.block<|.S 3 I<|.X h I λx133 h=>.A 1 I<|.allocZ I I I I (.agg Zc218 (ds':=[.int 0,.int 0,.int 0]) (.e (.e .e1))) I<|.store I I I I I I (.ofD I) C218 I (yh I)<|.nil<|.S 2 I<|.p I (.fieldAddrLoc I I I F218_1)<|.p I (.loadLoc1 I I I Y3 I)<|.Z h I (zeH _ _ _ _ _) λx134 h=>.p I (.fieldAddrLoc I I I F218_1)<|.store I I I I I I (.ofD I) C3 I (yh I)<|.nil<|.seq<|.draw 13 Hm (by kernel_rfl) (by kernel_rfl)<|.A 5 I<|.X h I λx135 h=>.A 1 I<|.Z h I (zgE _ _ _) λx136 h=>.A 2 I<|.p I (.loadLoc I I I Y218 (yh I) (v:=.d (Update.enc (⟨x133.kind,x134,x133.value⟩:Update))) I)<|.Z h I (zgE _ _ _) λx137 h=>.A 1 I<|.nil<|.nil<|.K [4,5,6,7,14,152] I<|.condS I h (λh=>?_) λh=>?_
     ·refine .sA 1 I<|.ret (rO h I)
     ·refine .skip<|.rA 3 I (ndE h I)
    ·refine .exit<|.sA 1 I<|.ret (rO h I)
theorem zdx (n t0 t1 t2 r) (h:zU n t0 t1 t2=some r):Pure pg 133 [Model.enc t0,Swap.enc t1,.int t2] (.tup [.int r.1,.bool r.2]):=by
 refine Pure.ot Tryz.func133 I Tryz.ntmps133 I λA w=>.sA 4 I<|.S 3 I<|.X h I λx1 h=>.A 1 I<|.allocStore I I I I I I I I (by simp) I I Z84<|.nil<|.S 4 I<|.X h I λx2 h=>.A 3 I<|.nil<|.K [3,4,8,9] I<|.seq<|.sA 1 I<|.block<|.L [3,4,8,9] h (λv=>[(10,.d (.int v))]) (λv=>[]) I λ_ x69 h=>.seq<|.S 3 I<|.p I (.len I U27 I)<|.A 1 I<|.nil<|.K [3,4,8,9,10,31] I<|.condS I h (λh=>?_) λh=>?_
 ·refine .skip<|.seq<|.block<|.S 3 I<|.X h I λx71 h=>.A 1 I<|.allocStore I I I I I I I I (by simp) I I Z84<|.nil<|.seq<|.plain 14 I<|.A 6 I<|.jA 7 ((x71.arguments.length:Int)==(x1.arguments.length:Int)) I (λb72=>?_) ?_
  ·refine .A 2 I<|.q I (.len I U22 I)<|.A 2 I<|.q I (.len I U22 I)<|.A 1 I<|.nil I
  refine .nil<|.A 1 I<|.nil<|.K [3,4,8,9,10,11,12] I<|.seq<|.sA 1 I<|.block<|.L [3,4,8,9,10,11] h (λv=>[(12,.d (.bool v.1)),(13,.d (.int v.2))]) (λv=>[]) I λ_ ⟨x91,x92⟩ h=>.seq<|.seq<|.plain 8 I<|.A 2 I<|.jA 5 (decide (x92<(x1.arguments.length:Int))) I (λb94=>?_) ?_
  ·refine .A 3 I<|.q I (.len I U22 I)<|.A 1 I<|.nil I
  refine .nil<|.nil<|.K [3,4,8,9,10,11,12,13,60] I<|.condS I h (λh=>?_) λh=>?_
  ·refine .skip<|.seq<|.block<|.S 3 I<|.X h I λx95 h=>.A 2 I<|.nil<|.J [3,4,8,9,10,11,13] h (λv=>[(14,.d (.int v))]) (λv=>[]) I (λk_97 h=>?_) (λx96 h=>?_)
   ·refine .seq<|.draw 7 Hm (by kernel_rfl) (by kernel_rfl)<|.A 2 I<|.X h I λx98 h=>.A 4 I<|.nil<|.nil<|.condS I h (λh=>?_) λh=>?_
    ·refine .region<|.A 2 I<|.Z h I (zgD _ _ _) λx99 h=>.A 1 I<|.nil (ndE h I)
    ·refine .skip (ndE h I)
   ·refine .region<|.A 3 I<|.X h I λx100 h=>.A 4 I<|.nil<|.K [3,4,8,9,10,11,12,13] I<|.rA 3 I (ndE h I)
  ·refine .exit<|.seq<|.plain 10 I<|.A 2 I<|gK h λc102 h=>.jA 7 (((zL n t0 t1 x1.effect x71.effect).getD default)) I (λb101=>?_) ?_
   ·refine .A 2 I<|.q I (.fa I (G84_2 _))<|.A 1 I<|.q I (.fa I (G84_2 _))<|.A 1 I<|.q I (.call I (kC I) I (ref16_alike_ok _ _ _ _ _ _ (someD (impT c102 b101))))<|.nil I
   refine .nil<|.nil<|.condS I h (λh=>?_) λh=>?_
   ·refine .sA 3 I<|.ret ?_
    cases h
    exact zcd I I (.d _) (.d _)
   ·refine .skip<|.rA 3 I (ndE h I)
 ·refine .exit<|.sA 2 I<|.ret ?_
  cases h
  exact zcd I I (.d _) (.d _)
theorem ref16_rank_ok (n t0 t1 r) (h:zbE n t0 t1=some r):Pure pg 137 [Model.enc t0,.int t1] (.int r):=by
 refine Pure.ot Tryz.func137 I Tryz.ntmps137 I λA w=>.sA 2 I<|.S 3 I<|.X h I λx1 h=>.A 1 I<|.allocStore I I I I I I I I (by simp) I I Z78<|.nil<|.sA 1 I<|.seq<|.sA 1 I<|.block<|.L [1,2,5] h (λv=>[(6,.d (.int v.1)),(7,.d (.int v.2))]) (λv=>[]) I λ_ ⟨x18,x19⟩ h=>.seq<|.sA 3 I<|.condS I h (λh=>?_) λh=>?_
 ·refine .skip<|.J [1,2,5,7] h (λv=>[(6,.d (.int v))]) (λv=>[]) I (λk_22 h=>?_) (λx21 h=>?_)
  ·refine .block<|.S 3 I<|.X h I λx23 h=>.A 1 I<|.allocStore I I I I I I I I (by simp) I I Z78<|.nil<|.seq<|.plain 19 I<|.A 6 I<|.jA 5 (x23.family==x1.family) I (λb24=>?_) ?_
   ·refine .A 5 I<|.nil I
   refine .A 1 I<|gK h λc26 h=>.jA 5 (((zah n x23.row x1.row).getD default)) I (λb25=>?_) ?_
   ·refine .q I (.fa I (G78_2 _))<|.A 1 I<|.q I (.fa I (G78_2 _))<|.A 1 I<|.q I (.call I (kC I) I (zdq _ _ _ _ (someD (impT c26 b25))))<|.nil I
   refine .nil<|.nil<|.K [1,2,5,6,7,42] I<|.condS I h (λh=>?_) λh=>?_
   ·refine .rA 3 I (ndE h I)
   ·refine .skip (ndE h I)
  ·refine .rA 3 I (ndE h I)
 ·refine .exit<|.sA 2 I<|.ret (rO h I)
theorem zcz (n t0 t1 t2 r) (h:zV n t0 t1 t2=some r):Pure pg 90 [Model.enc t0,Swap.enc t1,.int t2] (.tup [.int r.1,.bool r.2]):=by
 refine Pure.ot Tryz.func90 I Tryz.ntmps90 I λA w=>.sA 4 I<|.S 3 I<|.X h I λx1 h=>.A 1 I<|.allocStore I I I I I I I I (by simp) I I Z78<|.nil<|.seq<|.sA 3 I<|.condS I h (λh=>?_) λh=>?_
 ·refine .sA 3 I<|.K [6,7] I<|.ret ?_
  cases h
  exact zcd I I (.d _) (.d _)
 ·refine .skip<|.S 2 I<|.p I (.fa I (G78_2 _))<|.A 1 I<|.Z h I (ref16_row_ok _ _ _ _) λx2 h=>.allocStore I I I I I I I I (by simp) I I Z33<|.nil<|.K [2,3,8,9] I<|.seq<|.sA 1 I<|.block<|.L [2,3,8,9] h (λv=>[(10,.d (.int v))]) (λv=>[]) I λ_ x19 h=>.seq<|.S 3 I<|.p I (.len I U25 I)<|.A 1 I<|.nil<|.K [2,3,8,9,10,30] I<|.condS I h (λh=>?_) λh=>?_
  ·refine .skip<|.seq<|.block<|.S 3 I<|.X h I λx21 h=>.A 1 I<|.allocStore I I I I I I I I (by simp) I I Z78<|.nil<|.seq<|.draw 27 Hm (by kernel_rfl) (by kernel_rfl)<|.A 6 I<|.jA 5 (x21.family==x1.family) I (λb22=>?_) ?_
   ·refine .A 5 I<|.nil I
   refine .A 1 I<|gK h λc24 h=>.jA 4 (((zah n x21.row x2).getD default)) I (λb23=>?_) ?_
   ·refine .q I (.fa I (G78_2 _))<|.A 2 I<|.q I (.call I (kC I) I (zdq _ _ _ _ (someD (impT c24 b23))))<|.nil I
   refine .A 1 I<|gK h λc26 h=>gK h λc27 h=>.jA 7 (((zbE n t0 x19).getD default)==((zbE n t0 t2).getD default)) I (λb25=>?_) ?_
   ·refine .A 2 I<|.q I (.call I (kC I) I (ref16_rank_ok _ _ _ _ (someD (impT c26 b25))))<|.A 2 I<|.q I (.call I (kC I) I (ref16_rank_ok _ _ _ _ (someD (impT c27 b25))))<|.A 1 I<|.nil I
   refine .nil<|.nil<|.K [2,3,8,9,10,64] I<|.condS I h (λh=>?_) λh=>?_
   ·refine .sA 3 I<|.ret ?_
    cases h
    exact zcd I I (.d _) (.d _)
   ·refine .skip<|.rA 3 I (ndE h I)
  ·refine .exit<|.sA 2 I<|.ret ?_
   cases h
   exact zcd I I (.d _) (.d _)
theorem ref16_symmetric_ok (n t0 t1 r) (h:zP n t0 t1=some r):Pure pg 88 [Model.enc t0,Swap.enc t1] (.bool r):=by
 refine Pure.ot Tryz.func88 I Tryz.ntmps88 I λA w=>.sA 3 I<|.seq<|.sA 1 I<|.block<|.L [2,3] h (λv=>[(5,.d (.int v))]) (λv=>[]) I λ_ x5 h=>.seq<|.S 3 I<|.p I (.len I U27 I)<|.A 1 I<|.nil<|.K [2,3,5,15] I<|.condS I h (λh=>?_) λh=>?_
 ·refine .skip<|.seq<|.block<|.S 3 I<|.Z h I (zdx _ _ _ _) λx7 h=>.A 1 I<|.p I (.extract I I I)<|.p I (.extract I I I)<|.A 2 I<|.nil<|.sA 2 I<|.condS I h (λh=>?_) λh=>?_
  ·refine .sA 1 I<|.ret (rO h I)
  ·refine .skip<|.rA 3 I (ndE h I)
 ·refine .exit<|.seq<|.sA 1 I<|.block<|.L [2,3] h (λv=>[(8,.d (.int v))]) (λv=>[]) I λ_ x12 h=>.seq<|.S 3 I<|.p I (.len I U25 I)<|.A 1 I<|.nil<|.K [2,3,8,31] I<|.condS I h (λh=>?_) λh=>?_
  ·refine .skip<|.seq<|.block<|.S 3 I<|.Z h I (zcz _ _ _ _) λx14 h=>.A 1 I<|.p I (.extract I I I)<|.p I (.extract I I I)<|.A 2 I<|.nil<|.sA 2 I<|.condS I h (λh=>?_) λh=>?_
   ·refine .sA 1 I<|.ret (rO h I)
   ·refine .skip<|.rA 3 I (ndE h I)
  ·refine .exit<|.sA 1 I<|.ret (rO h I)
theorem ref16_Holds_ok (n t0 t1 r) (h:zd9 n t0 t1=some r):Pure pg 31 [Model.enc t0,Swap.enc t1] (.bool r):=by
 refine Pure.ot Tryz.func31 I Tryz.ntmps31 I λA w=>.sA 3 I<|.seq<|.plain 8 I<|.A 2 I<|.Z h I (zeG _ _ _) λx1 h=>.A 1 I<|gK h λc3 h=>.jA 3 (((zP n t0 t1).getD default)) I (λb2=>?_) ?_
 ·refine .A 2 I<|.q I (.call I (kC I) I (ref16_symmetric_ok _ _ _ _ (someD (impT c3 b2))))<|.nil I
 refine .nil<|.A 1 I<|.nil<|.ret (rO h I)
theorem ref16_Move_ok (n t0 t1 t2 r) (h:zc7 n t0 t1 t2=some r):Pure pg 89 [Model.enc t0,Swap.enc t1,Question.enc t2] (.tup [Question.enc r.1,.bool r.2]):=by
 refine Pure.ot Tryz.func89 I Tryz.ntmps89 I λA w=>.S 3 I<|.allocZ I I I I (.agg Zc37 (ds':=[.int 0,.int 0,.bool false,.int 0]) (.e (.e (.e .e1)))) I<|.A 1 I<|.nil<|.S 4 I<|.Z h I (zdx _ _ _ _) λx1 h=>.A 1 I<|.p I (.extract I I I)<|.p I (.extract I I I)<|.A 2 I<|.nil<|.S 4 I<|.Z h I (zdx _ _ _ _) λx2 h=>.A 1 I<|.p I (.extract I I I)<|.p I (.extract I I I)<|.A 2 I<|.nil<|.K [3,4,5,6,8,9,10,11] I<|.seq<|.seq<|.plain 6 I<|.A 3 I<|.jO 2 (!x2.2) I (λb3=>?_) ?_
 ·refine .A 2 I<|.nil I
 refine .nil<|.nil<|.condS I h (λh=>?_) λh=>?_
 ·refine .sr<|.p I (.castD (Question.enc (⟨0,0,(⟨false,0⟩:Target)⟩:Question)) I (.build I Pl37 (.agg Zc37 (ds':=[_,_,_,_]) (.e (.e (.e .e1)))) I I))<|.store I I I I I I (.ofD I) C37 I (yh I)<|.A 1 I<|.nil<|.ret ?_
  cases h
  exact zb4 I I Y37 (.v (.v (.v .v1))) I (.d _)
 ·refine .skip<|.seq<|.sr<|.p I (.fa I (G37_2 _))<|.A 3 I<|.nil<|.condS I h (λh=>?_) λh=>?_
  ·refine .S 2 I<|.p I (.fa I (G37_2 _))<|.A 2 I<|.Z h I (zcz _ _ _ _) λx4 h=>.A 1 I<|.p I (.extract I I I)<|.p I (.extract I I I)<|.A 2 I<|.nil<|.K [6,8,10,12,13] I<|.seq<|.sA 2 I<|.condS I h (λh=>?_) λh=>?_
   ·refine .sr<|.p I (.castD (Question.enc (⟨0,0,(⟨false,0⟩:Target)⟩:Question)) I (.build I Pl37 (.agg Zc37 (ds':=[_,_,_,_]) (.e (.e (.e .e1)))) I I))<|.store I I I I I I (.ofD I) C37 I (yh I)<|.A 1 I<|.nil<|.ret ?_
    cases h
    exact zb4 I I Y37 (.v (.v (.v .v1))) I (.d _)
   ·refine .skip<|.S 2 I<|.p I (.min2 I I I)<|.A 2 I<|.p I (.max2 I I I)<|.A 1 I<|.p I (.castD (Target.enc (⟨false,x4.1⟩:Target)) I (.build I Pl35 (.agg Zc35 (ds':=[_,_]) (.e .e1)) I I))<|.p I (.castD (Question.enc (⟨(gmin x1.1 x2.1),(gmax x1.1 x2.1),(⟨false,x4.1⟩:Target)⟩:Question)) I (.build I Pl37 (.agg Zc37 (ds':=[_,_,_,_]) (.e (.e (.e .e1)))) I I))<|.store I I I I I I (.ofD I) C37 I (yh I)<|.A 1 I<|.nil<|.ret ?_
    cases h
    exact zb4 I I Y37 (.v (.v (.v .v1))) I (.d _)
  ·refine .skip<|.S 4 I<|.X h I λx5 h=>.p I (.fa I (G84_2 _))<|.A 3 I<|.nil<|.K [3,4,5,6,8,10,14] I<|.S 3 I<|.X h I λx6 h=>.p I (.fa I (G84_2 _))<|.A 3 I<|.nil<|.seq<|.draw 11 Hm (by kernel_rfl) (by kernel_rfl)<|.A 3 I<|.p I (.fa I (G37_2 _))<|.A 2 I<|.X h I λx7 h=>.A 1 I<|.Z h I (ref16_row_ok _ _ _ _) λx8 h=>.alloc I I I I ZZ33<|.store I I I I I I Z33<|.nil<|.freezes [1] (.cons (t:=16) (d:=.ref (Row.enc x8)) I (.loc (inIds I) I (.v .v1)) .nil)<|.nil<|.K [5,6,8,10,14,15,16] I<|.seq<|.sA 1 I<|.block<|.L [5,6,8,10,14,15,16] h (λv=>[(17,.d (.int v))]) (λv=>[]) I λ_ x23 h=>.seq<|.S 2 I<|.p I (.len I U49 I)<|.A 1 I<|.nil<|.K [5,6,8,10,14,15,16,17,93] I<|.condS I h (λh=>?_) λh=>?_
   ·refine .skip<|.seq<|.block<|.seq<|.draw 24 Hm (by kernel_rfl) (by kernel_rfl)<|.A 2 I<|.X h I λx25 h=>.A 2 I<|.Z h I (zdq _ _ _) λx26 h=>.A 1 I<|gK h λc28 h=>gK h λc29 h=>gK h λc30 h=>.jA 16 (((zaZ n x6.effect.hold x23 x8).getD default)==((zaZ n x5.effect.hold t2.target.index ((idx x5.effect.hold t2.target.index).getD default)).getD default)) I (λb27=>?_) ?_
    ·refine .A 3 I<|.q I (.call I (kC I) I (zej _ _ _ _ _ (someD (impT c28 b27))))<|.A 1 I<|.q I (.fa I (G37_2 _))<|.A 3 I<|.q I (.fa I (G37_2 _))<|.A 2 I<|.q I (.ix I U49 S33 (someD (impT c29 b27)))<|.A 1 I<|.q I (.call I (kC I) I (zej _ _ _ _ _ (someD (impT c30 b27))))<|.A 1 I<|.nil I
    refine .nil<|.nil<|.K [5,6,8,10,14,15,16,17,119] I<|.condS I h (λh=>?_) λh=>?_
    ·refine .S 3 I<|.p I (.castD (Target.enc (⟨true,x23⟩:Target)) I (.build I Pl35 (.agg Zc35 (ds':=[_,_]) (.e .e1)) I I))<|.p I (.castD (Question.enc (⟨x1.1,x2.1,(⟨true,x23⟩:Target)⟩:Question)) I (.build I Pl37 (.agg Zc37 (ds':=[_,_,_,_]) (.e (.e (.e .e1)))) I I))<|.store I I I I I I (.ofD I) C37 I (yh I)<|.A 1 I<|.nil<|.ret ?_
     cases h
     exact zb4 I I Y37 (.v (.v (.v .v1))) I (.d _)
    ·refine .skip<|.rA 3 I (ndE h I)
   ·refine .exit<|.sr<|.p I (.castD (Question.enc (⟨0,0,(⟨false,0⟩:Target)⟩:Question)) I (.build I Pl37 (.agg Zc37 (ds':=[_,_,_,_]) (.e (.e (.e .e1)))) I I))<|.store I I I I I I (.ofD I) C37 I (yh I)<|.A 1 I<|.nil<|.ret ?_
    cases h
    exact zb4 I I Y37 (.v (.v (.v .v1))) I (.d _)
theorem ref16_Question_ok (n t0 t1 t2 r) (h:zcG n t0 t1 t2=some r):Pure pg 32 [Model.enc t0,Swap.enc t1,Question.enc t2] (.tup [Question.enc r.1,.bool r.2]):=by
 refine Pure.ot Tryz.func32 I Tryz.ntmps32 I λA w=>.S 3 I<|.allocZ I I I I (.agg Zc37 (ds':=[.int 0,.int 0,.bool false,.int 0]) (.e (.e (.e .e1)))) I<|.A 1 I<|.nil<|.seq<|.seq<|.plain 10 I<|.A 2 I<|.Z h I (zeG _ _ _) λx1 h=>.A 2 I<|gK h λc3 h=>.jO 4 (!((zeb n t0 t2).getD default)) I (λb2=>?_) ?_
 ·refine .A 2 I<|.q I (.call I (kC I) I (ref16_Valid_ok _ _ _ _ (someD (impF c3 b2))))<|.A 1 I<|.nil I
 refine .nil<|.nil<|.condS I h (λh=>?_) λh=>?_
 ·refine .sr<|.p I (.castD (Question.enc (⟨0,0,(⟨false,0⟩:Target)⟩:Question)) I (.build I Pl37 (.agg Zc37 (ds':=[_,_,_,_]) (.e (.e (.e .e1)))) I I))<|.store I I I I I I (.ofD I) C37 I (yh I)<|.A 1 I<|.nil<|.K [6,7] I<|.ret ?_
  cases h
  exact zb4 I I Y37 (.v (.v (.v .v1))) I (.d _)
 ·refine .skip<|.S 3 I<|.Z h I (ref16_Move_ok _ _ _ _) λx4 h=>.p I (.extract I I I)<|.p I (.extract I I I)<|.store I I I I I I (.ofD I) C37 I (yh I)<|.A 1 I<|.nil<|.K [6,7] I<|.ret ?_
  cases h
  exact zb4 I I Y37 (.v (.v (.v .v1))) I (.d _)
theorem ref16_Constraint_ok (n t0 t1 t2 r) (h:zdp n t0 t1 t2=some r):Pure pg 33 [Model.enc t0,Swap.enc t1,.int t2] (.tup [.int r.1,.bool r.2]):=by
 refine Pure.ot Tryz.func33 I Tryz.ntmps33 I λA w=>.sA 4 I<|.seq<|.seq<|.plain 15 I<|.A 2 I<|.Z h I (zeG _ _ _) λx1 h=>.A 2 I<|.jO 2 (decide (t2<0)) I (λb2=>?_) ?_
 ·refine .A 2 I<|.nil I
 refine .A 1 I<|.jO 5 (decide ((t0.constraints.length:Int)≤t2)) I (λb3=>?_) ?_
 ·refine .A 3 I<|.q I (.len I U25 I)<|.A 1 I<|.nil I
 refine .nil<|.nil<|.K [2,3,4,22] I<|.condS I h (λh=>?_) λh=>?_
 ·refine .sA 2 I<|.ret ?_
  cases h
  exact zcd I I (.d _) (.d _)
 ·refine .skip<|.S 3 I<|.Z h I (zcz _ _ _ _) λx4 h=>.p I (.extract I I I)<|.p I (.extract I I I)<|.A 2 I<|.nil<|.ret ?_
  cases h
  exact zcd I I (.d _) (.d _)
theorem ref16_State_ok (n t0 t1 t2 r) (h:zcy n t0 t1 t2=some r):Pure pg 35 [Model.enc t0,Swap.enc t1,eA t2] (.tup [eA r.1,.bool r.2]):=by
 refine Pure.ot Tryz.func35 I Tryz.ntmps35 I λA w=>.S 2 I<|.p I (.nilS 1 (α:=Int) D.int I)<|.A 1 I<|.nil<|.seq<|.seq<|.plain 11 I<|.A 2 I<|.Z h I (zeG _ _ _) λx1 h=>.A 2 I<|gK h λc3 h=>.jO 5 ((t2.length:Int) != ((zbV n t0).getD default)) I (λb2=>?_) ?_
 ·refine .A 1 I<|.q I (.len I U22 I)<|.A 1 I<|.q I (.call I (kC I) I (ref16_Total_ok _ _ _ (someD (impF c3 b2))))<|.A 1 I<|.nil I
 refine .nil<|.nil<|.condS I h (λh=>?_) λh=>?_
 ·refine .sr<|.p I (.nilS 1 (α:=Int) D.int I)<|.A 1 I<|.nil<|.K [6,7] I<|.ret ?_
  cases h
  exact zcd I I (.d _) (.d _)
 ·refine .skip<|.sr<|.buildVec [] I I I I I E22 I (λ_=>I) I (enc:=D.int)<|.A 1 I<|.nil<|.K [2,3,4,8] I<|.seq<|.sA 1 I<|.block<|.L [2,3,4] h (λv=>[(8,.vec 0 (List.length v.1)),(9,.d (.int v.2))]) (λv=>[(0,.vec 3 1 (List.map D.int v.1))]) I λ_ ⟨b0_14,x15⟩ h=>.seq<|.S 2 I<|.p I (.len I U22 I)<|.A 1 I<|.nil<|.K [2,3,4,8,9,25] I<|.condS I h (λh=>?_) λh=>?_
  ·refine .skip<|.seq<|.block<|.region<|.A 5 I<|.Z h I (zeH _ _ _ _ _) λx17 h=>.X h I λx18 h=>.A 1 I<|.p I (.buildSl [_] I I E22 I (λ_=>I) I (enc:=D.int))<|bK h λx19 q19 h=>.app I I I I I I I I E22 I (λ_=>I) q19<|.A 1 I<|.nil<|.rA 3 I (ndE h I)
  ·refine .exit<|.sA 3 I<|.ret ?_
   cases h
   exact zcd I I (.vec I (by simp)) (.d _)
theorem ze9 (n t0 t1 t2 t3 t4 r) (h:zam n t0 t1 t2 t3 t4=some r):Pure pg 34 [eA t0,.ref (Model.enc t1),.ref (Swap.enc t2),.ref (System.enc t3),.ref (System.enc t4)] (.bool r):=by
 refine Pure.ot Tryz.func34 I Tryz.ntmps34 I λA w=>.sA 1 I<|.S 3 I<|.Z h I (ref16_State_ok _ _ _ _) λx1 h=>.A 1 I<|.p I (.extract I I I)<|.p I (.extract I I I)<|.A 2 I<|.nil<|.seq<|.draw 8 Hm (by kernel_rfl) (by kernel_rfl)<|.A 2 I<|.Z h I (ref18_Holds_ok _ _ _) λx2 h=>.A 2 I<|.Z h I (ref18_Holds_ok _ _ _) λx3 h=>.p I (.beq I U4 I I)<|.A 1 I<|.nil<|.nil<|.K [6] I<|.ret (rO h I)
theorem zfT (n t0 t1 t2 t3 r) (h:zaz n t0 t1 t2 t3=some r):Pure pg 9 [Model.enc t0,Swap.enc t1,Question.enc t2,eA t3] (.bool r):=by
 refine Pure.ot Tryz.func9 I Tryz.ntmps9 I λA w=>.sA 4 I<|.seq<|.sr<|.Z h I (law22_awake_ok _ ) λx1 h=>.A 1 I<|.nil<|.condS I h (λh=>?_) λh=>?_
 ·refine .sA 1 I<|.ret (rO h I)
 ·refine .skip<|.seq<|.seq<|.plain 14 I<|.A 1 I<|.Z h I (ref13_Few_ok _ _) λx2 h=>.A 2 I<|.jO 3 (decide (20<(t3.length:Int))) I (λb3=>?_) ?_
  ·refine .A 1 I<|.q I (.len I U22 I)<|.A 1 I<|.nil I
  refine .A 1 I<|gK h λc5 h=>.jO 4 (!((zd9 n t0 t1).getD default)) I (λb4=>?_) ?_
  ·refine .A 2 I<|.q I (.call I (kC I) I (ref16_Holds_ok _ _ _ _ (someD (impF c5 b4))))<|.A 1 I<|.nil I
  refine .nil<|.nil<|.K [3,4,5,6,35] I<|.condS I h (λh=>?_) λh=>?_
  ·refine .sA 1 I<|.ret (rO h I)
  ·refine .skip<|.S 3 I<|.Z h I (zds _ _ _ _) λx6 h=>.A 1 I<|.p I (.extract I I I)<|.p I (.extract I I I)<|.allocStore I I I I I I I I (by simp) I I Z53<|.A 1 I<|.nil<|.S 3 I<|.Z h I (ref16_Question_ok _ _ _ _) λx7 h=>.A 1 I<|.p I (.extract I I I)<|.p I (.extract I I I)<|.allocStore I I I I I I I I (by simp) I I Z37<|.A 1 I<|.nil<|.K [3,4,5,9,10,11,12] I<|.seq<|.seq<|.plain 6 I<|.A 3 I<|.jO 2 (!x7.2) I (λb8=>?_) ?_
   ·refine .A 2 I<|.nil I
   refine .nil<|.nil<|.condS I h (λh=>?_) λh=>?_
   ·refine .sA 1 I<|.ret (rO h I)
   ·refine .skip<|.sr<|.buildVec [] I I I I I E22 I (λ_=>I) I (enc:=D.int)<|.A 1 I<|.nil<|.seq<|.S 1 I<|.p I (.len I U22 I)<|.A 1 I<|.nil<|.block<|.L [4,5,9,11,57,58] h (λv=>[(13,.vec 0 (List.length v.1)),(59,.d (.int v.2))]) (λv=>[(0,.vec 3 1 (List.map D.int v.1))]) I λ_ ⟨b0_19,x20⟩ h=>.sA 1 I<|.K [4,5,9,11,13,57,58,59,60] I<|.seq<|.condS I h (λh=>?_) λh=>?_
    ·refine .skip<|.seq<|.block<|.sr<|.X h I λx22 h=>.A 2 I<|.nil<|.S 3 I<|.Z h I (ref16_Constraint_ok _ _ _ _) λx23 h=>.A 1 I<|.p I (.extract I I I)<|.p I (.extract I I I)<|.A 2 I<|.nil<|.region<|.A 2 I<|.p I (.buildSl [_] I I E22 I (λ_=>I) I (enc:=D.int))<|bK h λx24 q24 h=>.app I I I I I I I I E22 I (λ_=>I) q24<|.A 1 I<|.nil<|.K [4,5,9,11,13,57,58,59] I<|.rA 2 I (ndE h I)
    ·refine .exit<|.seq<|.freezes [0] (.cons (t:=13) I (.vec (inIds I) I (by simp)) .nil)<|.region<|.A 3 I<|.Z h I (zds _ _ _ _) λx26 h=>.A 1 I<|.p I (.extract I I I)<|.p I (.extract I I I)<|.allocStore I I I I I I I I (by simp) I I Z53<|.A 1 I<|.nil<|.K [4,5,9,18,19] I<|.seq<|.plain 7 I<|.A 3 I<|gK h λc28 h=>.jA 3 (((za9 n t0 (λq0=>zam n q0 t0 t1 x6.1 x26.1)).getD default)) I (λb27=>?_) ?_
     ·refine .A 1 I<|.q I (.makeFunc I I)<|.q I (.call I (kC I) I (law22_states_ok _ _ _ _ (λq0 y hq=>⟨_,_,I,K34,ze9 _ q0 _ _ _ _ _ hq⟩) _ (someD (impT c28 b27))))<|.nil I
     refine .nil<|.A 1 I<|.nil<|.ret (rO h I)
theorem zE {σ R:Type} {body:(σ→Option R)→σ→Option R} {len:Nat} {st:Nat→σ} {g:Nat→Option R}
  (hb:∀ rec i,i<len→rec (st (i+1))=g (i+1)→body rec (st i)=g i) (he:∀ rec,body rec (st len)=g len) :
  ∀ n i,i≤len→len - i<n→loopF body n (st i)=g i
 | 0,_,_,h=>by omega
 | n+1,i,hi,h=>by
  simp only [loopF];by_cases e:i=len
  ·subst e;exact he _
  ·exact hb _ i (by omega) (zE hb he n (i+1) (by omega) (by omega))
theorem zb {i:Nat} (h:i<4611686018427387904):add64 (i:Int) 1=((i+1:Nat):Int):=by
 unfold add64;rw [zbK (by omega) (by omega)];omega
theorem za {α:Type} {l:List α} {i:Nat} (h:i<l.length):idx l (i:Int)=some l[i]:=by
 unfold idx;rw [if_pos (by omega)];simp [h]
theorem zk {α:Type} {l:List α} {i:Nat} (h:i<l.length):decide ((i:Int)<(l.length:Int))=true:=by simp;omega
theorem zad {α:Type} {l:List α}:decide (((l.length:Nat):Int)<(l.length:Int))=false:=by simp
def zg:List Change→Int→Int
 | [],_=>0
 | d::l,c=>if d.cell=c then d.add else zg l c
theorem zh {α:Type} {l:List α} {i:Nat} (h:i<l.length):l.drop i=l[i]::l.drop (i+1):=List.drop_eq_getElem_cons h
theorem zal {n:Nat} {a} (c:Int) (hl:a.effect.delta.length<4611686018427387904) (hn:a.effect.delta.length<n):zG n a c=some (zg a.effect.delta c):=by
 have:=zE (body:=zG.l1 n a c) (len:=a.effect.delta.length) (st:=λi=>(i:Int)) (g:=λi=>some (zg (a.effect.delta.drop i) c)) (λrec i hi hr=>?_) (λrec=>?_) n 0 (yp _) (by omega)
 ·simpa [zG] using this
 ·simp only [zG.l1,zk hi,if_true,za hi,ya,zb (i:=i) (by omega),hr];rw [zh hi];simp only [zg,beq_iff_eq];split <;> rfl
 ·simp [zG.l1,zg]
def zd5 (f:Int→Int):List Term→Int→Int
 | [],s=>s
 | t::l,s=>zd5 f l (add64 s (mul64 t.factor (f t.cell)))
def takeP (f:Int→Int) (l:List Term) (i:Nat):Int:=zd5 f (l.take i) 0
theorem changeP_append (f):∀ (l m:List Term) (s:Int),zd5 f (l++m) s=zd5 f m (zd5 f l s)
 | [],_,_=>rfl
 | _::l,m,s=>by simp only [ud,zd5];exact changeP_append f l m _
theorem takeP_succ (f) {l i} (h:i<l.length):takeP f l (i+1)=add64 (takeP f l i) (mul64 l[i].factor (f l[i].cell)):=by
 unfold takeP;rw [yv h,changeP_append];rfl
theorem zdt {n:Nat} {a r} (h1:a.effect.delta.length<4611686018427387904) (h2:a.effect.delta.length<n) (h3:r.terms.length<4611686018427387904) (h4:r.terms.length<n) :
  zq n a r=some (zd5 (zg a.effect.delta) r.terms 0):=by
 have:=zE (body:=zq.l1 n a r) (len:=r.terms.length) (st:=λi=>(takeP (zg a.effect.delta) r.terms i,(i:Int))) (g:=λ_=>some (zd5 (zg a.effect.delta) r.terms 0)) (λrec i hi hr=>?_) (λrec=>?_) n 0 (yp _) (by omega)
 ·simpa [zq,takeP,zd5] using this
 ·simp only [zq.l1,zk hi,if_true,za hi,ya,zal _ h1 h2,zb (i:=i) (by omega),← takeP_succ _ hi,hr]
 ·simp [zq.l1,takeP]
def addP (c:Int):List Change→Int→Int
 | [],s=>s
 | d::l,s=>addP c l (if d.cell=c then add64 s d.add else s)
theorem addP_append (c):∀ (l m:List Change) (s:Int),addP c (l++m) s=addP c m (addP c l s)
 | [],_,_=>rfl
 | _::l,m,s=>by simp only [ud,addP];exact addP_append c l m _
theorem ref22_Add_eq {n:Nat} {e} (c:Int) (hl:e.delta.length<4611686018427387904) (hn:e.delta.length<n):zbI n e c=some (addP c e.delta 0):=by
 have:=zE (body:=zbI.l1 n e c) (len:=e.delta.length) (st:=λi=>(addP c (e.delta.take i) 0,(i:Int))) (g:=λ_=>some (addP c e.delta 0)) (λrec i hi hr=>?_) (λrec=>?_) n 0 (yp _) (by omega)
 ·simpa [zbI,addP] using this
 ·rw [yv hi,addP_append] at hr;simp only [addP] at hr;simp only [zbI.l1,zk hi,if_true,za hi,ya,jn,zb (i:=i) (by omega),beq_iff_eq];split at hr <;> rename_i h
  ·rw [if_pos h,hr]
  ·rw [if_neg h,hr]
 ·simp [zbI.l1]
theorem addP_other (c):∀ (l:List Change) (s:Int),(∀ d∈l,d.cell≠c)→addP c l s=s
 | [],_,_=>rfl
 | d::l,s,h=>by
  simp only [addP];rw [if_neg (h d (by simp))];exact addP_other c l s λx hx=>h x (by simp [hx])
theorem addP_addedP (c):∀ (l:List Change),(l.map (·.cell)).Nodup→(∀ d∈l,-9223372036854775808≤d.add∧d.add≤9223372036854775807)→addP c l 0=zg l c
 | [],_,_=>rfl
 | d::l,hn,hb=>by
  simp only [yP,List.nodup_cons,yN,not_exists,not_and] at hn;simp only [addP,zg];split <;> rename_i h
  ·rw [addP_other c l _ λx hx e=>hn.1 x hx (e.trans h.symm)];have:=hb d (by simp);unfold add64;rw [Int.zero_add];exact zbK this.1 this.2
  ·exact addP_addedP c l hn.2 λx hx=>hb x (by simp [hx])
section
variable {κ:Type} [DecidableEq κ]
structure SetIs (m:GMap κ Bool) (l:List κ):Prop where
 tru:∀ e∈m.es,e.2.2=true
 mem:∀ k,k∈m.es.map (λe=>e.2.1)↔k∈l
theorem findK_get (k:κ):∀ (es:List (Nat×κ×Bool)),(∀ e∈es,e.2.2=true)→((findK k es).map (·.2)).getD false=decide (k∈es.map (λe=>e.2.1))
 | [],_=>by simp [findK]
 | e::es,h=>by
  simp only [findK,yP,yM];by_cases hk:k=e.2.1
  ·simp [hk,h e (by simp)]
  ·rw [if_neg hk];have:=findK_get k es λx hx=>h x (by simp [hx])
   simp only [hk,false_or,← this,Option.map_map];cases findK k es <;> rfl
theorem findK_no (k:κ):∀ (es:List (Nat×κ×Bool)),findK k es=none→k∉es.map (λe=>e.2.1)
 | [],_=>by simp
 | e::es,h=>by
  simp only [findK] at h;split at h
  ·cases h
  ·rename_i hk;simp only [Option.map_eq_none_iff] at h;simp only [yP,yM,not_or];exact ⟨hk,findK_no k es h⟩
theorem findK_yes (k:κ):∀ (es:List (Nat×κ×Bool)) (p:Nat×Bool),findK k es=some p→k∈es.map (λe=>e.2.1)
 | [],_,h=>by simp [findK] at h
 | e::es,p,h=>by
  simp only [findK] at h;split at h
  ·rename_i hk;simp [hk]
  ·simp only [Option.map_eq_some_iff] at h;obtain ⟨q,h1,_⟩:=h;exact uv _ (findK_yes k es q h1)
theorem SetIs.get {m:GMap κ Bool} {l:List κ} (h:SetIs m l) (k:κ):(m.get? k).getD false=decide (k∈l):=by
 unfold GMap.get?;rw [findK_get k m.es h.tru];exact decide_eq_decide.2 (h.mem k)
theorem SetIs.empty:SetIs (GMap.empty:GMap κ Bool) []:=⟨λe he=>(by simp [GMap.empty] at he),λk=>by simp [GMap.empty]⟩
theorem modify_keys (f:Nat×κ×Bool→Nat×κ×Bool) (hf:∀ e,(f e).2.1=e.2.1):∀ (es:List (Nat×κ×Bool)) (i:Nat),(es.modify i f).map (λe=>e.2.1)=es.map (λe=>e.2.1)
 | [],_=>by simp
 | e::es,0=>by simp [hf]
 | e::es,i+1=>by simp [modify_keys f hf es i]
theorem modify_all {p:Nat×κ×Bool→Prop} (f:Nat×κ×Bool→Nat×κ×Bool) (hf:∀ e,p (f e)):∀ (es:List (Nat×κ×Bool)) (i:Nat),(∀ e∈es,p e)→∀ e∈es.modify i f,p e
 | [],_,_=>by simp
 | e::es,0,h=>by
  intro x hx;simp only [List.modify_zero_cons,yM] at hx;rcases hx with rfl | hx
  ·exact hf e
  ·exact h x (by simp [hx])
 | e::es,i+1,h=>by
  intro x hx;simp only [List.modify_succ_cons,yM] at hx;rcases hx with rfl | hx
  ·exact h x (by simp)
  ·exact modify_all f hf es i (λy hy=>h y (by simp [hy])) x hx
theorem SetIs.put {m:GMap κ Bool} {l:List κ} (h:SetIs m l) (k:κ):SetIs (m.put k true) (l++[k]):=by
 unfold GMap.put;cases hk:findK k m.es with
 | none=>
  simp only [];refine ⟨λe he=>?_,λx=>?_⟩
  ·simp only [yK,yS] at he;rcases he with he | rfl
   ·exact h.tru e he
   ·rfl
  ·simp only [ul,yP,List.map_nil,yK,yS,h.mem x]
 | some p=>
  obtain ⟨i,b⟩:=p;simp only [];have hkl:k∈l:=(h.mem k).1 (findK_yes k m.es _ hk);refine ⟨modify_all (p:=λe=>e.2.2=true) _ (λe=>rfl) m.es i h.tru,λx=>?_⟩;rw [modify_keys (λe:Nat×κ×Bool=>(e.1,e.2.1,true)) (λe=>rfl) m.es i,h.mem x];simp only [yK,yS];exact ⟨.inl,λhx=>hx.elim id λe=>by rw [e];exact hkl⟩
end
end Go.Proofs.YtcagdmegicijlaaGreatDoor
