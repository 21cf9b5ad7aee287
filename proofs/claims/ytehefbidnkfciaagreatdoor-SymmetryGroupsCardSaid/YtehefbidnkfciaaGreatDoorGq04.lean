/- Part of the proof of one law of the seat. -/
import Derived.Test.YtehefbidnkfciaaGreatDoorGq03
import Derived.Shelf.SlGeneric
import Derived.Ground.SlsfProg
set_option linter.unusedVariables false
set_option linter.unusedSectionVars false
set_option linter.unusedSimpArgs false
set_option maxHeartbeats 4000000
namespace Go.Proofs.YtehefbidnkfciaaGreatDoor
open Go Go.RowKit
theorem zhC (n t0 r) (h:zfl n t0=some r):Pure pg 158 [.str t0] (.bool r):=by
 refine Pure.ot Tryz.func158 I Tryz.ntmps158 I λA w=>.sA 1 I<|.seq<|.plain 8 I<|.A 1 I<|.p I (.len_str I U9 I)<|.A 2 I<|gK h λc2 h=>.jA 3 (((zen n t0).getD default)==1) I (λb1=>?_) ?_
 ·refine .A 1 I<|.q I (.call I (kC I) I (zlH _ _ _ (someD (impT c2 b1))))<|.A 1 I<|.nil I
 refine .nil<|.A 1 I<|.nil<|.ret (rO h I)
theorem zhd (n t0 t1 r) (h:zcu n t0 t1=some r):Pure pg 209 [.int t0,.ref (eA t1)] (.bool r):=by
 refine Pure.ot Tryz.func209 I Tryz.ntmps209 I λA w=>.sA 1 I<|.seq<|.plain 8 I<|.A 3 I<|.jO 4 (decide ((t1.length:Int)≤t0)) I (λb1=>?_) ?_
 ·refine .A 2 I<|.q I (.len I U22 I)<|.A 1 I<|.nil I
 refine .nil<|.A 1 I<|.nil<|.ret (rO h I)
theorem zie (n t0 t1 r) (h:zdO n t0 t1=some r):Pure pg 160 [eA t0,eA t1] (.bool r):=by
 refine Pure.ot Tryz.func160 I Tryz.ntmps160 I λA w=>.sA 2 I<|.seq<|.plain 9 I<|.A 1 I<|.p I (.len I U22 I)<|.A 2 I<|gK h λc2 h=>.jA 4 (!((zG n t1 (λq0=>zcu n q0 t0)).getD default)) I (λb1=>?_) ?_
 ·refine .A 1 I<|.q I (.makeFunc I I)<|.q I (.call I (kC I) I (zbq _ _ _ _ (λq0 y hq=>⟨_,_,I,K209,zhd _ q0 _ _ hq⟩) _ (someD (impT c2 b1))))<|.A 1 I<|.nil I
 refine .nil<|.A 1 I<|.nil<|.ret (rO h I)
theorem zjF (n t0 r) (h:zeM n t0=some r):Pure pg 161 [Table.enc t0] (.bool r):=by
 refine Pure.ot Tryz.func161 I Tryz.ntmps161 I λA w=>.sA 2 I<|.seq<|.sr<|.p I (.fa I (zcY _))<|.A 1 I<|.nil<|.block<|.J [1] h (λv=>[(5,.d (.bool v))]) (λv=>[]) I (λk_2 h=>?_) (λx1 h=>?_)
 ·refine .sA 2 I<|.condS I h (λh=>?_) λh=>?_
  ·refine .skip (ndE h I)
  ·refine .sA 2 I<|.condS I h (λh=>?_) λh=>?_
   ·refine .skip (ndE h I)
   ·refine .rA 2 I (ndE h I)
 ·refine .condS I h (λh=>?_) λh=>?_
  ·refine .seq<|.plain 19 I<|.p I (.fa I (zdV _))<|.p I (.fa I (G85_0 _))<|.A 1 I<|.p I (.fa I (zdV _))<|.p I (.fa I (G85_1 _))<|.A 3 I<|.jA 4 (decide ((-9999)≤t0.range.lo)) I (λb3=>?_) ?_
   ·refine .q I (.fa I (zdV _))<|.q I (.fa I (G85_0 _))<|.A 2 I<|.nil I
   refine .A 1 I<|.jA 4 (decide (t0.range.hi≤9999)) I (λb4=>?_) ?_
   ·refine .q I (.fa I (zdV _))<|.q I (.fa I (G85_1 _))<|.A 2 I<|.nil I
   refine .nil<|.A 1 I<|.nil<|.K [2] I<|.ret (rO h I)
  ·refine .skip<|.K [1] I<|.sr<|.p I (.fa I (zdV _))<|.A 1 I<|.p I (.castD (Range.enc (⟨0,1⟩:Range)) I (.build I Pl85 (.agg Zc85 (ds':=[_,_]) (.e .e1)) I I))<|.p I (.seql I SE85 I I (xs:=Range.vals _) (ys:=Range.vals _) I I I I (SQ85 _ _))<|.A 1 I<|.nil<|.ret (rO h I)
theorem zdI (n t0 r) (h:zb4 n t0=some r):Pure pg 162 [Table.enc t0] (.bool r):=by
 refine Pure.ot Tryz.func162 I Tryz.ntmps162 I λA w=>.sA 2 I<|.seq<|.plain 8 I<|.p I (.fa I (zcY _))<|.A 3 I<|.jO 3 (t0.kind==1) I (λb1=>?_) ?_
 ·refine .q I (.fa I (zcY _))<|.A 2 I<|.nil I
 refine .nil<|.A 1 I<|.nil<|.ret (rO h I)
theorem zdP (n t0 t1 r) (h:za6 n t0 t1=some r):Pure pg 163 [eA t0,eA t1] (.int r):=by
 refine Pure.ot Tryz.func163 I Tryz.ntmps163 I λA w=>.sA 1 I<|.sA 1 I<|.seq<|.S 1 I<|.p I (.len I U22 I)<|.A 1 I<|.nil<|.block<|.L [0,8,9] h (λv=>[(5,.d (.int v.1)),(10,.d (.int v.2))]) (λv=>[]) I λ_ ⟨x9,x10⟩ h=>.sA 1 I<|.seq<|.condS I h (λh=>?_) λh=>?_
 ·refine .skip<|.seq<|.block<|.sr<|.X h I λx12 h=>.A 2 I<|.nil<|.region<|.A 3 I<|.X h I λx13 h=>.A 3 I<|.nil<|.rA 2 I (ndE h I)
 ·refine .exit<|.sA 2 I<|.ret (rO h I)
theorem ze1 (n t0 t1 r) (h:zbL n t0 t1=some r):Pure pg 131 [eA t0,eB t1] (.bool r):=by
 refine Pure.ot Tryz.func131 I Tryz.ntmps131 I λA w=>.sA 1 I<|.seq<|.S 1 I<|.p I (.len I U22 I)<|.A 2 I<|.p I (.len I U23 I)<|.A 2 I<|.Z h I (zkz _ _) λx1 h=>.p I (.buildSl [_,_,_] I I E244 I (λ_=>I) I (enc:=D.bool))<|.Z h I (ziQ _ _) λx2 h=>.A 1 I<|.nil<|.condS I h (λh=>?_) λh=>?_
 ·refine .sA 1 I<|.ret (rO h I)
 ·refine .skip<|.sr<|.makeMap (λl:List UInt8=>Value.string ⟨l.toArray⟩) D.bool I I I I<|.A 1 I<|.nil<|.sr<|.allocZ I I I I (.val Zv3) I<|.allocZ I I I I (.val Zv3) I<|.store I I I I I I (.ofD I) C3 I (yd I)<|.store I I I I I I (.ofD I) C3 I (yd I)<|.nil<|.K [0,1,5,6,7] I<|.seq<|.S 1 I<|.p I (.len I U23 I)<|.A 1 I<|.nil<|.block<|.L [0,5,6,7,23,24] h (λv=>[(25,.d (.int v.2.2.2))]) (λv=>[(0,GMap.blk (λl:List UInt8=>Value.string ⟨l.toArray⟩) D.bool v.1),(1,.box 3 [.d (.int v.2.1)]),(2,.box 3 [.d (.int v.2.2.1)])]) I λ_ ⟨m0_37,c1_0_38,c2_0_39,x40⟩ h=>.sA 1 I<|.K [0,5,6,7,23,24,25,26] I<|.seq<|.condS I h (λh=>?_) λh=>?_
  ·refine .skip<|.J [0,5,6,7,23,24,25] h (λv=>[]) (λv=>[(0,GMap.blk (λl:List UInt8=>Value.string ⟨l.toArray⟩) D.bool v.1),(1,.box 3 [.d (.int v.2.1)]),(2,.box 3 [.d (.int v.2.2)])]) I (λk_45 h=>?_) (λv h=>?_)
   ·refine .block<|.sr<|.X h I λx46 h=>.A 1 I<|.allocStore I I I I I I I I (by simp) I I Z118<|.nil<|.seq<|.seq<|.draw 20 Hm (by kernel_rfl) (by kernel_rfl)<|.p I (.fa I (zjw _))<|.A 1 I<|.Z h I (zhC _ _) λx47 h=>.A 1 I<|.p I (.fa I (zjw _))<|.A 1 I<|.p I (.mapGet I U201 KT9 I I I (z:=(false:Bool)) (.val Zv4))<|.A 1 I<|.p I (.fa I (zcY _))<|.A 1 I<|.Z h I (zgd _ _ _ _) λx48 h=>.A 1 I<|.p I (.fa I (zbF _))<|.A 1 I<|.Z h I (zie _ _ _) λx49 h=>.A 1 I<|.Z h I (zjF _ _) λx50 h=>.p I (.buildSl [_,_,_,_,_] I I E244 I (λ_=>I) I (enc:=D.bool))<|.Z h I (ziQ _ _) λx51 h=>.A 1 I<|.nil<|.nil<|.K [0,5,6,7,9,23,24,25,48] I<|.condS I h (λh=>?_) λh=>?_
    ·refine .sA 1 I<|.ret (rO h I)
    ·refine .skip<|.S 1 I<|.p I (.fa I (zjw _))<|.A 1 I<|.mapPut (k:=x46.name) (v:=true) I I I U201 KT9 I I I I<|.nil<|.sA 1 I<|.seq<|.S 1 I<|.Z h I (zdI _ _) λx52 h=>.nil<|.condS I h (λh=>?_) λh=>?_
     ·refine .rA 1 I<|.seq<|.seq<|.draw 6 Hm (by kernel_rfl) (by kernel_rfl)<|.p I (.fa I (zgZ _))<|.A 2 I<|.p I (.nilCheck_loc I I I)<|.p I (.loadLoc1 I I I Y3 I)<|.A 1 I<|.nil<|.nil<|.condS I h (λh=>?_) λh=>?_
      ·refine .sA 1 I<|.ret (rO h I)
      ·refine .skip<|.draw 9 Hm (by kernel_rfl) (by kernel_rfl)<|.A 1 I<|.p I (.nilCheck_loc I I I)<|.p I (.loadLoc1 I I I Y3 I)<|.A 1 I<|.p I (.fa I (zbF _))<|.A 1 I<|.Z h I (zdP _ _ _) λx53 h=>.A 1 I<|.p I (.nilCheck_loc I I I)<|.nil<|.store I I I I I I (.ofD I) C3 I (yd I)<|.nil (ndE h I)
     ·refine .skip<|.seq<|.seq<|.draw 6 Hm (by kernel_rfl) (by kernel_rfl)<|.p I (.fa I (zgZ _))<|.A 2 I<|.p I (.nilCheck_loc I I I)<|.p I (.loadLoc1 I I I Y3 I)<|.A 1 I<|.nil<|.nil<|.condS I h (λh=>?_) λh=>?_
      ·refine .sA 1 I<|.ret (rO h I)
      ·refine .skip<|.draw 9 Hm (by kernel_rfl) (by kernel_rfl)<|.A 1 I<|.p I (.nilCheck_loc I I I)<|.p I (.loadLoc1 I I I Y3 I)<|.A 1 I<|.p I (.fa I (zbF _))<|.A 1 I<|.Z h I (zdP _ _ _) λx54 h=>.A 1 I<|.p I (.nilCheck_loc I I I)<|.nil<|.store I I I I I I (.ofD I) C3 I (yd I)<|.nil (ndE h I)
   ·obtain ⟨m0_42,c1_0_43,c2_0_44⟩:=v
    refine .rA 2 I (ndE h I)
  ·refine .exit<|.seq<|.plain 6 I<|.p I (.loadLoc1 I I I Y3 I)<|.A 2 I<|.jA 2 (decide (c2_0_39≤64)) I (λb55=>?_) ?_
   ·refine .q I (.loadLoc1 I I I Y3 I)<|.A 1 I<|.nil I
   refine .nil<|.A 1 I<|.nil<|.ret (rO h I)
theorem zfp (n t0 r) (h:zau n t0=some r):Pure pg 132 [eC t0] (.bool r):=by
 refine Pure.ot Tryz.func132 I Tryz.ntmps132 I λA w=>.sA 1 I<|.sr<|.makeMap (λl:List UInt8=>Value.string ⟨l.toArray⟩) D.bool I I I I<|.A 1 I<|.nil<|.seq<|.S 1 I<|.p I (.len I U24 I)<|.A 1 I<|.nil<|.block<|.L [3,7,8] h (λv=>[(9,.d (.int v.2))]) (λv=>[(0,GMap.blk (λl:List UInt8=>Value.string ⟨l.toArray⟩) D.bool v.1)]) I λ_ ⟨m0_11,x12⟩ h=>.sA 1 I<|.K [3,7,8,9,10] I<|.seq<|.condS I h (λh=>?_) λh=>?_
 ·refine .skip<|.seq<|.block<|.sr<|.X h I λx14 h=>.A 2 I<|.nil<|.seq<|.seq<|.plain 8 I<|.A 1 I<|.Z h I (zhC _ _) λx15 h=>.A 2 I<|.jO 3 ((m0_11.get? x14).getD false) I (λb16=>?_) ?_
  ·refine .A 2 I<|.q I (.mapGet I U201 KT9 I I I (z:=(false:Bool)) (.val Zv4))<|.nil I
  refine .nil<|.nil<|.condS I h (λh=>?_) λh=>?_
  ·refine .sA 1 I<|.ret (rO h I)
  ·refine .skip<|.region<|.A 2 I<|.mapPut (k:=x14) (v:=true) I I I U201 KT9 I I I I<|.nil<|.rA 2 I (ndE h I)
 ·refine .exit<|.sA 1 I<|.ret (rO h I)
theorem zhE (n t0 t1 r) (h:zeu n t0 t1=some r):Pure pg 244 [.val (.int .u64 t0),.val (.int .u64 t1)] (.tup [.val (.int .u64 r.1),.val (.int .u64 r.2)]):=by
 refine Pure.ot Tryz.func244 I Tryz.ntmps244 I λA w=>.sA 2 I<|.S 1 I<|.p I (.band I I I)<|.A 1 I<|.nil<|.S 1 I<|bK h λx1 q1 h=>.p I (.shr I I I q1)<|.A 1 I<|.nil<|.S 1 I<|.p I (.band I I I)<|.A 1 I<|.nil<|.S 1 I<|bK h λx2 q2 h=>.p I (.shr I I I q2)<|.A 1 I<|.nil<|.S 2 I<|.p I (.mul I I I)<|.A 1 I<|.nil<|.K [0,1,6,7,8,9,10] I<|.S 2 I<|.p I (.mul I I I)<|.A 1 I<|bK h λx3 q3 h=>.p I (.shr I I I q3)<|.p I (.add I I I)<|.A 1 I<|.nil<|.S 1 I<|.p I (.band I I I)<|.A 1 I<|.nil<|.S 1 I<|bK h λx4 q4 h=> ?_
 refine .p I (.shr I I I q4)<|.A 1 I<|.nil<|.S 3 I<|.p I (.mul I I I)<|.p I (.add I I I)<|.A 1 I<|.nil<|.K [0,1,7,9,12,13] I<|.S 2 I<|.p I (.mul I I I)<|.A 1 I<|.p I (.add I I I)<|.A 1 I<|bK h λx5 q5 h=>.p I (.shr I I I q5)<|.p I (.add I I I)<|.A 1 I<|.nil<|.S 2 I<|.p I (.mul I I I)<|.A 1 I<|.nil<|.ret ?_
 cases h
 exact zbI I I (.d _) (.d _)
theorem zja (n t0 t1 r) (h:zej n t0 t1=some r):Pure pg 210 [.val (.int .u64 t0),.val (.int .u64 t1)] (.tup [.val (.int .u64 r.1),.val (.int .u64 r.2)]):=by
 refine Pure.ot Tryz.func210 I Tryz.ntmps210 I λA w=>.sA 2 I<|.seq<|.condF I<|.skip<|.S 2 I<|.Z h I (zhE _ _ _) λx1 h=>.A 1 I<|.p I (.extract I I I)<|.p I (.extract I I I)<|.A 2 I<|.nil<|.sA 4 I<|.ret ?_
 cases h
 exact zbI I I (.d _) (.d _)
theorem zdE (n t0 t1 r) (h:zQ n t0 t1=some r):Pure pg 164 [eK t0,.int t1] (eK r):=by
 refine Pure.ot Tryz.func164 I Tryz.ntmps164 I λA w=>.sr<|.p I (.nilS 2 (α:=Range) Range.enc I)<|.nil<|.seq<|.sA 2 I<|.condS I h (λh=>?_) λh=>?_
 ·refine .region ?_
  cases h
 ·refine .skip<|.S 1 I<|.p I (.len I U82 I)<|.p I (.conv I U3 U184 I)<|.A 1 I<|.p I (.conv I U3 U184 I)<|.Z h I (zja _ _ _) λx1 h=>.A 1 I<|.p I (.extract I I I)<|.p I (.extract I I I)<|.A 2 I<|.nil<|.seq<|.seq<|.plain 6 I<|.A 3 I<|.jO 2 (decide (9223372036854775807<x1.2)) I (λb2=>?_) ?_
  ·refine .A 2 I<|.nil I
  refine .nil<|.nil<|.K [0,6,26] I<|.condS I h (λh=>?_) λh=>?_
  ·refine .region ?_
   cases h
  ·refine .skip<|.S 1 I<|.p I (.conv I U184 U3 I)<|bK h λx3 q3 h=>.makeVec (enc:=Range.enc) (z:=(⟨0,0⟩:Range)) I I I I E82 I I I (.agg Zc85 (ds':=[.int 0,.int 0]) (.e .e1)) q3<|.A 1 I<|.nil<|.S 2 I<|.asSub 31 I<|.copySub (enc:=Range.enc) (l:=x3) (ys:=t0) I I I I E82 I I I (.d I) (λ_=>I)<|.relen 7 I (zjI _ t0).symm<|.relen 30 I (zjI _ t0).symm<|.A 1 I<|.nil<|.seq<|.block<|.L [] h (λv=>[(7,.vec 0 (List.length v.1)),(8,.d (.int v.2))]) (λv=>[(0,.vec 85 2 (List.map Range.enc v.1))]) I λ_ ⟨b0_12,x13⟩ h=>.seq<|.S 2 I<|.p I (.lenV I U82 I I I)<|.A 1 I<|.nil<|.K [7,8,37] I<|.condS I h (λh=>?_) λh=>?_
   ·refine .skip<|.block<|.drawF 7 [0] Hm (by kernel_rfl) (by kernel_rfl)<|.A 3 I<|bK h λx15 q15 h=>.p I (.subL I I I I I U82 S85 q15)<|.A 2 I<|bK h λx16 q16 h=>.p I (.subH I I I I I U82 S85 q16)<|.nil ⟨.move I I .nil,?_⟩
    refine .copySub (enc:=Range.enc) (l:=b0_12) (ys:=((b0_12.drop 0).take (x13.toNat - 0))) I I I I E82 I I I (.sub I I I) (λ_=>I)<|.relen 7 I (zhe q15 ((b0_12.drop 0).take (x13.toNat - 0))).symm<|.relen 39 I (zhe q15 ((b0_12.drop 0).take (x13.toNat - 0))).symm<|.relen 42 I (zhe q15 ((b0_12.drop 0).take (x13.toNat - 0))).symm<|.A 2 I<|.nil (ndE h I)
   ·refine .exit<|.sA 2 I<|.ret ?_
    cases h
    exact zb9 I (.vec I (by simp))
theorem zjD (n t0 t1 t2 r) (h:zbY n t0 t1 t2=some r):Pure pg 133 [eA t0,eB t1,.bool t2] (eK r):=by
 refine Pure.ot Tryz.func133 I Tryz.ntmps133 I λA w=>.sr<|.p I (.nilS 2 (α:=Range) Range.enc I)<|.nil<|.seq<|.S 2 I<|.Z h I (ze1 _ _ _) λx1 h=>.A 1 I<|.nil<|.condS I h (λh=>?_) λh=>?_
 ·refine .sr<|.p I (.nilS 2 (α:=Range) Range.enc I)<|.nil<|.ret ?_
  cases h
  exact zb9 I (.d _)
 ·refine .skip<|.S 1 I<|.nilVec 7 2 85 I<|.nil<|.seq<|.S 1 I<|.p I (.len I U23 I)<|.A 1 I<|.nil<|.block<|.L [0,2,14,15] h (λv=>[(7,.vec 0 (List.length v.1)),(16,.d (.int v.2))]) (λv=>[(0,.vec 85 2 (List.map Range.enc v.1))]) I λ_ ⟨b0_20,x21⟩ h=>.sA 1 I<|.K [0,2,7,14,15,16,17] I<|.seq<|.condS I h (λh=>?_) λh=>?_
  ·refine .skip<|.J [0,2,14,15,16] h (λv=>[(7,.vec 0 (List.length v))]) (λv=>[(0,.vec 85 2 (List.map Range.enc v))]) I (λk_24 h=>?_) (λb0_23 h=>?_)
   ·refine .block<|.sr<|.X h I λx25 h=>.A 1 I<|.allocStore I I I I I I I I (by simp) I I Z118<|.nil<|.S 1 I<|.Z h I (zdI _ _) λx26 h=>.A 1 I<|.p I (.beq I U4 I I)<|.nil<|.condS I h (λh=>?_) λh=>?_
    ·refine .draw 9 Hm (by kernel_rfl) (by kernel_rfl)<|.A 1 I<|.p I (.fa I (zdV _))<|.A 1 I<|.p I (.buildSl [_] I I E82 I (λ_=>I) I (enc:=Range.enc))<|.A 1 I<|.p I (.fa I (zbF _))<|.A 1 I<|.Z h I (zdP _ _ _) λx27 h=>.Z h I (zdE _ _ _) λx28 h=>.nil<|bK h λx29 q29 h=>.app I I I I I I I I E82 I (λ_=>I) q29<|.A 1 I<|.nil (ndE h I)
    ·refine .skip (ndE h I)
   ·refine .rA 2 I (ndE h I)
  ·refine .exit<|.sA 2 I<|.ret ?_
   cases h
   exact zb9 I (.vec I (by simp))
theorem zcz (n t0 t1 r) (h:zas n t0 t1=some r):Pure pg 165 [.int t0,.int t1] (.bool r):=by
 refine Pure.ot Tryz.func165 I Tryz.ntmps165 I λA w=>.sA 1 I<|.seq<|.plain 7 I<|.A 3 I<|.jA 3 (decide (t0<t1)) I (λb1=>?_) ?_
 ·refine .A 3 I<|.nil I
 refine .nil<|.A 1 I<|.nil<|.ret (rO h I)
theorem zdz (n t0 t1 r) (h:zaE n t0 t1=some r):Pure pg 171 [.int t0,.int t1] (.bool r):=by
 refine Pure.ot Tryz.func171 I Tryz.ntmps171 I λA w=>.sA 1 I<|.seq<|.plain 9 I<|.A 2 I<|.p I (.neg6 I I)<|.A 2 I<|.jA 3 (decide (t0≤t1)) I (λb1=>?_) ?_
 ·refine .A 3 I<|.nil I
 refine .nil<|.A 1 I<|.nil<|.ret (rO h I)
theorem zeR (n t0 t1 r) (h:zaA n t0 t1=some r):Pure pg 166 [Judge.enc t0,Row.enc t1] (.bool r):=by
 refine Pure.ot Tryz.func166 I Tryz.ntmps166 I λA w=>.sA 3 I<|.sA 1 I<|.seq<|.sr<|.p I (.fa I (G72_0 _))<|.A 1 I<|.p I (.len I U70 I)<|.A 1 I<|.nil<|.block<|.L [2,3,9,10] h (λv=>[(5,.d (.int v.1)),(11,.d (.int v.2))]) (λv=>[]) I λ_ ⟨x15,x16⟩ h=>.sA 1 I<|.seq<|.condS I h (λh=>?_) λh=>?_
 ·refine .skip<|.seq<|.block<|.sr<|.X h I λx18 h=>.A 1 I<|.allocStore I I I I I I I I (by simp) I I Z129<|.nil<|.seq<|.seq<|.plain 23 I<|.A 5 I<|.jO 6 (decide ((t0.strict.length:Int)≤x18.cell)) I (λb19=>?_) ?_
  ·refine .A 2 I<|.q I (.fa I (zl4 _))<|.A 1 I<|.q I (.len I U82 I)<|.A 1 I<|.nil I
  refine .A 1 I<|.jO 3 (x18.factor==0) I (λb20=>?_) ?_
  ·refine .q I (.fa I (ziG _))<|.A 2 I<|.nil I
  refine .A 1 I<|gK h λc22 h=>.jO 4 (!((zaE n x18.factor 1000).getD default)) I (λb21=>?_) ?_
  ·refine .q I (.fa I (ziG _))<|.A 1 I<|.q I (.call I (kC I) I (zdz _ _ _ _ (someD (impF c22 b21))))<|.A 1 I<|.nil I
  refine .nil<|.nil<|.K [2,3,7,9,10,11,37] I<|.condS I h (λh=>?_) λh=>?_
  ·refine .sA 1 I<|.ret (rO h I)
  ·refine .skip<|.rA 3 I<|.rA 2 I (ndE h I)
 ·refine .exit<|.sr<|.p I (.fa I (G72_1 _))<|.A 1 I<|.Z h I (zdz _ _ _) λx23 h=>.A 1 I<|.nil<|.ret (rO h I)
theorem zga (n t0 t1 t2 r) (h:zbp n t0 t1 t2=some r):Pure pg 212 [Table.enc t0,.ref (Constraint.enc t1),.ref (Judge.enc t2)] (.bool r):=by
 refine Pure.ot Tryz.func212 I Tryz.ntmps212 I λA w=>.sA 2 I<|.seq<|.draw 42 Hm (by kernel_rfl) (by kernel_rfl)<|.p I (.fa I (zcY _))<|.A 3 I<|.jA 4 ((t0.columns.length:Int)==2) I (λb1=>?_) ?_
 ·refine .q I (.fa I (zbF _))<|.A 1 I<|.q I (.len I U22 I)<|.A 1 I<|.nil I
 refine .A 1 I<|gK h λc3 h=>gK h λc4 h=>.jA 9 (((idx t0.columns 0).getD default)==((idx t0.columns 1).getD default)) I (λb2=>?_) ?_
 ·refine .q I (.fa I (zbF _))<|.A 1 I<|.q I (.ix I U22 S3 (someD (impT c3 b2)))<|.A 1 I<|.q I (.fa I (zbF _))<|.A 1 I<|.q I (.ix I U22 S3 (someD (impT c4 b2)))<|.A 2 I<|.nil I
 refine .A 1 I<|.jA 5 (t0.first==t1.first) I (λb5=>?_) ?_
 ·refine .q I (.fa I (zgZ _))<|.A 1 I<|.q I (.fa I (zoB _))<|.A 2 I<|.nil I
 refine .A 1 I<|gK h λc7 h=>gK h λc8 h=>.jA 12 (((idx t2.model.sorts ((idx t0.columns 0).getD default)).getD default)==t1.size) I (λb6=>?_) ?_
 ·refine .q I (.fa I (zcc _))<|.A 2 I<|.q I (.fa I (zbF _))<|.A 1 I<|.q I (.ix I U22 S3 (someD (impT c7 b6)))<|.A 1 I<|.q I (.ix I U22 S3 (someD (impT c8 b6)))<|.A 1 I<|.q I (.fa I (zoC _))<|.A 2 I<|.nil I
 refine .A 1 I<|.nil<|.nil<|.K [4] I<|.ret (rO h I)
theorem zc8 (n t0) (t1:Table→Option Bool) (F1:D) (hF1:∀ (q0:Table) (y:Bool),t1 q0=some y→Dyn pg F1 [Table.enc q0] (.bool y)) (r) (h:zB n t0 t1=some r):Pure pg 245 [eB t0,F1] (.int r):=by
 refine Pure.ot Tryz.func245 I Tryz.ntmps245 I λA w=>.sA 1 I<|.seq<|.S 1 I<|.p I (.len I U23 I)<|.A 1 I<|.nil<|.block<|.L [0,1,7] h (λv=>[(8,.d (.int v))]) (λv=>[]) I λ_ x7 h=>.sA 1 I<|.seq<|.condS I h (λh=>?_) λh=>?_
 ·refine .skip<|.seq<|.block<|.sA 2 I<|.S 3 I<|.X h I λx9 h=>.A 1 I<|bK h λx10 q10 h=>.p I (.dyn I I I (hF1 _ _ q10))<|.nil<|.condS I h (λh=>?_) λh=>?_
  ·refine .sA 2 I<|.ret (rO h I)
  ·refine .skip<|.rA 2 I (ndE h I)
 ·refine .exit<|.sA 1 I<|.ret (rO h I)
theorem zcM (n t0) (t1:Table→Option Bool) (F1:D) (hF1:∀ (q0:Table) (y:Bool),t1 q0=some y→Dyn pg F1 [Table.enc q0] (.bool y)) (r) (h:zY n t0 t1=some r):Pure pg 211 [eB t0,F1] (.bool r):=by
 refine Pure.ot Tryz.func211 I Tryz.ntmps211 I λA w=>.sA 1 I<|.S 2 I<|.Z h I (zc8 _ _ _ _ hF1) λx1 h=>.A 2 I<|.nil<|.ret (rO h I)
theorem zgT (n t0 t1 r) (h:zbK n t0 t1=some r):Pure pg 167 [Judge.enc t0,Constraint.enc t1] (.bool r):=by
 refine Pure.ot Tryz.func167 I Tryz.ntmps167 I λA w=>.sA 3 I<|.seq<|.plain 18 I<|.p I (.fa I (zep _))<|.p I (.fa I (G72_0 _))<|.A 1 I<|.p I (.len I U70 I)<|.A 2 I<|.jA 4 (t1.row.bound==0) I (λb1=>?_) ?_
 ·refine .q I (.fa I (zep _))<|.q I (.fa I (G72_1 _))<|.A 2 I<|.nil I
 refine .A 1 I<|gK h λc3 h=>.jA 5 (((zY n t0.model.tables (λq0=>zbp n q0 t1 t0)).getD default)) I (λb2=>?_) ?_
 ·refine .q I (.fa I (zcc _))<|.A 2 I<|.q I (.makeFunc I I)<|.q I (.call I (kC I) I (zcM _ _ _ _ (λq0 y hq=>⟨_,_,I,K212,zga _ q0 _ _ _ hq⟩) _ (someD (impT c3 b2))))<|.nil I
 refine .nil<|.A 1 I<|.nil<|.K [4] I<|.ret (rO h I)
theorem zco (n t0 t1 r) (h:zy n t0 t1=some r):Pure pg 153 [eL t0,eL t1] (.bool r):=by
 refine Pure.ot Tryz.func153 I Tryz.ntmps153 I λA w=>.sA 1 I<|.seq<|.S 1 I<|.p I (.len I U70 I)<|.A 1 I<|.p I (.len I U70 I)<|.A 1 I<|.nil<|.condS I h (λh=>?_) λh=>?_
 ·refine .sA 1 I<|.ret (rO h I)
 ·refine .skip<|.seq<|.S 1 I<|.p I (.len I U70 I)<|.A 1 I<|.nil<|.block<|.L [0,1,12] h (λv=>[(13,.d (.int v))]) (λv=>[]) I λ_ x7 h=>.sA 1 I<|.seq<|.condS I h (λh=>?_) λh=>?_
  ·refine .skip<|.seq<|.block<|.sA 2 I<|.seq<|.draw 9 Hm (by kernel_rfl) (by kernel_rfl)<|.A 2 I<|.X h I λx9 h=>.A 3 I<|.X h I λx10 h=>.A 1 I<|.p I (.sneq I SE129 I I (xs:=Term.vals _) (ys:=Term.vals _) I I I I (SQ129 _ _))<|.nil<|.nil<|.condS I h (λh=>?_) λh=>?_
   ·refine .sA 1 I<|.ret (rO h I)
   ·refine .skip<|.rA 2 I (ndE h I)
  ·refine .exit<|.sA 1 I<|.ret (rO h I)
theorem zj4 (n t0 t1 t2 t3 r) (h:zdn n t0 t1 t2 t3=some r):Pure pg 168 [Row.enc t0,.int t1,.int t2,.int t3] (.bool r):=by
 refine Pure.ot Tryz.func168 I Tryz.ntmps168 I λA w=>.sA 2 I<|.seq<|.plain 13 I<|.p I (.fa I (G72_0 _))<|.A 3 I<|.p I (.castD (Term.enc (⟨t1,t2⟩:Term)) I (.build I Pl129 (.agg Zc129 (ds':=[_,_]) (.e .e1)) I I))<|.p I (.buildSl [_] I I E70 I (λ_=>I) I (enc:=Term.enc))<|.Z h I (zco _ _ _) λx1 h=>.A 1 I<|.jA 4 (t0.bound==t3) I (λb2=>?_) ?_
 ·refine .q I (.fa I (G72_1 _))<|.A 3 I<|.nil I
 refine .nil<|.A 1 I<|.nil<|.K [8] I<|.ret (rO h I)
theorem zeI (n t0 r) (h:zad n t0=some r):Pure pg 134 [Judge.enc t0] (.bool r):=by
 refine Pure.ot Tryz.func134 I Tryz.ntmps134 I λA w=>.sA 2 I<|.seq<|.seq<|.plain 16 I<|.p I (.fa I (zcc _))<|.A 2 I<|.p I (.len I U25 I)<|.A 2 I<|.jO 9 (decide ((t0.model.constraints.length:Int)<mul64 2 (t0.strict.length:Int))) I (λb1=>?_) ?_
 ·refine .q I (.fa I (zcc _))<|.A 2 I<|.q I (.len I U25 I)<|.q I (.fa I (zl4 _))<|.A 1 I<|.q I (.len I U82 I)<|.A 2 I<|.nil I
 refine .nil<|.nil<|.K [1,23] I<|.condS I h (λh=>?_) λh=>?_
 ·refine .sA 1 I<|.ret (rO h I)
 ·refine .skip<|.seq<|.sr<|.p I (.fa I (zcc _))<|.A 2 I<|.p I (.len I U25 I)<|.A 1 I<|.nil<|.block<|.L [1,26,27] h (λv=>[(28,.d (.int v))]) (λv=>[]) I λ_ x42 h=>.sA 1 I<|.seq<|.condS I h (λh=>?_) λh=>?_
  ·refine .skip<|.J [1,26,27,28] h (λv=>[]) (λv=>[]) I (λk_44 h=>?_) (λv h=>?_)
   ·refine .block<|.S 1 I<|.X h I λx45 h=>.A 1 I<|.allocZ I I I I (.agg Zc135 (ds':=[.int 0,.int 0,eL [],.int 0,.int 0,.int 0]) (.e (.e (.o (.e (.e .e1)))))) I<|.A 1 I<|.store I I I I I I (.ofD I) C135 I (yd I)<|.nil<|.J [1,3,4,26,27,28] h (λv=>[]) (λv=>[]) I (λk_46 h=>?_) (λv h=>?_)
    ·refine .block<|.sr<|.p I (.fieldAddrLoc I I I zqr)<|.p I (.loadLoc1 I I I Y3 I)<|.p I (.fa I (zcc _))<|.A 2 I<|.p I (.len I U24 I)<|.Z h I (zcz _ _ _) λx47 h=>.A 2 I<|.nil<|.condS I h (λh=>?_) λh=>?_
     ·refine .sA 1 I<|.K [2] I<|.ret (rO h I)
     ·refine .sr<|.p I (.fieldAddrLoc I I I znk)<|.p I (.loadLoc1 I I I Y3 I)<|.A 2 I<|.nil<|.K [1,3,4,26,27,28,42] I<|.condS I h (λh=>?_) λh=>?_
      ·refine .seq<|.plain 15 I<|.p I (.fieldAddrLoc I I I zqs)<|.p I (.loadLoc1 I I I Y3 I)<|.A 2 I<|.jO 3 (x45.size != 0) I (λb48=>?_) ?_
       ·refine .q I (.fieldAddrLoc I I I zqt)<|.q I (.loadLoc1 I I I Y3 I)<|.A 1 I<|.nil I
       refine .A 1 I<|gK h λc50 h=>.jO 5 (!((zaA n t0 x45.row).getD default)) I (λb49=>?_) ?_
       ·refine .A 1 I<|.q I (.fieldAddrLoc I I I zow)<|.q I (.loadLoc I I I Y72 (yd I) (v:=.d (Row.enc x45.row)) I)<|.q I (.call I (kC I) I (zeR _ _ _ _ (someD (impF c50 b49))))<|.A 1 I<|.nil I
       refine .nil<|.nil<|.condS I h (λh=>?_) λh=>?_
       ·refine .sA 1 I<|.K [2] I<|.ret (rO h I)
       ·refine .skip (ndE h I)
      ·refine .seq<|.plain 9 I<|.p I (.fieldAddrLoc I I I znk)<|.p I (.loadLoc1 I I I Y3 I)<|.A 2 I<|gK h λc52 h=>.jO 4 (!((zbK n t0 x45).getD default)) I (λb51=>?_) ?_
       ·refine .A 1 I<|.q I (.loadLoc I I I Y135 (yd I) (v:=.d (Constraint.enc x45)) I)<|.q I (.call I (kC I) I (zgT _ _ _ _ (someD (impF c52 b51))))<|.A 1 I<|.nil I
       refine .nil<|.A 1 I<|.nil<|.condS I h (λh=>?_) λh=>?_
       ·refine .sA 1 I<|.ret (rO h I)
       ·refine .skip (ndE h I)
    ·refine .S 1 I<|bK h λx53 q53 h=>.p I (.quo6 I I I q53)<|.p I (.fa I (zl4 _))<|.A 1 I<|.p I (.len I U82 I)<|.A 1 I<|.nil<|.K [1,3,4,26,27,28,76] I<|.condS I h (λh=>?_) λh=>?_
     ·refine .sr<|.p I (.fa I (zl4 _))<|.A 2 I<|bK h λx54 q54 h=>.p I (.quo6 I I I q54)<|.X h I λx55 h=>.A 1 I<|.allocStore I I I I I I I I (by simp) I I Z85<|.A 2 I<|.nil<|.J [1,3,4,26,27,28] h (λv=>[(6,.d (.int v.1)),(7,.d (.int v.2))]) (λv=>[]) I (λk_58 h=>?_) (λv h=>?_)
      ·refine .sr<|.p I (.fa I (G85_1 _))<|.A 2 I<|.nil<|.S 1 I<|bK h λx59 q59 h=>.p I (.rem6 I I I q59)<|.A 1 I<|.nil<|.K [1,3,4,5,6,7,26,27,28,87] I<|.condS I h (λh=>?_) λh=>?_
       ·refine .draw 5 Hm (by kernel_rfl) (by kernel_rfl)<|.p I (.fa I (G85_0 _))<|.A 1 I<|.p I (.neg6 I I)<|.A 2 I<|.nil<|.nil (ndE h I)
       ·refine .skip (ndE h I)
      ·obtain ⟨x56,x57⟩:=v
       refine .seq<|.plain 13 I<|.p I (.fieldAddrLoc I I I znk)<|.p I (.loadLoc1 I I I Y3 I)<|.A 2 I<|gK h λc61 h=>gK h λc62 h=>.jO 8 (!((zdn n x45.row ((quo64 x42 2).getD default) x56 x57).getD default)) I (λb60=>?_) ?_
       ·refine .q I (.fieldAddrLoc I I I zow)<|.q I (.loadLoc I I I Y72 (yd I) (v:=.d (Row.enc x45.row)) I)<|.A 1 I<|.q I (.quo6 I I I (someD (impF c61 b60)))<|.A 2 I<|.q I (.call I (kC I) I (zj4 _ _ _ _ _ _ (someD (impF c62 b60))))<|.A 1 I<|.nil I
       refine .nil<|.nil<|.K [1,26,27,28,103] I<|.condS I h (λh=>?_) λh=>?_
       ·refine .sA 1 I<|.ret (rO h I)
       ·refine .skip (ndE h I)
     ·refine .skip (ndE h I)
   ·refine .rA 2 I (ndE h I)
  ·refine .exit<|.sA 1 I<|.ret (rO h I)
theorem zev (n t0 t1 r) (h:za1 n t0 t1=some r):Pure pg 170 [.int t0,.ref (Judge.enc t1)] (.bool r):=by
 refine Pure.ot Tryz.func170 I Tryz.ntmps170 I λA w=>.sA 1 I<|.seq<|.plain 10 I<|.A 3 I<|.jO 6 (decide ((t1.model.sorts.length:Int)≤t0)) I (λb1=>?_) ?_
 ·refine .A 1 I<|.q I (.fa I (zcc _))<|.A 2 I<|.q I (.len I U22 I)<|.A 1 I<|.nil I
 refine .nil<|.A 1 I<|.nil<|.ret (rO h I)
theorem ze5 (n t0 r) (h:zK n t0=some r):Pure pg 135 [Judge.enc t0] (.bool r):=by
 refine Pure.ot Tryz.func135 I Tryz.ntmps135 I λA w=>.sA 2 I<|.S 1 I<|.nilVec 3 1 9 I<|.nil<|.seq<|.sr<|.p I (.fa I (zcc _))<|.A 2 I<|.p I (.len I U26 I)<|.A 1 I<|.nil<|.block<|.L [1,8,9] h (λv=>[(3,.vec 0 (List.length v.1)),(10,.d (.int v.2))]) (λv=>[(0,.vec 9 1 (List.map D.str v.1))]) I λ_ ⟨b0_13,x14⟩ h=>.sA 1 I<|.K [1,3,8,9,10,11] I<|.seq<|.condS I h (λh=>?_) λh=>?_
 ·refine .skip<|.seq<|.block<|.sr<|.X h I λx16 h=>.A 1 I<|.allocStore I I I I I I I I (by simp) I I Z133<|.nil<|.S 1 I<|.p I (.fa I (zoA _))<|.A 1 I<|.p I (.buildSl [_] I I E24 I (λ_=>I) I (enc:=D.str))<|bK h λx17 q17 h=>.app I I I I I I I I E24 I (λ_=>I) q17<|.A 1 I<|.nil<|.seq<|.plain 10 I<|.p I (.fa I (zfh _))<|.A 1 I<|.p I (.len I U22 I)<|.A 2 I<|gK h λc19 h=>.jO 4 (((zG n x16.sorts (λq0=>za1 n q0 t0)).getD default)) I (λb18=>?_) ?_
  ·refine .q I (.fa I (zfh _))<|.A 1 I<|.q I (.makeFunc I I)<|.q I (.call I (kC I) I (zbq _ _ _ _ (λq0 y hq=>⟨_,_,I,K170,zev _ q0 _ _ hq⟩) _ (someD (impF c19 b18))))<|.nil I
  refine .nil<|.nil<|.K [1,3,8,9,10,28] I<|.condS I h (λh=>?_) λh=>?_
  ·refine .sA 1 I<|.ret (rO h I)
  ·refine .skip<|.rA 2 I (ndE h I)
 ·refine .exit<|.seq<|.plain 7 I<|.A 1 I<|.p I (.lenV I U24 I I I)<|.A 2 I<|gK h λc21 h=>.jA 2 (((zau n b0_13).getD default)) I (λb20=>?_) ?_
  ·refine .A 1 I<|.q I (.callB I (kC I) (.cons I (.vec I (by simp)) .nil) I (zfp _ _ _ (someD (impT c21 b20))))<|.nil I
  refine .nil<|.A 1 I<|.nil<|.ret (rO h I)
theorem zf3 (n t0 r) (h:zcp n t0=some r):Pure pg 130 [.int t0] (.bool r):=by
 refine Pure.ot Tryz.func130 I Tryz.ntmps130 I λA w=>.sA 1 I<|.sA 4 I<|.ret (rO h I)
theorem z9 (n t0 t1 r) (h:zR n t0 t1=some r):Pure pg 85 [.int t0,.int t1] (.int r):=by
 refine Pure.ot Tryz.func85 I Tryz.ntmps85 I λA w=>.sA 1 I<|.S 1 I<|.Z h I (zf3 _ _) λx1 h=>.A 1 I<|.nil<|.S 1 I<|.Z h I (zf3 _ _) λx2 h=>.A 1 I<|.nil<|.seq<|.sA 1 I<|.condS I h (λh=>?_) λh=>?_
 ·refine .seq<|.sA 1 I<|.condS I h (λh=>?_) λh=>?_
  ·refine .sA 1 I<|.ret (rO h I)
  ·refine .skip<|.sA 1 I<|.ret (rO h I)
 ·refine .skip<|.seq<|.sA 1 I<|.condS I h (λh=>?_) λh=>?_
  ·refine .sA 1 I<|.ret (rO h I)
  ·refine .skip<|.seq<|.sA 3 I<|.condS I h (λh=>?_) λh=>?_
   ·refine .sA 1 I<|.ret (rO h I)
   ·refine .skip<|.seq<|.sA 3 I<|.condS I h (λh=>?_) λh=>?_
    ·refine .sA 1 I<|.K [4] I<|.ret (rO h I)
    ·refine .skip<|.sA 1 I<|.K [4] I<|.ret (rO h I)
theorem zeJ (n t0 t1 r) (h:zL n t0 t1=some r):Pure pg 172 [eA t0,eA t1] (.int r):=by
 refine Pure.ot Tryz.func172 I Tryz.ntmps172 I λA w=>.sA 1 I<|.seq<|.S 1 I<|.p I (.len I U22 I)<|.A 1 I<|.nil<|.block<|.L [0,1,9,10] h (λv=>[(11,.d (.int v))]) (λv=>[]) I λ_ x9 h=>.sA 1 I<|.seq<|.condS I h (λh=>?_) λh=>?_
 ·refine .skip<|.seq<|.block<|.S 1 I<|.X h I λx11 h=>.A 3 I<|.nil<|.seq<|.S 2 I<|.p I (.len I U22 I)<|.A 1 I<|.nil<|.condS I h (λh=>?_) λh=>?_
  ·refine .sA 1 I<|.ret (rO h I)
  ·refine .skip<|.S 2 I<|.X h I λx12 h=>.A 2 I<|.nil<|.S 2 I<|.Z h I (z9 _ _ _) λx13 h=>.A 1 I<|.nil<|.K [0,1,8,9,10,11] I<|.sA 2 I<|.condS I h (λh=>?_) λh=>?_
   ·refine .sA 2 I<|.ret (rO h I)
   ·refine .skip<|.rA 2 I (ndE h I)
 ·refine .exit<|.seq<|.S 1 I<|.p I (.len I U22 I)<|.A 1 I<|.p I (.len I U22 I)<|.A 1 I<|.nil<|.condS I h (λh=>?_) λh=>?_
  ·refine .sA 1 I<|.ret (rO h I)
  ·refine .skip<|.sA 1 I<|.ret (rO h I)
theorem zkx (n t0 t1 t2 t3 r) (h:za5 n t0 t1 t2 t3=some r):Pure pg 246 [eA t0,eB t1,.bool t2,.int t3] (.tup [.int r.1,eA r.2.1,.bool r.2.2]):=by
 refine Pure.ot Tryz.func246 I Tryz.ntmps246 I λA w=>.S 1 I<|.p I (.nilS 1 (α:=Int) D.int I)<|.A 1 I<|.nil<|.seq<|.seq<|.plain 8 I<|.A 2 I<|.Z h I (ze1 _ _ _) λx1 h=>.A 2 I<|.jO 2 (decide (t3<0)) I (λb2=>?_) ?_
 ·refine .A 2 I<|.nil I
 refine .nil<|.nil<|.condS I h (λh=>?_) λh=>?_
 ·refine .S 1 I<|.p I (.nilS 1 (α:=Int) D.int I)<|.A 1 I<|.nil<|.ret ?_
  cases h
  exact zgQ I I I (.d _) (.d _) (.d _)
 ·refine .skip<|.seq<|.S 1 I<|.p I (.len I U23 I)<|.A 1 I<|.nil<|.block<|.L [0,2,3,25,26] h (λv=>[(27,.d (.int v))]) (λv=>[]) I λ_ x73 h=>.sA 1 I<|.seq<|.condS I h (λh=>?_) λh=>?_
  ·refine .skip<|.seq<|.block<|.S 1 I<|.X h I λx75 h=>.A 1 I<|.allocZ I I I I (.agg Zc118 (ds':=[.str [],.int 0,eA [],.int 0,.int 0,.int 0]) (.e (.e (.o (.e (.e .e1)))))) I<|.A 1 I<|.store I I I I I I (.ofD I) C118 I (yd I)<|.nil<|.S 1 I<|.p I (.fieldAddrLoc I I I zqq)<|.p I (.loadLoc1 I I I Y3 I)<|.A 2 I<|.nil<|.seq<|.seq<|.plain 16 I<|.p I (.loadLoc I I I Y118 (yd I) (v:=.d (Table.enc x75)) I)<|.Z h I (zdI _ _) λx76 h=>.A 1 I<|.p I (.bne I U4 I I)<|.A 1 I<|.jO 2 (decide (sub64 t3 x75.first<0)) I (λb77=>?_) ?_
   ·refine .A 2 I<|.nil I
   refine .A 1 I<|gK h λc79 h=>.jO 6 (decide (((za6 n t0 x75.columns).getD default)≤sub64 t3 x75.first)) I (λb78=>?_) ?_
   ·refine .A 2 I<|.q I (.fieldAddrLoc I I I zl1)<|.q I (.loadLoc1 I I I Y22 I)<|.q I (.call I (kC I) I (zdP _ _ _ _ (someD (impF c79 b78))))<|.A 1 I<|.nil I
   refine .nil<|.nil<|.K [0,2,3,11,12,13,25,26,27,51] I<|.condS I h (λh=>?_) λh=>?_
   ·refine .exit<|.rA 2 I (ndE h I)
   ·refine .skip<|.sr<|.p I (.fieldAddrLoc I I I zl1)<|.p I (.loadLoc1 I I I Y22 I)<|.p I (.len I U22 I)<|bK h λx80 q80 h=>.makeVec (enc:=D.int) (z:=(0:Int)) I I I I E22 I I I (.val Zv3) q80<|.A 1 I<|.nil<|.seq<|.S 1 I<|.p I (.lenV I U22 I I I)<|.A 2 I<|.nil<|.block<|.L [0,11,12] h (λv=>[(13,.d (.int v.2.1)),(14,.vec 1 (List.length v.1)),(15,.d (.int v.2.2))]) (λv=>[(1,.vec 3 1 (List.map D.int v.1))]) I λ_ ⟨b1_99,x100,x101⟩ h=>.seq<|.sA 2 I<|.K [0,11,12,13,14,15,60] I<|.condS I h (λh=>?_) λh=>?_
    ·refine .skip<|.seq<|.block<|.S 1 I<|.p I (.fieldAddrLoc I I I zl1)<|.p I (.loadLoc1 I I I Y22 I)<|.A 1 I<|.X h I λx103 h=>.A 1 I<|.X h I λx104 h=>.A 2 I<|.nil<|.drawF 9 [5,6,7] Hm (by kernel_rfl) (by kernel_rfl)<|.A 4 I<|bK h λx105 q105 h=>.p I (.rem6 I I I q105)<|.A 2 I<|bK h λx106 q106 h=>.p I (.quo6 I I I q106)<|bK h λx107 q107 h=>.p I (.idxV I I I I I U22 S3 q107)<|.nil ⟨.move I I (.move I I (.ints I I I I .nil)),?_⟩
     refine bK h λb1_108 hb1_108 h=>.storeEl (enc:=D.int) I I I I I I I I I C3 hb1_108<|.relen 14 I (zfe hb1_108)<|.relen 71 I (zfe hb1_108)<|.A 1 I<|.nil<|.K [0,11,12,13,14,15] I<|.rA 3 I (ndE h I)
    ·refine .exit<|.sA 5 I<|.ret ?_
     cases h
     exact zgQ I I I (.d _) (.vec I (by simp)) (.d _)
  ·refine .exit<|.S 1 I<|.p I (.nilS 1 (α:=Int) D.int I)<|.A 1 I<|.nil<|.ret ?_
   cases h
   exact zgQ I I I (.d _) (.d _) (.d _)
theorem zgt (n t0 t1 r) (h:zbx n t0 t1=some r):Pure pg 214 [Judge.enc t0,Update.enc t1] (.bool r):=by
 refine Pure.ot Tryz.func214 I Tryz.ntmps214 I λA w=>.sA 3 I<|.sr<|.p I (.fa I (zcc _))<|.A 2 I<|.p I (.fa I (zcc _))<|.A 2 I<|.p I (.fa I (ziJ _))<|.A 1 I<|.Z h I (zkx _ _ _ _ _) λx1 h=>.A 1 I<|.p I (.extract I I I)<|.p I (.extract I I I)<|.p I (.extract I I I)<|.A 3 I<|.nil<|.K [2,3,5,7] I<|.seq<|.sA 2 I<|.condS I h (λh=>?_) λh=>?_
 ·refine .sA 1 I<|.ret (rO h I)
 ·refine .skip<|.sr<|.p I (.fa I (zcc _))<|.A 3 I<|.X h I λx2 h=>.A 1 I<|.allocStore I I I I I I I I (by simp) I I Z118<|.nil<|.sr<|.p I (.fa I (zcY _))<|.A 1 I<|.nil<|.block<|.J [3,8] h (λv=>[(51,.d (.bool v))]) (λv=>[]) I (λk_4 h=>?_) (λx3 h=>?_)
  ·refine .sA 2 I<|.condS I h (λh=>?_) λh=>?_
   ·refine .skip (ndE h I)
   ·refine .rA 2 I (ndE h I)
  ·refine .condS I h (λh=>?_) λh=>?_
   ·refine .seq<|.plain 13 I<|.p I (.fa I (ziI _))<|.A 3 I<|.jO 3 (t1.kind==1) I (λb5=>?_) ?_
    ·refine .q I (.fa I (ziI _))<|.A 2 I<|.nil I
    refine .A 1 I<|.jA 3 (t1.value==0) I (λb6=>?_) ?_
    ·refine .q I (.fa I (ziK _))<|.A 2 I<|.nil I
    refine .nil<|.A 1 I<|.nil<|.K [4] I<|.ret (rO h I)
   ·refine .seq<|.plain 19 I<|.p I (.fa I (ziI _))<|.A 3 I<|.jA 6 (decide (x2.range.lo≤t1.value)) I (λb7=>?_) ?_
    ·refine .q I (.fa I (ziK _))<|.A 1 I<|.q I (.fa I (zdV _))<|.q I (.fa I (G85_0 _))<|.A 2 I<|.nil I
    refine .A 1 I<|.jA 6 (decide (t1.value≤x2.range.hi)) I (λb8=>?_) ?_
    ·refine .q I (.fa I (ziK _))<|.A 1 I<|.q I (.fa I (zdV _))<|.q I (.fa I (G85_1 _))<|.A 2 I<|.nil I
    refine .nil<|.A 1 I<|.nil<|.K [4] I<|.ret (rO h I)
theorem zfL (n t0 t1 r) (h:zbd n t0 t1=some r):Pure pg 216 [Row.enc t0,.ref (Judge.enc t1)] (.bool r):=by
 refine Pure.ot Tryz.func216 I Tryz.ntmps216 I λA w=>.sA 2 I<|.S 2 I<|.Z h I (zeR _ _ _) λx1 h=>.A 2 I<|.nil<|.ret (rO h I)
theorem zdH (n t0) (t1:Row→Option Bool) (F1:D) (hF1:∀ (q0:Row) (y:Bool),t1 q0=some y→Dyn pg F1 [Row.enc q0] (.bool y)) (r) (h:zM n t0 t1=some r):Pure pg 247 [eH t0,F1] (.int r):=by
 refine Pure.ot Tryz.func247 I Tryz.ntmps247 I λA w=>.sA 1 I<|.seq<|.S 1 I<|.p I (.len I U60 I)<|.A 1 I<|.nil<|.block<|.L [0,1,7] h (λv=>[(8,.d (.int v))]) (λv=>[]) I λ_ x7 h=>.sA 1 I<|.seq<|.condS I h (λh=>?_) λh=>?_
 ·refine .skip<|.seq<|.block<|.sA 2 I<|.S 3 I<|.X h I λx9 h=>.A 1 I<|bK h λx10 q10 h=>.p I (.dyn I I I (hF1 _ _ q10))<|.nil<|.condS I h (λh=>?_) λh=>?_
  ·refine .sA 2 I<|.ret (rO h I)
  ·refine .skip<|.rA 2 I (ndE h I)
 ·refine .exit<|.sA 1 I<|.ret (rO h I)
theorem zdk (n t0) (t1:Row→Option Bool) (F1:D) (hF1:∀ (q0:Row) (y:Bool),t1 q0=some y→Dyn pg F1 [Row.enc q0] (.bool y)) (r) (h:zX n t0 t1=some r):Pure pg 215 [eH t0,F1] (.bool r):=by
 refine Pure.ot Tryz.func215 I Tryz.ntmps215 I λA w=>.sA 1 I<|.S 2 I<|.Z h I (zdH _ _ _ _ hF1) λx1 h=>.A 2 I<|.nil<|.ret (rO h I)
theorem zgr (n t0 t1 r) (h:zU n t0 t1=some r):Pure pg 173 [Judge.enc t0,Effect.enc t1] (.bool r):=by
 refine Pure.ot Tryz.func173 I Tryz.ntmps173 I λA w=>.sA 3 I<|.sA 1 I<|.seq<|.sr<|.p I (.fa I (G63_0 _))<|.A 1 I<|.p I (.len I U59 I)<|.A 1 I<|.nil<|.block<|.L [2,3,11,12] h (λv=>[(5,.d (.int v.1)),(13,.d (.int v.2))]) (λv=>[]) I λ_ ⟨x15,x16⟩ h=>.sA 1 I<|.seq<|.condS I h (λh=>?_) λh=>?_
 ·refine .skip<|.seq<|.block<|.sr<|.X h I λx18 h=>.A 1 I<|.allocStore I I I I I I I I (by simp) I I Z137<|.nil<|.seq<|.seq<|.plain 23 I<|.p I (.fa I (zf1 _))<|.A 4 I<|.jO 6 (decide ((t0.strict.length:Int)≤x18.cell)) I (λb19=>?_) ?_
  ·refine .q I (.fa I (zf1 _))<|.A 1 I<|.q I (.fa I (zl4 _))<|.A 1 I<|.q I (.len I U82 I)<|.A 1 I<|.nil I
  refine .A 1 I<|.jO 3 (x18.add==0) I (λb20=>?_) ?_
  ·refine .q I (.fa I (zjx _))<|.A 2 I<|.nil I
  refine .A 1 I<|gK h λc22 h=>.jO 4 (!((zaE n x18.add 1000000000).getD default)) I (λb21=>?_) ?_
  ·refine .q I (.fa I (zjx _))<|.A 1 I<|.q I (.call I (kC I) I (zdz _ _ _ _ (someD (impF c22 b21))))<|.A 1 I<|.nil I
  refine .nil<|.nil<|.K [2,3,7,11,12,13,39] I<|.condS I h (λh=>?_) λh=>?_
  ·refine .sA 1 I<|.ret (rO h I)
  ·refine .skip<|.region<|.p I (.fa I (zf1 _))<|.A 2 I<|.nil<|.rA 2 I (ndE h I)
 ·refine .exit<|.sA 1 I<|.seq<|.sr<|.p I (.fa I (G63_2 _))<|.A 1 I<|.p I (.len I U61 I)<|.A 1 I<|.nil<|.block<|.L [2,3,44,45] h (λv=>[(5,.d (.int v.1)),(46,.d (.int v.2))]) (λv=>[]) I λ_ ⟨x33,x34⟩ h=>.sA 1 I<|.seq<|.condS I h (λh=>?_) λh=>?_
  ·refine .skip<|.seq<|.block<|.sr<|.X h I λx36 h=>.A 1 I<|.allocStore I I I I I I I I (by simp) I I Z188<|.nil<|.seq<|.seq<|.plain 10 I<|.p I (.fa I (ziJ _))<|.A 4 I<|gK h λc38 h=>.jO 4 (!((zbx n t0 x36).getD default)) I (λb37=>?_) ?_
   ·refine .A 2 I<|.q I (.call I (kC I) I (zgt _ _ _ _ (someD (impF c38 b37))))<|.A 1 I<|.nil I
   refine .nil<|.nil<|.condS I h (λh=>?_) λh=>?_
   ·refine .sA 1 I<|.ret (rO h I)
   ·refine .skip<|.region<|.p I (.fa I (ziJ _))<|.A 2 I<|.nil<|.K [2,3,5,44,45,46] I<|.rA 2 I (ndE h I)
  ·refine .exit<|.seq<|.plain 17 I<|.p I (.fa I (G63_1 _))<|.A 1 I<|.p I (.len I U60 I)<|.A 2 I<|.jA 4 (decide ((t1.updates.length:Int)≤32)) I (λb39=>?_) ?_
   ·refine .q I (.fa I (G63_2 _))<|.A 1 I<|.q I (.len I U61 I)<|.A 1 I<|.nil I
   refine .A 1 I<|gK h λc41 h=>.jA 5 (!((zX n t1.hold (λq0=>zbd n q0 t0)).getD default)) I (λb40=>?_) ?_
   ·refine .q I (.fa I (G63_1 _))<|.A 1 I<|.q I (.makeFunc I I)<|.q I (.call I (kC I) I (zdk _ _ _ _ (λq0 y hq=>⟨_,_,I,K216,zfL _ q0 _ _ hq⟩) _ (someD (impT c41 b40))))<|.A 1 I<|.nil I
   refine .nil<|.A 1 I<|.nil<|.K [4] I<|.ret (rO h I)
theorem zf9 (n t0 r) (h:zC n t0=some r):Pure pg 136 [Judge.enc t0] (.bool r):=by
 refine Pure.ot Tryz.func136 I Tryz.ntmps136 I λA w=>.sA 2 I<|.seq<|.sr<|.p I (.fa I (zcc _))<|.A 2 I<|.p I (.len I U27 I)<|.A 1 I<|.nil<|.condS I h (λh=>?_) λh=>?_
 ·refine .sA 1 I<|.ret (rO h I)
 ·refine .skip<|.seq<|.sr<|.p I (.fa I (zcc _))<|.A 2 I<|.p I (.len I U27 I)<|.A 1 I<|.nil<|.block<|.L [1,16,17] h (λv=>[(18,.d (.int v))]) (λv=>[]) I λ_ x81 h=>.sA 1 I<|.seq<|.condS I h (λh=>?_) λh=>?_
  ·refine .skip<|.seq<|.block<|.S 1 I<|.X h I λx83 h=>.A 1 I<|.allocZ I I I I (.agg Zc65 (ds':=[.int 0,eA [],eM [],eH [],eI []]) (.e (.o (.o (.o .o1))))) I<|.A 1 I<|.store I I I I I I (.ofD I) C65 I (yd I)<|.nil<|.seq<|.seq<|.draw 23 Hm (by kernel_rfl) (by kernel_rfl)<|.p I (.fieldAddrLoc I I I F65_0)<|.p I (.loadLoc1 I I I Y3 I)<|.p I (.fa I (zcc _))<|.A 2 I<|.p I (.len I U26 I)<|.Z h I (zcz _ _ _) λx84 h=>.A 2 I<|gK h λc86 h=>.jO 13 ((x83.arguments.length:Int) != ((((idx t0.model.operations x83.operation).getD default).sorts).length:Int)) I (λb85=>?_) ?_
   ·refine .q I (.fieldAddrLoc I I I F65_1)<|.q I (.loadLoc1 I I I Y22 I)<|.q I (.len I U22 I)<|.q I (.fa I (zcc _))<|.A 2 I<|.q I (.fieldAddrLoc I I I F65_0)<|.q I (.loadLoc1 I I I Y3 I)<|.q I (.ix I U26 S133 (someD (impF c86 b85)))<|.q I (.fa I (zfh _))<|.A 1 I<|.q I (.len I U22 I)<|.A 1 I<|.nil I
   refine .nil<|.nil<|.K [1,3,4,16,17,18,45] I<|.condS I h (λh=>?_) λh=>?_
   ·refine .sA 1 I<|.ret (rO h I)
   ·refine .skip<|.seq<|.sr<|.p I (.fa I (zcc _))<|.A 2 I<|.p I (.fieldAddrLoc I I I F65_0)<|.p I (.loadLoc1 I I I Y3 I)<|.X h I λx87 h=>.p I (.fa I (zfh _))<|.A 1 I<|.p I (.len I U22 I)<|.A 1 I<|.nil<|.block<|.L [1,3,4,16,17,18,53,54] h (λv=>[(55,.d (.int v))]) (λv=>[]) I λ_ x106 h=>.sA 1 I<|.seq<|.condS I h (λh=>?_) λh=>?_
    ·refine .skip<|.seq<|.block<|.S 1 I<|.X h I λx108 h=>.A 3 I<|.nil<|.sr<|.p I (.fieldAddrLoc I I I F65_1)<|.p I (.loadLoc1 I I I Y22 I)<|.A 1 I<|.X h I λx109 h=>.A 2 I<|.nil<|.seq<|.plain 22 I<|.A 3 I<|gK h λc111 h=>.jA 3 (!((zaE n x109 9999).getD default)) I (λb110=>?_) ?_
     ·refine .A 1 I<|.q I (.call I (kC I) I (zdz _ _ _ _ (someD (impT c111 b110))))<|.A 1 I<|.nil I
     refine .A 1 I<|gK h λc114 h=>gK h λc115 h=>.jO 13 ((decide (0≤x108))&&(!((zas n x109 ((idx t0.model.sorts x108).getD default)).getD default))) I (λb112=>?_) ?_
     ·refine .A 3 I<|.jAnd 9 (b2:=!((zas n x109 ((idx t0.model.sorts x108).getD default)).getD default)) I I I I (.inr ⟨_,_,_,I,I,I⟩) (λ_ _ _ h1 h2=>by cases h1;cases h2;decide) I I (λb113=>?_) ?_
      ·refine .A 1 I<|.q I (.fa I (zcc _))<|.A 3 I<|.q I (.ix I U22 S3 (someD (impT (impF c114 b112) b113)))<|.A 1 I<|.q I (.call I (kC I) I (zcz _ _ _ _ (someD (impT (impF c115 b112) b113))))<|.A 1 I<|.nil I
      exact .nil I
     refine .nil<|.nil<|.K [1,3,4,16,17,18,53,54,55,86] I<|.condS I h (λh=>?_) λh=>?_
     ·refine .sA 1 I<|.ret (rO h I)
     ·refine .skip<|.rA 2 I (ndE h I)
    ·refine .exit<|.J [1,4,16,17,18] h (λv=>[]) (λv=>[]) I (λk_116 h=>?_) (λv h=>?_)
     ·refine .sA 2 I<|.condS I h (λh=>?_) λh=>?_
      ·refine .sr<|.p I (.fa I (zcc _))<|.A 4 I<|.X h I λx117 h=>.A 1 I<|.allocStore I I I I I I I I (by simp) I I Z65<|.nil<|.seq<|.plain 20 I<|.p I (.fa I (G65_0 _))<|.A 1 I<|.p I (.fieldAddrLoc I I I F65_0)<|.p I (.loadLoc1 I I I Y3 I)<|.A 2 I<|gK h λc120 h=>.jO 13 ((x117.operation==x83.operation)&&(decide (0≤((zL n x117.arguments x83.arguments).getD default)))) I (λb118=>?_) ?_
       ·refine .q I (.fa I (G65_0 _))<|.A 1 I<|.q I (.fieldAddrLoc I I I F65_0)<|.q I (.loadLoc1 I I I Y3 I)<|.A 2 I<|.jAnd 6 (b2:=decide (0≤((zL n x117.arguments x83.arguments).getD default))) I I I I (.inr ⟨_,_,_,I,I,I⟩) (λ_ _ _ h1 h2=>by cases h1;cases h2;decide) I I (λb119=>?_) ?_
        ·refine .q I (.fa I (G65_1 _))<|.A 1 I<|.q I (.fieldAddrLoc I I I F65_1)<|.q I (.loadLoc1 I I I Y22 I)<|.q I (.call I (kC I) I (zeJ _ _ _ _ (someD (impT (impF c120 b118) b119))))<|.A 1 I<|.nil I
        exact .nil I
       refine .nil<|.nil<|.K [1,4,16,17,18,116] I<|.condS I h (λh=>?_) λh=>?_
       ·refine .sA 1 I<|.ret (rO h I)
       ·refine .skip (ndE h I)
      ·refine .skip (ndE h I)
     ·refine .S 1 I<|.p I (.fieldAddrLoc I I I F65_2)<|.p I (.loadLoc I I I Y63 (yd I) (v:=.d (Effect.enc x83.effect)) I)<|.Z h I (zgr _ _ _) λx121 h=>.A 1 I<|.nil<|.K [1,16,17,18,121] I<|.condS I h (λh=>?_) λh=>?_
      ·refine .sA 1 I<|.ret (rO h I)
      ·refine .skip<|.rA 2 I (ndE h I)
  ·refine .exit<|.sA 1 I<|.ret (rO h I)
theorem zfM (n t0 t1 t2 r) (h:zc4 n t0 t1 t2=some r):Pure pg 175 [Hide.enc t0,.ref (.int t1),.ref (GMap.dat (λn:Int=>Value.int .i64 n) D.bool t2)] (.bool r):=by
 refine Pure.ot Tryz.func175 I Tryz.ntmps175 I λA w=>.sA 2 I<|.seq<|.plain 10 I<|.p I (.fa I (zgb _))<|.A 4 I<|.jA 4 ((t2.get? t0.to).getD false) I (λb1=>?_) ?_
 ·refine .A 1 I<|.q I (.fa I (zg0 _))<|.A 1 I<|.q I (.mapGetD (ke:=(λn:Int=>Value.int .i64 n)) (ve:=D.bool) I U209 KT3 I I (z:=(false:Bool)) (.val Zv4))<|.nil I
 refine .nil<|.A 1 I<|.nil<|.ret (rO h I)
theorem zdr (n t0) (t1:Hide→Option Bool) (F1:D) (hF1:∀ (q0:Hide) (y:Bool),t1 q0=some y→Dyn pg F1 [Hide.enc q0] (.bool y)) (r) (h:zF n t0 t1=some r):Pure pg 217 [eG t0,F1] (.int r):=by
 refine Pure.ot Tryz.func217 I Tryz.ntmps217 I λA w=>.sA 1 I<|.seq<|.S 1 I<|.p I (.len I U28 I)<|.A 1 I<|.nil<|.block<|.L [0,1,7] h (λv=>[(8,.d (.int v))]) (λv=>[]) I λ_ x7 h=>.sA 1 I<|.seq<|.condS I h (λh=>?_) λh=>?_
 ·refine .skip<|.seq<|.block<|.sA 2 I<|.S 3 I<|.X h I λx9 h=>.A 1 I<|bK h λx10 q10 h=>.p I (.dyn I I I (hF1 _ _ q10))<|.nil<|.condS I h (λh=>?_) λh=>?_
  ·refine .sA 2 I<|.ret (rO h I)
  ·refine .skip<|.rA 2 I (ndE h I)
 ·refine .exit<|.sA 1 I<|.ret (rO h I)
theorem zc5 (n t0) (t1:Hide→Option Bool) (F1:D) (hF1:∀ (q0:Hide) (y:Bool),t1 q0=some y→Dyn pg F1 [Hide.enc q0] (.bool y)) (r) (h:zaB n t0 t1=some r):Pure pg 174 [eG t0,F1] (.bool r):=by
 refine Pure.ot Tryz.func174 I Tryz.ntmps174 I λA w=>.sA 1 I<|.S 2 I<|.Z h I (zdr _ _ _ _ hF1) λx1 h=>.A 2 I<|.nil<|.ret (rO h I)
theorem zgs (n t0 r) (h:zi n t0=some r):Pure pg 137 [Judge.enc t0] (.bool r):=by
 refine Pure.ot Tryz.func137 I Tryz.ntmps137 I λA w=>.sA 2 I<|.seq<|.sr<|.p I (.fa I (zcc _))<|.A 2 I<|.p I (.len I U28 I)<|.A 1 I<|.nil<|.condS I h (λh=>?_) λh=>?_
 ·refine .sA 1 I<|.ret (rO h I)
 ·refine .skip<|.seq<|.sr<|.p I (.fa I (zcc _))<|.A 2 I<|.p I (.len I U28 I)<|.A 1 I<|.nil<|.block<|.L [1,18,19] h (λv=>[(20,.d (.int v))]) (λv=>[]) I λ_ x31 h=>.sA 1 I<|.K [1,18,19,20,21] I<|.seq<|.condS I h (λh=>?_) λh=>?_
  ·refine .skip<|.seq<|.block<|.sr<|.X h I λx33 h=>.A 1 I<|.allocStore I I I I I I I I (by simp) I I Z161<|.nil<|.seq<|.seq<|.plain 25 I<|.p I (.fa I (zgb _))<|.A 1 I<|.p I (.fa I (zcc _))<|.A 2 I<|.p I (.len I U23 I)<|.Z h I (zcz _ _ _) λx34 h=>.A 2 I<|gK h λc36 h=>.jO 8 (!((zas n x33.to (t0.model.tables.length:Int)).getD default)) I (λb35=>?_) ?_
   ·refine .q I (.fa I (zg0 _))<|.A 1 I<|.q I (.fa I (zcc _))<|.A 2 I<|.q I (.len I U23 I)<|.q I (.call I (kC I) I (zcz _ _ _ _ (someD (impF c36 b35))))<|.A 1 I<|.nil I
   refine .A 1 I<|.jO 5 (x33.table==x33.to) I (λb37=>?_) ?_
   ·refine .q I (.fa I (zgb _))<|.A 1 I<|.q I (.fa I (zg0 _))<|.A 2 I<|.nil I
   refine .nil<|.nil<|.K [1,4,18,19,20,48] I<|.condS I h (λh=>?_) λh=>?_
   ·refine .sA 1 I<|.ret (rO h I)
   ·refine .skip<|.seq<|.draw 18 Hm (by kernel_rfl) (by kernel_rfl)<|.p I (.fa I (zcc _))<|.A 2 I<|.p I (.fa I (zgb _))<|.A 1 I<|.X h I λx38 h=>.A 1 I<|.p I (.fa I (zcc _))<|.A 2 I<|.p I (.fa I (zg0 _))<|.A 1 I<|.X h I λx39 h=>.A 1 I<|.alloc I I I I ZZ118<|.alloc I I I I ZZ118<|.store I I I I I I Z118<|.store I I I I I I Z118<|.nil<|.freezes [0,1] (.cons (t:=5) (d:=.ref (Table.enc x38)) I (.loc (inIds I) I (.v (.v (.v (.v (.v .v1)))))) (.cons (t:=6) (d:=.ref (Table.enc x39)) I (.loc (inIds I) I (.v (.v (.v (.v (.v .v1)))))) .nil))<|.nil<|.K [1,4,5,6,18,19,20] I<|.seq<|.draw 36 Hm (by kernel_rfl) (by kernel_rfl)<|.p I (.fa I (zcY _))<|.A 3 I<|.jO 3 (x39.kind != 0) I (λb40=>?_) ?_
    ·refine .q I (.fa I (zcY _))<|.A 2 I<|.nil I
    refine .A 1 I<|gK h λc42 h=>.jO 7 (!((zas n x33.column (x38.columns.length:Int)).getD default)) I (λb41=>?_) ?_
    ·refine .q I (.fa I (zl3 _))<|.A 1 I<|.q I (.fa I (zbF _))<|.A 1 I<|.q I (.len I U22 I)<|.q I (.call I (kC I) I (zcz _ _ _ _ (someD (impF c42 b41))))<|.A 1 I<|.nil I
    refine .A 1 I<|.jO 4 ((x39.columns.length:Int) != 1) I (λb43=>?_) ?_
    ·refine .q I (.fa I (zbF _))<|.A 1 I<|.q I (.len I U22 I)<|.A 1 I<|.nil I
    refine .A 1 I<|gK h λc45 h=>gK h λc46 h=>.jO 11 (((idx x39.columns 0).getD default) != ((idx x38.columns x33.column).getD default)) I (λb44=>?_) ?_
    ·refine .q I (.fa I (zbF _))<|.A 1 I<|.q I (.ix I U22 S3 (someD (impF c45 b44)))<|.A 1 I<|.q I (.fa I (zbF _))<|.A 1 I<|.q I (.fa I (zl3 _))<|.A 1 I<|.q I (.ix I U22 S3 (someD (impF c46 b44)))<|.A 2 I<|.nil I
    refine .nil<|.nil<|.K [1,18,19,20,98] I<|.condS I h (λh=>?_) λh=>?_
    ·refine .sA 1 I<|.ret (rO h I)
    ·refine .skip<|.rA 2 I (ndE h I)
  ·refine .exit<|.sr<|.makeMap (λn:Int=>Value.int .i64 n) D.bool I I I I<|.allocZ I I I I (.val Zv209) I<|.store I I I I I I (.cons (.mp I) .nil) C209 I (yd I)<|.nil<|.seq<|.sr<|.p I (.fa I (zcc _))<|.A 2 I<|.p I (.len I U28 I)<|.A 1 I<|.nil<|.block<|.L [1,7,103,104] h (λv=>[(105,.d (.int v.2))]) (λv=>[(0,GMap.blk (λn:Int=>Value.int .i64 n) D.bool v.1)]) I λ_ ⟨m0_53,x54⟩ h=>.sA 1 I<|.K [1,7,103,104,105,106] I<|.seq<|.condS I h (λh=>?_) λh=>?_
   ·refine .skip<|.seq<|.block<|.sr<|.X h I λx56 h=>.A 1 I<|.allocStore I I I I I I I I (by simp) I I Z161<|.nil<|.region<|.p I (.loadLoc1 I I I Y209 I)<|.p I (.fa I (zgb _))<|.A 1 I<|.mapPut (k:=x56.table) (v:=true) I I I U209 KT3 I I I I<|.nil<|.rA 2 I (ndE h I)
   ·refine .exit<|.seq<|.sr<|.p I (.fa I (zcc _))<|.A 2 I<|.p I (.len I U28 I)<|.A 1 I<|.nil<|.block<|.L [1,7,116] h (λv=>[(117,.d (.int v.2))]) (λv=>[(0,GMap.blk (λn:Int=>Value.int .i64 n) D.bool v.1)]) I λ_ ⟨m0_139,x140⟩ h=>.sA 1 I<|.K [1,7,116,117,118] I<|.seq<|.condS I h (λh=>?_) λh=>?_
    ·refine .skip<|.seq<|.block<|.sr<|.p I (.loadLoc1 I I I Y209 I)<|.mapRange I I I I U209 I I<|.nil<|.block<|.L [1,7,116,117,120] h (λv=>[]) (λv=>[(0,GMap.blk (λn:Int=>Value.int .i64 n) D.bool v.1),(2,.it 0 m0_139.clock v.2.1 v.2.2)]) I λ_ ⟨m0_171,m2_172,m2_173⟩ h=>.seq<|.region ?_
     obtain ⟨hold_176,hend_177,hstep_178⟩:=zrm h
     refine .mapNext I I I I I I I hold_176 (λhz=>?_) (λen_175 hen_175=>?_)
     ·have h:=hend_177 hz
      refine .p I (.extract I I I)<|.nil<|.K [1,7,116,117,120,122] I<|.seq<|.condF I<|.exit<|.rA 2 I (ndE h I)
     ·have h:=hstep_178 en_175 hen_175
      refine .p I (.extract I I I)<|.nil<|.K [1,7,116,117,120,122] I<|.seq<|.condT I<|.skip<|.block<|.sr<|gK h λhn_179 h=>.p I (.entry I I I I (List.mem_filter.1 hen_175).1 (of_decide_eq_true hn_179))<|.p I (.extract I I I)<|.allocStore I I I I I I I I (by simp) I I Z3<|.nil<|.sr<|.p I (.fa I (zcc _))<|.A 2 I<|.p I (.makeFuncV I I)<|bK h λx180 q180 h=>.p I (.callB I (kC I) (.cons I (.d _) (.cons I (.fn .nil (.v (.cons (.loc1 I (.mp I (GMap.wfm _)) I) .nil))) .nil)) I (zc5 _ _ _ _ (λq0 y hq=>⟨_,_,I,K175,zfM _ q0 _ _ _ hq⟩) _ q180))<|.A 1 I<|.nil<|.condS I h (λh=>?_) λh=>?_
      ·refine .region<|.p I (.loadLoc1 I I I Y209 I)<|.A 1 I<|.mapDel (k:=en_175.2.1) I I I U209 KT3 I I I<|.nil (ndE h I)
      ·refine .skip (ndE h I)
    ·refine .exit<|.sr<|.p I (.loadLoc1 I I I Y209 I)<|.p I (.mapLen I U209 I I)<|.A 2 I<|.nil<|.ret (rO h I)
theorem zkG (n t0 r) (h:zfK n t0=some r):Pure pg 88 [Model.enc t0] (.bool r):=by
 refine Pure.ot Tryz.func88 I Tryz.ntmps88 I λA w=>.sA 2 I<|.seq<|.seq<|.plain 18 I<|.A 4 I<|.Z h I (ze1 _ _ _) λx1 h=>.A 2 I<|.jO 4 (decide (24<(t0.families.length:Int))) I (λb2=>?_) ?_
 ·refine .A 2 I<|.q I (.len I U24 I)<|.A 1 I<|.nil I
 refine .A 1 I<|gK h λc4 h=>.jO 4 (!((zau n t0.families).getD default)) I (λb3=>?_) ?_
 ·refine .A 2 I<|.q I (.call I (kC I) I (zfp _ _ _ (someD (impF c4 b3))))<|.A 1 I<|.nil I
 refine .nil<|.nil<|.K [1,21] I<|.condS I h (λh=>?_) λh=>?_
 ·refine .sA 1 I<|.ret (rO h I)
 ·refine .skip<|.seq<|.draw 9 Hm (by kernel_rfl) (by kernel_rfl)<|.A 5 I<|.Z h I (zjD _ _ _ _) λx5 h=>.p I (.castD (Judge.enc (⟨t0,x5⟩:Judge)) I (.build I Pl181 (.agg Zc181 (ds':=[_,_,_,_,_,_,_,_]) (.e (.e (.e (.e (.e (.e (.e .e1)))))))) I I))<|.alloc I I I I ZZ181<|.store I I I I I I Z181<|.nil<|.freezes [0] (.cons (t:=3) (d:=.ref (Judge.enc (⟨t0,x5⟩:Judge))) I (.loc (inIds I) I (.v (.v (.v (.v (.v (.v (.v .v1)))))))) .nil)<|.nil<|.seq<|.plain 14 I<|.A 1 I<|.Z h I (zeI _ _) λx6 h=>.A 1 I<|gK h λc8 h=>.jA 2 (((zK n (⟨t0,x5⟩:Judge)).getD default)) I (λb7=>?_) ?_
  ·refine .A 1 I<|.q I (.call I (kC I) I (ze5 _ _ _ (someD (impT c8 b7))))<|.nil I
  refine .A 1 I<|gK h λc10 h=>.jA 2 (((zC n (⟨t0,x5⟩:Judge)).getD default)) I (λb9=>?_) ?_
  ·refine .A 1 I<|.q I (.call I (kC I) I (zf9 _ _ _ (someD (impT c10 b9))))<|.nil I
  refine .A 1 I<|gK h λc12 h=>.jA 2 (((zi n (⟨t0,x5⟩:Judge)).getD default)) I (λb11=>?_) ?_
  ·refine .A 1 I<|.q I (.call I (kC I) I (zgs _ _ _ (someD (impT c12 b11))))<|.nil I
  refine .nil<|.A 1 I<|.nil<|.K [2] I<|.ret (rO h I)
theorem zcx (n t0 r) (h:zm n t0=some r):Pure pg 49 [Model.enc t0] (.tup [optD Layout.enc r.1,.bool r.2]):=by
 refine Pure.ot Tryz.func49 I Tryz.ntmps49 I λA w=>.sA 3 I<|.seq<|.S 1 I<|.Z h I (zkG _ _) λx1 h=>.A 1 I<|.nil<|.condS I h (λh=>?_) λh=>?_
 ·refine .sA 2 I<|.ret ?_
  cases h
  exact zbI I I (.d _) (.d _)
 ·refine .skip<|.S 1 I<|.p I (.build I Pl113 (.agg Zc113 (ds':=[_,_,_,_,_,_,_,.val (.slice none 0 0),.val (.slice none 0 0)]) (.e (.e (.e (.e (.e (.e (.e (.e .e1))))))))) I I)<|.box I I I I I (.ofD I)<|.nilCell 0 7 2 145 I I<|.nilCell 0 8 2 145 I I<|.A 1 I<|.nil<|.seq<|.S 2 I<|.p I (.len I U23 I)<|.A 1 I<|.nil<|.block<|.L [1,4,23,24] h (λv=>[(25,.d (.int v.2.2))]) (λv=>[(0,.box 113 [.d (eA t0.sorts),.d (eB t0.tables),.d (eC t0.families),.d (eD t0.constraints),.d (eE t0.operations),.d (eF t0.actions),.d (eG t0.hides),.vec 1 (List.length v.1),.vec 2 (List.length v.2.1)]),(1,.vec 145 2 (List.map Place.enc v.1)),(2,.vec 145 2 (List.map Place.enc v.2.1))]) I λ_ ⟨b1_452,b2_453,x454⟩ h=>.sA 1 I<|.K [1,4,23,24,25,26] I<|.seq<|.condS I h (λh=>?_) λh=>?_
  ·refine .skip<|.seq<|.block<|.S 1 I<|.X h I λx456 h=>.A 1 I<|.allocZ I I I I (.agg Zc118 (ds':=[.str [],.int 0,eA [],.int 0,.int 0,.int 0]) (.e (.e (.o (.e (.e .e1)))))) I<|.A 1 I<|.store I I I I I I (.ofD I) C118 I (yd I)<|.nil<|.sr<|.p I (.buildSlLe [[]] I I E142 I .o1 (λ_=>I) I (enc:=eA))<|.A 1 I<|.nil<|.seq<|.sr<|.p I (.fieldAddrLoc I I I zl1)<|.p I (.loadLoc1 I I I Y22 I)<|.p I (.len I U22 I)<|.A 1 I<|.nil<|.block<|.L [1,4,5,6,23,24,25,32,33] h (λv=>[(7,.d (eO v.1)),(34,.d (.int v.2))]) (λv=>[]) I λ_ ⟨x585,x586⟩ h=>.sA 1 I<|.K [1,4,5,6,7,23,24,25,32,33,34,35] I<|.seq<|.condS I h (λh=>?_) λh=>?_
   ·refine .skip<|.seq<|.block<|.sr<|.X h I λx588 h=>.A 2 I<|.nil<|.S 1 I<|.nilVec 10 1 22 I<|.nil<|.seq<|.S 1 I<|.p I (.len I U142 I)<|.A 1 I<|.nil<|.block<|.L [1,4,5,6,9,23,24,25,32,33,34,38,39] h (λv=>[(10,.vec 4 (List.length v.1)),(40,.d (.int v.2))]) (λv=>[(4,.vec 22 1 (List.map eA v.1))]) I λ_ ⟨b4_629,x630⟩ h=>.sA 1 I<|.K [1,4,5,6,9,10,23,24,25,32,33,34,38,39,40,41] I<|.seq<|.condS I h (λh=>?_) λh=>?_
    ·refine .skip<|.seq<|.block<|.sr<|.X h I λx632 h=>.A 2 I<|.nil<|.S 3 I<|.X h I λx633 h=>.A 2 I<|.nil<|.block<|.L [1,4,5,6,9,12,23,24,25,32,33,34,38,39,40,48] h (λv=>[(10,.vec 4 (List.length v.1)),(49,.d (.int v.2))]) (λv=>[(4,.vec 22 1 (List.map eA v.1))]) I λ_ ⟨b4_644,x645⟩ h=>.sA 1 I<|.K [1,4,5,6,9,10,12,23,24,25,32,33,34,38,39,40,48,49,50] I<|.seq<|.condS I h (λh=>?_) λh=>?_
     ·refine .skip<|.seq<|.block<|.sA 2 I<|.region<|.A 2 I<|bK h λx647 q647 h=>.clone (enc:=D.int) I I I I K89 Tryz.func89 I I I I E22 I (λ_=>I) (λ_=>I) q647 I I<|.A 1 I<|.p I (.buildSl [_] I I E22 I (λ_=>I) I (enc:=D.int))<|bK h λx648 q648 h=>.app I I I I I I I I E22 I (λ_=>I) q648<|.freezes [5] (.cons (t:=57) I (.vec (inIds I) I (by simp)) .nil)<|.p I (.buildSl [_] I I E142 I (λ_=>I) I (enc:=eA))<|bK h λx649 q649 h=>.app I I I I I I I I E142 I (λ_=>I) q649<|.A 1 I<|.nil<|.rA 2 I (ndE h I)
     ·refine .exit<|.rA 2 I (ndE h I)
    ·refine .exit<|.region<|.A 1 I<|.freezes [4] (.cons (t:=62) I (.vec (inIds I) I (by simp)) .nil)<|.A 1 I<|.nil<|.rA 2 I (ndE h I)
   ·refine .exit<|.S 1 I<|.p I (.len I U142 I)<|.A 1 I<|.nil<|.block<|.L [1,4,5,6,23,24,25,64,65] h (λv=>[(66,.d (.int v.2.2))]) (λv=>[(0,.box 113 [.d (eA t0.sorts),.d (eB t0.tables),.d (eC t0.families),.d (eD t0.constraints),.d (eE t0.operations),.d (eF t0.actions),.d (eG t0.hides),.vec 1 (List.length v.1),.vec 2 (List.length v.2.1)]),(1,.vec 145 2 (List.map Place.enc v.1)),(2,.vec 145 2 (List.map Place.enc v.2.1))]) I λ_ ⟨b1_668,b2_669,x670⟩ h=>.sA 1 I<|.K [1,4,5,6,23,24,25,64,65,66,67] I<|.seq<|.condS I h (λh=>?_) λh=>?_
    ·refine .skip<|.J [1,4,5,6,23,24,25,64,65,66] h (λv=>[]) (λv=>[(0,.box 113 [.d (eA t0.sorts),.d (eB t0.tables),.d (eC t0.families),.d (eD t0.constraints),.d (eE t0.operations),.d (eF t0.actions),.d (eG t0.hides),.vec 1 (List.length v.1),.vec 2 (List.length v.2)]),(1,.vec 145 2 (List.map Place.enc v.1)),(2,.vec 145 2 (List.map Place.enc v.2))]) I (λk_674 h=>?_) (λv h=>?_)
     ·refine .block<|.sr<|.X h I λx675 h=>.A 2 I<|.nil<|.sr<|.p I (.fieldAddrLoc I I I zqp)<|.p I (.loadLoc1 I I I Y3 I)<|.A 1 I<|.nil<|.condS I h (λh=>?_) λh=>?_
      ·refine .region<|.A 2 I<|.p I (.nilCheck_loc I I I)<|.p I (.fieldAddrLoc I I I zou)<|.p I (.loadLoc1 I I I Y111 I)<|.A 2 I<|.p I (.castD (Place.enc (⟨x454,x675⟩:Place)) I (.build I Pl145 (.agg Zc145 (ds':=[_,_]) (.e .e1)) I I))<|.p I (.buildSl [_] I I E111 I (λ_=>I) I (enc:=Place.enc))<|bK h λx676 q676 h=>.app I I I I I I I I E111 I (λ_=>I) q676<|.p I (.nilCheck_loc I I I)<|.p I (.fieldAddrLoc I I I zou)<|.store I I I I I I (.cons (.vec I (by simp)) .nil) C111 I (yd I)<|.nil (ndE h I)
      ·refine .region<|.A 2 I<|.p I (.nilCheck_loc I I I)<|.p I (.fieldAddrLoc I I I zov)<|.p I (.loadLoc1 I I I Y111 I)<|.A 2 I<|.p I (.castD (Place.enc (⟨x454,x675⟩:Place)) I (.build I Pl145 (.agg Zc145 (ds':=[_,_]) (.e .e1)) I I))<|.p I (.buildSl [_] I I E111 I (λ_=>I) I (enc:=Place.enc))<|bK h λx677 q677 h=>.app I I I I I I I I E111 I (λ_=>I) q677<|.p I (.nilCheck_loc I I I)<|.p I (.fieldAddrLoc I I I zov)<|.store I I I I I I (.cons (.vec I (by simp)) .nil) C111 I (yd I)<|.nil (ndE h I)
     ·obtain ⟨b1_672,b2_673⟩:=v
      refine .rA 2 I (ndE h I)
    ·refine .exit<|.rA 2 I (ndE h I)
  ·refine .exit<|.sA 3 I<|.ret ?_
   cases h
   exact zbI I I (.loc I (.v (.v (.v (.v (.v (.v (.v (.cons (.vec I (by simp)) (.cons (.vec I (by simp)) .nil)))))))))) (.d _)
theorem zbA (n t0 t1 r) (h:zJ n t0 t1=some r):Pure pg 50 [.ref (Layout.enc t0),Question.enc t1] (.bool r):=by
 refine Pure.ot Tryz.func50 I Tryz.ntmps50 I λA w=>.sA 2 I<|.S 1 I<|.p I (.nilCheck_ref I I)<|.p I (.fa I (zc7 _))<|.A 2 I<|.p I (.len I U27 I)<|.A 1 I<|.nil<|.seq<|.seq<|.plain 26 I<|.p I (.fa I (G34_0 _))<|.A 3 I<|.jO 3 (decide (t1.f<0)) I (λb1=>?_) ?_
 ·refine .q I (.fa I (G34_1 _))<|.A 2 I<|.nil I
 refine .A 1 I<|.jO 4 (decide ((t0.m.actions.length:Int)≤t1.e)) I (λb2=>?_) ?_
 ·refine .q I (.fa I (G34_0 _))<|.A 3 I<|.nil I
 refine .A 1 I<|.jO 4 (decide ((t0.m.actions.length:Int)≤t1.f)) I (λb3=>?_) ?_
 ·refine .q I (.fa I (G34_1 _))<|.A 3 I<|.nil I
 refine .A 1 I<|.jO 4 (decide (t1.target.index<0)) I (λb4=>?_) ?_
 ·refine .q I (.fa I (G34_2 _))<|.q I (.fa I (G32_1 _))<|.A 2 I<|.nil I
 refine .nil<|.nil<|.K [0,3,37] I<|.condS I h (λh=>?_) λh=>?_
 ·refine .sA 1 I<|.ret (rO h I)
 ·refine .skip<|.seq<|.sr<|.p I (.fa I (G34_2 _))<|.p I (.fa I (G32_0 _))<|.A 1 I<|.nil<|.condS I h (λh=>?_) λh=>?_
  ·refine .seq<|.draw 17 Hm (by kernel_rfl) (by kernel_rfl)<|.p I (.fa I (G34_2 _))<|.p I (.fa I (G32_1 _))<|.A 2 I<|.p I (.nilCheck_ref I I)<|.p I (.fa I (zc7 _))<|.A 2 I<|.p I (.fa I (G34_0 _))<|.A 1 I<|.X h I λx5 h=>.p I (.fa I (G65_2 _))<|.p I (.fa I (G63_1 _))<|.A 1 I<|.p I (.len I U60 I)<|.A 2 I<|.nil<|.nil<|.K [4] I<|.ret (rO h I)
  ·refine .skip<|.seq<|.draw 18 Hm (by kernel_rfl) (by kernel_rfl)<|.p I (.fa I (G34_0 _))<|.A 1 I<|.p I (.fa I (G34_1 _))<|.A 3 I<|.jA 10 (decide (t1.target.index<(t0.m.constraints.length:Int))) I (λb6=>?_) ?_
   ·refine .q I (.fa I (G34_2 _))<|.q I (.fa I (G32_1 _))<|.A 2 I<|.q I (.nilCheck_ref I I)<|.q I (.fa I (zc7 _))<|.A 2 I<|.q I (.len I U25 I)<|.A 1 I<|.nil I
   refine .A 1 I<|.nil<|.nil<|.K [4] I<|.ret (rO h I)
theorem zcD (n t0 t1 t2 r) (h:zaY n t0 t1 t2=some r):Pure pg 108 [.ref (Swapping.enc t0),.int t1,.int t2] (.int r):=by
 refine Pure.ot Tryz.func108 I Tryz.ntmps108 I λA w=>.sA 1 I<|.seq<|.block<|.S 2 I<|.p I (.nilCheck_ref I I)<|.p I (.fa I (zeb _))<|.A 4 I<|.nil<|.condS I h (λh=>?_) λh=>?_
 ·refine .sA 2 I<|.ret (rO h I)
 ·refine .S 2 I<|.p I (.nilCheck_ref I I)<|.p I (.fa I (zeb _))<|.A 4 I<|.nil<|.K [0,2,16] I<|.condS I h (λh=>?_) λh=>?_
  ·refine .S 1 I<|.p I (.nilCheck_ref I I)<|.p I (.fa I (zeb _))<|.p I (.fa I (G41_2 _))<|.A 2 I<|.nil<|.ret (rO h I)
  ·refine .S 2 I<|.p I (.nilCheck_ref I I)<|.p I (.fa I (zeb _))<|.p I (.fa I (G41_2 _))<|.A 3 I<|.nil<|.condS I h (λh=>?_) λh=>?_
   ·refine .S 1 I<|.p I (.nilCheck_ref I I)<|.p I (.fa I (zeb _))<|.A 3 I<|.nil<|.ret (rO h I)
   ·refine .skip<|.sA 2 I<|.ret (rO h I)
theorem zdo (n t0 t1 r) (h:zp n t0 t1=some r):Pure pg 39 [eA t0,eA t1] (.bool r):=by
 refine Pure.ot Tryz.func39 I Tryz.ntmps39 I λA w=>.sA 1 I<|.seq<|.S 1 I<|.p I (.len I U22 I)<|.A 1 I<|.p I (.len I U22 I)<|.A 1 I<|.nil<|.condS I h (λh=>?_) λh=>?_
 ·refine .sA 1 I<|.ret (rO h I)
 ·refine .skip<|.seq<|.S 1 I<|.p I (.len I U22 I)<|.A 1 I<|.nil<|.block<|.L [0,1,12] h (λv=>[(13,.d (.int v))]) (λv=>[]) I λ_ x7 h=>.sA 1 I<|.seq<|.condS I h (λh=>?_) λh=>?_
  ·refine .skip<|.seq<|.block<|.sA 2 I<|.seq<|.draw 9 Hm (by kernel_rfl) (by kernel_rfl)<|.A 2 I<|.X h I λx9 h=>.A 3 I<|.X h I λx10 h=>.A 2 I<|.nil<|.nil<|.condS I h (λh=>?_) λh=>?_
   ·refine .sA 1 I<|.ret (rO h I)
   ·refine .skip<|.rA 2 I (ndE h I)
  ·refine .exit<|.sA 1 I<|.ret (rO h I)
theorem zd7 (n t0 t1 t2 r) (h:zbj n t0 t1 t2=some r):Pure pg 110 [Action.enc t0,.ref (Action.enc t1),.ref (eA t2)] (.bool r):=by
 refine Pure.ot Tryz.func110 I Tryz.ntmps110 I λA w=>.sA 2 I<|.seq<|.plain 11 I<|.p I (.fa I (G65_0 _))<|.A 1 I<|.p I (.fa I (G65_0 _))<|.A 3 I<|gK h λc2 h=>.jA 4 (((zp n t0.arguments t2).getD default)) I (λb1=>?_) ?_
 ·refine .q I (.fa I (G65_1 _))<|.A 2 I<|.q I (.call I (kC I) I (zdo _ _ _ _ (someD (impT c2 b1))))<|.nil I
 refine .nil<|.A 1 I<|.nil<|.ret (rO h I)
theorem zcU (n t0) (t1:Action→Option Bool) (F1:D) (hF1:∀ (q0:Action) (y:Bool),t1 q0=some y→Dyn pg F1 [Action.enc q0] (.bool y)) (r) (h:zw n t0 t1=some r):Pure pg 109 [eF t0,F1] (.int r):=by
 refine Pure.ot Tryz.func109 I Tryz.ntmps109 I λA w=>.sA 1 I<|.seq<|.S 1 I<|.p I (.len I U27 I)<|.A 1 I<|.nil<|.block<|.L [0,1,7] h (λv=>[(8,.d (.int v))]) (λv=>[]) I λ_ x7 h=>.sA 1 I<|.seq<|.condS I h (λh=>?_) λh=>?_
 ·refine .skip<|.seq<|.block<|.sA 2 I<|.S 3 I<|.X h I λx9 h=>.A 1 I<|bK h λx10 q10 h=>.p I (.dyn I I I (hF1 _ _ q10))<|.nil<|.condS I h (λh=>?_) λh=>?_
  ·refine .sA 2 I<|.ret (rO h I)
  ·refine .skip<|.rA 2 I (ndE h I)
 ·refine .exit<|.sA 1 I<|.ret (rO h I)
theorem zaX (n t0 t1 t2 r) (h:zu n t0 t1 t2=some r):Pure pg 67 [.ref (Swapping.enc t0),eN t1,.int t2] (.int r):=by
 refine Pure.ot Tryz.func67 I Tryz.ntmps67 I λA w=>.sA 1 I<|.seq<|.draw 17 Hm (by kernel_rfl) (by kernel_rfl)<|.A 1 I<|.p I (.nilCheck_ref I I)<|.p I (.fa I (zcF _))<|.A 1 I<|.p I (.nilCheck_ref I I)<|.p I (.fa I (zc7 _))<|.A 4 I<|.X h I λx1 h=>.p I (.fa I (zrO _))<|.A 1 I<|.X h I λx2 h=>.A 1 I<|.alloc I I I I ZZ118<|.store I I I I I I Z118<|.nil<|.freezes [0] (.cons (t:=7) (d:=.ref (Table.enc x2)) I (.loc (inIds I) I (.v (.v (.v (.v (.v .v1)))))) .nil)<|.nil<|.K [0,1,2,7] I<|.sA 1 I<|.seq<|.S 2 I<|.X h I λx3 h=>.p I (.fa I (zrP _))<|.A 1 I<|.p I (.len I U22 I)<|.A 1 I<|.nil<|.block<|.L [0,7,30,31] h (λv=>[(8,.d (.int v.1)),(32,.d (.int v.2))]) (λv=>[]) I λ_ ⟨x18,x19⟩ h=>.sA 1 I<|.seq<|.condS I h (λh=>?_) λh=>?_
 ·refine .skip<|.seq<|.block<|.S 1 I<|.X h I λx21 h=>.A 3 I<|.nil<|.draw 27 Hm (by kernel_rfl) (by kernel_rfl)<|.A 2 I<|.p I (.nilCheck_ref I I)<|.p I (.fa I (zcF _))<|.A 1 I<|.p I (.nilCheck_ref I I)<|.p I (.fa I (zc7 _))<|.A 2 I<|.p I (.fa I (zbF _))<|.A 2 I<|.X h I λx22 h=>.A 1 I<|.X h I λx23 h=>.A 3 I<|.p I (.fa I (zbF _))<|.A 2 I<|.X h I λx24 h=>.A 2 I<|.Z h I (zcD _ _ _ _) λx25 h=>.A 2 I<|.nil<|.nil<|.K [0,7,8,30,31,32] I<|.rA 2 I (ndE h I)
 ·refine .exit<|.sr<|.p I (.fa I (zgZ _))<|.A 4 I<|.nil<|.ret (rO h I)
theorem zd8 (n t0 t1 r) (h:zbk n t0 t1=some r):Pure pg 149 [Change.enc t0,Change.enc t1] (.int r):=by
 refine Pure.ot Tryz.func149 I Tryz.ntmps149 I λA w=>.sA 3 I<|.sr<|.p I (.fa I (zf1 _))<|.A 1 I<|.p I (.fa I (zf1 _))<|.A 1 I<|.Z h I (z9 _ _ _) λx1 h=>.A 1 I<|.nil<|.ret (rO h I)
theorem zeL (n t0 t1 r) (h:zbE n t0 t1=some r):Pure pg 123 [Term.enc t0,Term.enc t1] (.int r):=by
 refine Pure.ot Tryz.func123 I Tryz.ntmps123 I λA w=>.sA 3 I<|.S 4 I<|.Z h I (z9 _ _ _) λx1 h=>.A 1 I<|.nil<|.ret (rO h I)
theorem zck (n t0 t1 r) (h:zah n t0 t1=some r):Pure pg 77 [.ref (Swapping.enc t0),Row.enc t1] (Row.enc r):=by
 refine Pure.ot Tryz.func77 I Tryz.ntmps77 I λA w=>.S 1 I<|.allocZ I I I I (.agg Zc72 (ds':=[eL [],.int 0]) (.o .e1)) I<|.nil<|.sr<|.p I (.fa I (G72_1 _))<|.A 1 I<|.p I (.build I Pl72 (.agg Zc72 (ds':=[.val (.slice none 0 0),_]) (.e .e1)) I I)<|.allocZ I I I I (.agg Zc72 (ds':=[.val (.slice none 0 0),.int 0]) (.e .e1)) I<|.nilCell 1 0 2 129 I I<|.store I I I I I I (.ofD I) C72 I (yd I)<|.nilCell 1 0 2 129 I I<|.nil<|.seq<|.sr<|.p I (.fa I (G72_0 _))<|.A 1 I<|.p I (.len I U70 I)<|.A 1 I<|.nil<|.K [0,4,5,12,13,14] I<|.block<|.L [0,4,5,12,13] h (λv=>[(14,.d (.int v.2))]) (λv=>[(1,.box 72 [.vec 3 (List.length v.1),.d (.int t1.bound)]),(3,.vec 129 2 (List.map Term.enc v.1))]) I λ_ ⟨b3_11,x12⟩ h=>.sA 1 I<|.K [0,4,5,12,13,14,15] I<|.seq<|.condS I h (λh=>?_) λh=>?_
 ·refine .skip<|.seq<|.block<|.sr<|.X h I λx14 h=>.A 1 I<|.allocStore I I I I I I I I (by simp) I I Z129<|.nil<|.draw 17 Hm (by kernel_rfl) (by kernel_rfl)<|.p I (.fieldAddrLoc I I I F72_0)<|.p I (.loadLoc1 I I I Y70 I)<|.A 2 I<|.p I (.nilCheck_ref I I)<|.p I (.fa I (zcF _))<|.A 1 I<|.p I (.nilCheck_ref I I)<|.p I (.fa I (zkV _))<|.A 3 I<|.Z h I (zaX _ _ _ _) λx15 h=>.p I (.fa I (ziG _))<|.A 1 I<|.p I (.castD (Term.enc (⟨x15,x14.factor⟩:Term)) I (.build I Pl129 (.agg Zc129 (ds':=[_,_]) (.e .e1)) I I))<|.p I (.buildSl [_] I I E70 I (λ_=>I) I (enc:=Term.enc))<|.nil<|bK h λx16 q16 h=>.app I I I I I I I I E70 I (λ_=>I) q16<|.p I (.fieldAddrLoc I I I F72_0)<|.store I I I I I I (.cons (.vec I (by simp)) .nil) C70 I (yd I)<|.nil<|.K [0,4,5,12,13,14] I<|.rA 2 I (ndE h I)
 ·refine .exit<|.sr<|.p I (.fieldAddrLoc I I I F72_0)<|.p I (.loadLoc1 I I I Y70 I)<|bK h λx17 q17 h=>.sortK (enc:=Term.enc) (l:=b3_11) Tryz.sort122 Y129 I I I I K122 K123 I I I I (λ_=>I) (λ_=>I) q17 (λa b v hv=>zeL _ _ _ _ hv)<|.relen 39 I (zbJ q17).symm<|.relenCell 1 0 I I (zbJ q17).symm<|.nil<|.sr<|.p I (.loadLoc I I I Y72 (yd I) I)<|.store I I I I I I (.cons (.vec I (by simp)) (.cons (.d I) .nil)) C72 I (yd I)<|.nil<|.ret ?_
  cases h
  exact zit I I Y72 (.cons (.vec I (by simp)) .v1)
theorem zeH (n t0 t1 r) (h:zk n t0 t1=some r):Pure pg 112 [.ref (Swapping.enc t0),Effect.enc t1] (Effect.enc r):=by
 refine Pure.ot Tryz.func112 I Tryz.ntmps112 I λA w=>.S 1 I<|.allocZ I I I I (.agg Zc63 (ds':=[eM [],eH [],eI []]) (.o (.o .o1))) I<|.nil<|.sr<|.p I (.build I Pl63 (.agg Zc63 (ds':=[.val (.slice none 0 0),.val (.slice none 0 0),.val (.slice none 0 0)]) (.e (.e .e1))) I I)<|.allocZ I I I I (.agg Zc63 (ds':=[.val (.slice none 0 0),.val (.slice none 0 0),.val (.slice none 0 0)]) (.e (.e .e1))) I<|.nilCell 1 0 2 137 I I<|.nilCell 1 1 2 72 I I<|.nilCell 1 2 3 188 I I<|.store I I I I I I (.ofD I) C63 I (yd I)<|.nilCell 1 0 2 137 I I<|.nilCell 1 1 2 72 I I<|.nilCell 1 2 3 188 I I<|.nil<|.K [0,3,4,5] I<|.seq<|.sr<|.p I (.fa I (G63_0 _))<|.A 1 I<|.p I (.len I U59 I)<|.A 1 I<|.nil<|.block<|.L [0,3,4,5,14,15] h (λv=>[(16,.d (.int v.2))]) (λv=>[(1,.box 63 [.vec 5 (List.length v.1),.vec 6 (List.length ([]:List Row)),.vec 7 (List.length ([]:List Update))]),(5,.vec 137 2 (List.map Change.enc v.1))]) I λ_ ⟨b5_11,x12⟩ h=>.sA 1 I<|.K [0,3,4,5,14,15,16,17] I<|.seq<|.condS I h (λh=>?_) λh=>?_
 ·refine .skip<|.seq<|.block<|.sr<|.X h I λx14 h=>.A 1 I<|.allocStore I I I I I I I I (by simp) I I Z137<|.nil<|.draw 17 Hm (by kernel_rfl) (by kernel_rfl)<|.p I (.fieldAddrLoc I I I F63_0)<|.p I (.loadLoc1 I I I Y59 I)<|.A 2 I<|.p I (.nilCheck_ref I I)<|.p I (.fa I (zcF _))<|.A 1 I<|.p I (.nilCheck_ref I I)<|.p I (.fa I (zkV _))<|.A 1 I<|.p I (.fa I (zf1 _))<|.A 1 I<|.Z h I (zaX _ _ _ _) λx15 h=>.p I (.fa I (zjx _))<|.A 1 I<|.p I (.castD (Change.enc (⟨x15,x14.add⟩:Change)) I (.build I Pl137 (.agg Zc137 (ds':=[_,_]) (.e .e1)) I I))<|.p I (.buildSl [_] I I E59 I (λ_=>I) I (enc:=Change.enc))<|.nil<|bK h λx16 q16 h=>.app I I I I I I I I E59 I (λ_=>I) q16<|.p I (.fieldAddrLoc I I I F63_0)<|.store I I I I I I (.cons (.vec I (by simp)) .nil) C59 I (yd I)<|.nil<|.K [0,3,4,5,14,15,16] I<|.rA 2 I (ndE h I)
 ·refine .exit<|.sr<|.p I (.fieldAddrLoc I I I F63_0)<|.p I (.loadLoc1 I I I Y59 I)<|bK h λx17 q17 h=>.sortK (enc:=Change.enc) (l:=b5_11) Tryz.sort148 Y137 I I I I K148 K149 I I I I (λ_=>I) (λ_=>I) q17 (λa b v hv=>zd8 _ _ _ _ hv)<|.relen 41 I (zbJ q17).symm<|.relenCell 1 0 I I (zbJ q17).symm<|.nil<|.seq<|.sr<|.p I (.fa I (G63_1 _))<|.A 1 I<|.p I (.len I U60 I)<|.A 1 I<|.nil<|.block<|.L [0,3,4,5,44,45] h (λv=>[(46,.d (.int v.2))]) (λv=>[(1,.box 63 [.vec 5 (List.length x17),.vec 6 (List.length v.1),.vec 7 (List.length ([]:List Update))]),(6,.vec 72 2 (List.map Row.enc v.1))]) I λ_ ⟨b6_28,x29⟩ h=>.sA 1 I<|.K [0,3,4,5,44,45,46,47] I<|.seq<|.condS I h (λh=>?_) λh=>?_
  ·refine .skip<|.seq<|.block<|.sr<|.X h I λx31 h=>.A 1 I<|.allocStore I I I I I I I I (by simp) I I Z72<|.nil<|.draw 6 Hm (by kernel_rfl) (by kernel_rfl)<|.p I (.fieldAddrLoc I I I F63_1)<|.p I (.loadLoc1 I I I Y60 I)<|.A 2 I<|.Z h I (zck _ _ _) λx32 h=>.p I (.buildSl [_] I I E60 I (λ_=>I) I (enc:=Row.enc))<|.nil<|bK h λx33 q33 h=>.app I I I I I I I I E60 I (λ_=>I) q33<|.p I (.fieldAddrLoc I I I F63_1)<|.store I I I I I I (.cons (.vec I (by simp)) .nil) C60 I (yd I)<|.nil<|.rA 2 I (ndE h I)
  ·refine .exit<|.seq<|.sr<|.p I (.fa I (G63_2 _))<|.A 1 I<|.p I (.len I U61 I)<|.A 1 I<|.nil<|.block<|.L [0,4,5,60,61] h (λv=>[(62,.d (.int v.2))]) (λv=>[(1,.box 63 [.vec 5 (List.length x17),.vec 6 (List.length b6_28),.vec 7 (List.length v.1)]),(7,.vec 188 3 (List.map Update.enc v.1))]) I λ_ ⟨b7_44,x45⟩ h=>.sA 1 I<|.K [0,4,5,60,61,62,63] I<|.seq<|.condS I h (λh=>?_) λh=>?_
   ·refine .skip<|.seq<|.block<|.sr<|.X h I λx47 h=>.A 1 I<|.allocZ I I I I (.agg Zc188 (ds':=[.int 0,.int 0,.int 0]) (.e (.e .e1))) I<|.store I I I I I I (.ofD I) C188 I (yd I)<|.nil<|.seq<|.draw 12 Hm (by kernel_rfl) (by kernel_rfl)<|.A 2 I<|.p I (.nilCheck_ref I I)<|.p I (.fa I (zcF _))<|.A 1 I<|.p I (.nilCheck_ref I I)<|.p I (.fa I (zrN _))<|.A 1 I<|.p I (.fieldAddrLoc I I I zl2)<|.p I (.loadLoc1 I I I Y3 I)<|.Z h I (zaX _ _ _ _) λx48 h=>.p I (.fieldAddrLoc I I I zl2)<|.nil<|.store I I I I I I (.ofD I) C3 I (yd I)<|.nil<|.K [0,4,5,11,60,61,62] I<|.region<|.p I (.fieldAddrLoc I I I F63_2)<|.p I (.loadLoc1 I I I Y61 I)<|.p I (.loadLoc I I I Y188 (yd I) (v:=.d (Update.enc (⟨x47.kind,x48,x47.value⟩:Update))) I)<|.p I (.buildSl [_] I I E61 I (λ_=>I) I (enc:=Update.enc))<|bK h λx49 q49 h=>.app I I I I I I I I E61 I (λ_=>I) q49<|.p I (.fieldAddrLoc I I I F63_2)<|.store I I I I I I (.cons (.vec I (by simp)) .nil) C61 I (yd I)<|.nil<|.rA 2 I (ndE h I)
   ·refine .exit<|.sr<|.p I (.loadLoc I I I Y63 (yd I) I)<|.store I I I I I I (.cons (.vec I (by simp)) (.cons (.vec I (by simp)) (.cons (.vec I (by simp)) .nil))) C63 I (yd I)<|.nil<|.ret ?_
    cases h
    exact zit I I Y63 (.cons (.vec I (by simp)) (.cons (.vec I (by simp)) (.cons (.vec I (by simp)) .nil)))
theorem zbP (n t0 t1) (t2:Term→Term→Option Int) (F2:D) (hF2:∀ (q0:Term) (q1:Term) (y:Int),t2 q0 q1=some y→Dyn pg F2 [Term.enc q0,Term.enc q1] (.int y)) (r) (h:zj n t0 t1 t2=some r):Pure pg 226 [eL t0,eL t1,F2] (.int r):=by
 refine Pure.ot Tryz.func226 I Tryz.ntmps226 I λA w=>.sA 1 I<|.seq<|.S 1 I<|.p I (.len I U70 I)<|.A 1 I<|.nil<|.block<|.L [0,1,2,11,12] h (λv=>[(13,.d (.int v))]) (λv=>[]) I λ_ x9 h=>.sA 1 I<|.seq<|.condS I h (λh=>?_) λh=>?_
 ·refine .skip<|.seq<|.block<|.S 1 I<|.X h I λx11 h=>.A 1 I<|.allocZ I I I I (.agg Zc129 (ds':=[.int 0,.int 0]) (.e .e1)) I<|.A 1 I<|.store I I I I I I (.ofD I) C129 I (yd I)<|.nil<|.seq<|.S 2 I<|.p I (.len I U70 I)<|.A 1 I<|.nil<|.condS I h (λh=>?_) λh=>?_
  ·refine .sA 1 I<|.ret (rO h I)
  ·refine .skip<|.S 2 I<|.X h I λx12 h=>.A 1 I<|.allocStore I I I I I I I I (by simp) I I Z129<|.nil<|.K [0,1,2,8,9,11,12,13] I<|.S 1 I<|.p I (.loadLoc I I I Y129 (yd I) (v:=.d (Term.enc x11)) I)<|.A 1 I<|bK h λx13 q13 h=>.p I (.dyn I I I (hF2 _ _ _ q13))<|.A 1 I<|.nil<|.sA 2 I<|.condS I h (λh=>?_) λh=>?_
   ·refine .sA 2 I<|.ret (rO h I)
   ·refine .skip<|.rA 2 I (ndE h I)
 ·refine .exit<|.seq<|.S 1 I<|.p I (.len I U70 I)<|.A 1 I<|.p I (.len I U70 I)<|.A 1 I<|.nil<|.condS I h (λh=>?_) λh=>?_
  ·refine .sA 1 I<|.ret (rO h I)
  ·refine .skip<|.sA 1 I<|.ret (rO h I)
theorem zeg (n t0 r) (h:zaW n t0=some r):Pure pg 84 [eA t0] (.int r):=by
 refine Pure.ot Tryz.func84 I Tryz.ntmps84 I λA w=>.sA 1 I<|.sA 1 I<|.seq<|.S 1 I<|.p I (.len I U22 I)<|.A 1 I<|.nil<|.block<|.L [3,6,7] h (λv=>[(8,.d (.int v))]) (λv=>[]) I λ_ x5 h=>.sA 1 I<|.seq<|.condS I h (λh=>?_) λh=>?_
 ·refine .skip<|.seq<|.block<|.sr<|.X h I λx7 h=>.A 2 I<|.nil<|.sA 3 I<|.condS I h (λh=>?_) λh=>?_
  ·refine .sA 2 I<|.ret (rO h I)
  ·refine .skip<|.rA 2 I (ndE h I)
 ·refine .exit<|.sA 2 I<|.ret (rO h I)
theorem zhq (n t0 t1 r) (h:zbW n t0 t1=some r):Pure pg 227 [Term.enc t0,Term.enc t1] (.int r):=by
 refine Pure.ot Tryz.func227 I Tryz.ntmps227 I λA w=>.sA 3 I<|.seq<|.draw 13 Hm (by kernel_rfl) (by kernel_rfl)<|.A 4 I<|.Z h I (z9 _ _ _) λx1 h=>.p I (.fa I (ziG _))<|.A 1 I<|.p I (.fa I (ziG _))<|.A 1 I<|.Z h I (z9 _ _ _) λx2 h=>.p I (.buildSl [_,_] I I E22 I (λ_=>I) I (enc:=D.int))<|.Z h I (zeg _ _) λx3 h=>.A 1 I<|.nil<|.nil<|.K [4] I<|.ret (rO h I)
theorem ziA (n t0 t1 r) (h:zc9 n t0 t1=some r):Pure pg 191 [Row.enc t0,Row.enc t1] (.int r):=by
 refine Pure.ot Tryz.func191 I Tryz.ntmps191 I λA w=>.sA 3 I<|.seq<|.draw 13 Hm (by kernel_rfl) (by kernel_rfl)<|.p I (.fa I (G72_1 _))<|.A 1 I<|.p I (.fa I (G72_1 _))<|.A 1 I<|.Z h I (z9 _ _ _) λx1 h=>.p I (.fa I (G72_0 _))<|.A 1 I<|.p I (.fa I (G72_0 _))<|.A 1 I<|.Z h I (zbP _ _ _ _ _ (λq0 q1 y hq=>⟨_,_,I,K227,zhq _ q0 q1 _ hq⟩)) λx2 h=>.p I (.buildSl [_,_] I I E22 I (λ_=>I) I (enc:=D.int))<|.Z h I (zeg _ _) λx3 h=>.A 1 I<|.nil<|.nil<|.K [4] I<|.ret (rO h I)
theorem zgY (n t0 t1 r) (h:zci n t0 t1=some r):Pure pg 193 [Update.enc t0,Update.enc t1] (.int r):=by
 refine Pure.ot Tryz.func193 I Tryz.ntmps193 I λA w=>.sA 3 I<|.seq<|.draw 18 Hm (by kernel_rfl) (by kernel_rfl)<|.p I (.fa I (ziJ _))<|.A 1 I<|.p I (.fa I (ziJ _))<|.A 1 I<|.Z h I (z9 _ _ _) λx1 h=>.p I (.fa I (ziI _))<|.A 1 I<|.p I (.fa I (ziI _))<|.A 1 I<|.Z h I (z9 _ _ _) λx2 h=>.p I (.fa I (ziK _))<|.A 1 I<|.p I (.fa I (ziK _))<|.A 1 I<|.Z h I (z9 _ _ _) λx3 h=>.p I (.buildSl [_,_,_] I I E22 I (λ_=>I) I (enc:=D.int))<|.Z h I (zeg _ _) λx4 h=>.A 1 I<|.nil<|.nil<|.K [4] I<|.ret (rO h I)
theorem zeX (n t0 r) (h:zcO n t0=some r):Pure pg 144 [Effect.enc t0] (Effect.enc r):=by
 refine Pure.ot Tryz.func144 I Tryz.ntmps144 I λA w=>.sr<|.box I I I I I (.ofD I)<|.allocZ I I I I (.agg Zc63 (ds':=[eM [],eH [],eI []]) (.o (.o .o1))) I<|.nil<|.seq<|bK h λx1 q1 h=>bK h λx2 q2 h=>.drawA 10 Hm I<|.via 1 #[true,true,true,true,true,true,true,true,true,false] ⟨[(1,.loc 0 0),(2,.loc 1 0),(8,.vec 3 (List.length x2)),(10,.loc 0 2)],[.box 63 [.d (eM t0.delta),.vec 2 (List.length x1),.d (eI t0.updates)],.box 63 [.d (eM []),.d (eH []),.d (eI [])],.vec 72 2 (List.map Row.enc x1),.vec 188 3 (List.map Update.enc x2)]⟩ ?_ λsA0=>?_
 ·refine .step 9 [] (by decide +kernel) (.cons (i:=9) I (.store I I I I I I (.cons (.vec I (by simp)) .nil) C61 I (yd I) (.nil ⟨I,I⟩)) ?_ .nil)
  refine .done (by decide +kernel)<|.sr<|.p I (.fieldAddrLoc I I I F63_1)<|.p I (.loadLoc1 I I I Y60 I)<|bK h λx3 q3 h=>.sortK (enc:=Row.enc) (l:=x1) Tryz.sort190 Y72 I I I I K190 K191 I I I I (λ_=>I) (λ_=>I) q3 (λa b v hv=>ziA _ _ _ _ hv)<|.relen 12 I (zbJ q3).symm<|.relenCell 0 1 I I (zbJ q3).symm<|.nil<|.sr<|.p I (.fieldAddrLoc I I I F63_2)<|.p I (.loadLoc1 I I I Y61 I)<|bK h λx4 q4 h=>.sortK (enc:=Update.enc) (l:=x2) Tryz.sort192 Y188 I I I I K192 K193 I I I I (λ_=>I) (λ_=>I) q4 (λa b v hv=>zgY _ _ _ _ hv)<|.relen 8 I (zbJ q4).symm<|.relen 15 I (zbJ q4).symm<|.relenCell 0 2 I I (zbJ q4).symm<|.nil<|.K [1,2] I<|.sr<|.p I (.loadLoc I I I Y63 (yd I) I)<|.store I I I I I I (.cons (.d I) (.cons (.vec I (by simp)) (.cons (.vec I (by simp)) .nil))) C63 I (yd I)<|.nil<|.ret ?_
  cases h
  exact zit I I Y63 (.v (.cons (.vec I (by simp)) (.cons (.vec I (by simp)) .nil)))
 refine .via 2 #[true,true,true,true,true,true,true,true,false,false] ⟨[(1,.loc 0 0),(2,.loc 1 0),(8,.vec 3 (List.length x2))],[.box 63 [.d (eM t0.delta),.vec 2 (List.length x1),.d (eI t0.updates)],.box 63 [.d (eM []),.d (eH []),.d (eI [])],.vec 72 2 (List.map Row.enc x1),.vec 188 3 (List.map Update.enc x2)]⟩ ?_ λsA1=>?_
 ·refine .step 8 [] (by decide +kernel) (.cons (i:=8) I (.p I (.fieldAddrLoc I I I F63_2) (.nil ⟨I,I⟩)) ?_ .nil)
  exact .keepT [1,2,8,10] (.c4 I .nil) (.to #[true,true,true,true,true,true,true,true,true,false] (by decide +kernel) sA0)
 refine .via 3 #[true,true,true,true,true,true,true,false,false,false] ⟨[(1,.loc 0 0),(2,.loc 1 0),(5,.vec 2 (List.length x1)),(8,.vec 3 (List.length x2)),(9,.loc 0 1)],[.box 63 [.d (eM t0.delta),.d (eH t0.hold),.d (eI t0.updates)],.box 63 [.d (eM []),.d (eH []),.d (eI [])],.vec 72 2 (List.map Row.enc x1),.vec 188 3 (List.map Update.enc x2)]⟩ ?_ λsA2=>?_
 ·refine .step 7 [] (by decide +kernel) (.cons (i:=7) I (.store I I I I I I (.cons (.vec I (by simp)) .nil) C60 I (yd I) (.nil ⟨I,I⟩)) ?_ .nil)
  exact .keepT [1,2,8] (.c2 I<|.c I .nil) (.to #[true,true,true,true,true,true,true,true,false,false] (by decide +kernel) sA1)
 refine .via 4 #[true,true,true,true,true,true,false,false,false,false] ⟨[(1,.loc 0 0),(2,.loc 1 0),(5,.vec 2 (List.length x1)),(8,.vec 3 (List.length x2))],[.box 63 [.d (eM t0.delta),.d (eH t0.hold),.d (eI t0.updates)],.box 63 [.d (eM []),.d (eH []),.d (eI [])],.vec 72 2 (List.map Row.enc x1),.vec 188 3 (List.map Update.enc x2)]⟩ ?_ λsA3=>?_
 ·refine .step 6 [] (by decide +kernel) (.cons (i:=6) I (.p I (.fieldAddrLoc I I I F63_1) (.nil ⟨I,I⟩)) ?_ .nil)
  exact .keepT [1,2,5,8,9] (.c4 I<|.c I .nil) (.to #[true,true,true,true,true,true,true,false,false,false] (by decide +kernel) sA2)
 refine .via 4 #[true,true,true,true,true,false,true,false,false,false] ⟨[(1,.loc 0 0),(2,.loc 1 0),(5,.vec 2 (List.length x1)),(7,.d (eI t0.updates)),(9,.loc 0 1)],[.box 63 [.d (eM t0.delta),.d (eH t0.hold),.d (eI t0.updates)],.box 63 [.d (eM []),.d (eH []),.d (eI [])],.vec 72 2 (List.map Row.enc x1)]⟩ ?_ λsA4=>?_
 ·refine .step 5 [] (by decide +kernel) (.cons (i:=5) I (.clone (enc:=Update.enc) I I I I K189 Tryz.func189 I I I I E61 I (λ_=>I) (λ_=>I) q2 I I (.nil ⟨I,I⟩)) ?_ .nil)
  exact .keepT [1,2,5,8,9] (.c4 I<|.c I .nil) (.to #[true,true,true,true,true,true,true,false,false,false] (by decide +kernel) sA2)
 refine .via 5 #[true,true,true,true,true,false,false,false,false,false] ⟨[(1,.loc 0 0),(2,.loc 1 0),(5,.vec 2 (List.length x1)),(7,.d (eI t0.updates))],[.box 63 [.d (eM t0.delta),.d (eH t0.hold),.d (eI t0.updates)],.box 63 [.d (eM []),.d (eH []),.d (eI [])],.vec 72 2 (List.map Row.enc x1)]⟩ ?_ λsA5=>?_
 ·refine .step 5 [6] (by decide +kernel) (.cons (i:=5) I (.clone (enc:=Update.enc) I I I I K189 Tryz.func189 I I I I E61 I (λ_=>I) (λ_=>I) q2 I I (.nil ⟨I,I⟩)) ?_ (.cons (i:=6) I (.p I (.fieldAddrLoc I I I F63_1) (.nil ⟨I,I⟩)) ?_ .nil))
  ·exact .keepT [1,2,5,8] (.c4 I .nil) (.to #[true,true,true,true,true,true,false,false,false,false] (by decide +kernel) sA3)
  ·exact .keepT [1,2,5,7,9] (.c4 I<|.c I .nil) (.to #[true,true,true,true,true,false,true,false,false,false] (by decide +kernel) sA4)
 refine .via 6 #[true,true,true,true,false,false,false,false,false,false] ⟨[(1,.loc 0 0),(2,.loc 1 0),(5,.vec 2 (List.length x1)),(6,.loc 0 2)],[.box 63 [.d (eM t0.delta),.d (eH t0.hold),.d (eI t0.updates)],.box 63 [.d (eM []),.d (eH []),.d (eI [])],.vec 72 2 (List.map Row.enc x1)]⟩ ?_ λsA6=>?_
 ·refine .step 4 [] (by decide +kernel) (.cons (i:=4) I (.p I (.loadLoc1 I I I Y61 I) (.nil ⟨I,I⟩)) ?_ .nil)
  exact .keepT [1,2,5,7] (.c4 I .nil) (.to #[true,true,true,true,true,false,false,false,false,false] (by decide +kernel) sA5)
 refine .via 6 #[true,true,false,true,true,false,false,false,false,false] ⟨[(1,.loc 0 0),(2,.loc 1 0),(4,.d (eH t0.hold)),(7,.d (eI t0.updates))],[.box 63 [.d (eM t0.delta),.d (eH t0.hold),.d (eI t0.updates)],.box 63 [.d (eM []),.d (eH []),.d (eI [])]]⟩ ?_ λsA7=>?_
 ·refine .step 2 [] (by decide +kernel) (.cons (i:=2) I (.clone (enc:=Row.enc) I I I I K188 Tryz.func188 I I I I E60 I (λ_=>I) (λ_=>I) q1 I I (.nil ⟨I,I⟩)) ?_ .nil)
  exact .keepT [1,2,5,7] (.c4 I .nil) (.to #[true,true,true,true,true,false,false,false,false,false] (by decide +kernel) sA5)
 refine .via 7 #[true,true,true,false,false,false,false,false,false,false] ⟨[(1,.loc 0 0),(2,.loc 1 0),(5,.vec 2 (List.length x1))],[.box 63 [.d (eM t0.delta),.d (eH t0.hold),.d (eI t0.updates)],.box 63 [.d (eM []),.d (eH []),.d (eI [])],.vec 72 2 (List.map Row.enc x1)]⟩ ?_ λsA8=>?_
 ·refine .step 3 [] (by decide +kernel) (.cons (i:=3) I (.p I (.fieldAddrLoc I I I F63_2) (.nil ⟨I,I⟩)) ?_ .nil)
  exact .keepT [1,2,5,6] (.c4 I .nil) (.to #[true,true,true,true,false,false,false,false,false,false] (by decide +kernel) sA6)
 refine .via 7 #[true,true,false,true,false,false,false,false,false,false] ⟨[(1,.loc 0 0),(2,.loc 1 0),(4,.d (eH t0.hold)),(6,.loc 0 2)],[.box 63 [.d (eM t0.delta),.d (eH t0.hold),.d (eI t0.updates)],.box 63 [.d (eM []),.d (eH []),.d (eI [])]]⟩ ?_ λsA9=>?_
 ·refine .step 2 [4] (by decide +kernel) (.cons (i:=2) I (.clone (enc:=Row.enc) I I I I K188 Tryz.func188 I I I I E60 I (λ_=>I) (λ_=>I) q1 I I (.nil ⟨I,I⟩)) ?_ (.cons (i:=4) I (.p I (.loadLoc1 I I I Y61 I) (.nil ⟨I,I⟩)) ?_ .nil))
  ·exact .keepT [1,2,5,6] (.c4 I .nil) (.to #[true,true,true,true,false,false,false,false,false,false] (by decide +kernel) sA6)
  ·exact .keepT [1,2,4,7] (.c4 I .nil) (.to #[true,true,false,true,true,false,false,false,false,false] (by decide +kernel) sA7)
 refine .via 7 #[true,false,false,true,true,false,false,false,false,false] ⟨[(1,.loc 0 0),(2,.loc 1 0),(3,.loc 0 1),(7,.d (eI t0.updates))],[.box 63 [.d (eM t0.delta),.d (eH t0.hold),.d (eI t0.updates)],.box 63 [.d (eM []),.d (eH []),.d (eI [])]]⟩ ?_ λsA10=>?_
 ·refine .step 1 [] (by decide +kernel) (.cons (i:=1) I (.p I (.loadLoc1 I I I Y60 I) (.nil ⟨I,I⟩)) ?_ .nil)
  exact .keepT [1,2,4,7] (.c4 I .nil) (.to #[true,true,false,true,true,false,false,false,false,false] (by decide +kernel) sA7)
 refine .via 8 #[true,true,false,false,false,false,false,false,false,false] ⟨[(1,.loc 0 0),(2,.loc 1 0),(4,.d (eH t0.hold))],[.box 63 [.d (eM t0.delta),.d (eH t0.hold),.d (eI t0.updates)],.box 63 [.d (eM []),.d (eH []),.d (eI [])]]⟩ ?_ λsA11=>?_
 ·refine .step 2 [3] (by decide +kernel) (.cons (i:=2) I (.clone (enc:=Row.enc) I I I I K188 Tryz.func188 I I I I E60 I (λ_=>I) (λ_=>I) q1 I I (.nil ⟨I,I⟩)) ?_ (.cons (i:=3) I (.p I (.fieldAddrLoc I I I F63_2) (.nil ⟨I,I⟩)) ?_ .nil))
  ·exact .keepT [1,2,5] (.c2 I<|.c I .nil) (.to #[true,true,true,false,false,false,false,false,false,false] (by decide +kernel) sA8)
  ·exact .keepT [1,2,4,6] (.c4 I .nil) (.to #[true,true,false,true,false,false,false,false,false,false] (by decide +kernel) sA9)
 refine .via 8 #[true,false,false,true,false,false,false,false,false,false] ⟨[(1,.loc 0 0),(2,.loc 1 0),(3,.loc 0 1),(6,.loc 0 2)],[.box 63 [.d (eM t0.delta),.d (eH t0.hold),.d (eI t0.updates)],.box 63 [.d (eM []),.d (eH []),.d (eI [])]]⟩ ?_ λsA12=>?_
 ·refine .step 1 [4] (by decide +kernel) (.cons (i:=1) I (.p I (.loadLoc1 I I I Y60 I) (.nil ⟨I,I⟩)) ?_ (.cons (i:=4) I (.p I (.loadLoc1 I I I Y61 I) (.nil ⟨I,I⟩)) ?_ .nil))
  ·exact .keepT [1,2,4,6] (.c4 I .nil) (.to #[true,true,false,true,false,false,false,false,false,false] (by decide +kernel) sA9)
  ·exact .keepT [1,2,3,7] (.c4 I .nil) (.to #[true,false,false,true,true,false,false,false,false,false] (by decide +kernel) sA10)
 refine .via 8 #[false,false,false,true,true,false,false,false,false,false] ⟨[(1,.loc 0 0),(2,.loc 1 0),(7,.d (eI t0.updates))],[.box 63 [.d (eM t0.delta),.d (eH t0.hold),.d (eI t0.updates)],.box 63 [.d (eM []),.d (eH []),.d (eI [])]]⟩ ?_ λsA13=>?_
 ·refine .step 0 [] (by decide +kernel) (.cons (i:=0) I (.p I (.fieldAddrLoc I I I F63_1) (.nil ⟨I,I⟩)) ?_ .nil)
  exact .keepT [1,2,3,7] (.c4 I .nil) (.to #[true,false,false,true,true,false,false,false,false,false] (by decide +kernel) sA10)
 refine .via 9 #[true,false,false,false,false,false,false,false,false,false] ⟨[(1,.loc 0 0),(2,.loc 1 0),(3,.loc 0 1)],[.box 63 [.d (eM t0.delta),.d (eH t0.hold),.d (eI t0.updates)],.box 63 [.d (eM []),.d (eH []),.d (eI [])]]⟩ ?_ λsA14=>?_
 ·refine .step 1 [3] (by decide +kernel) (.cons (i:=1) I (.p I (.loadLoc1 I I I Y60 I) (.nil ⟨I,I⟩)) ?_ (.cons (i:=3) I (.p I (.fieldAddrLoc I I I F63_2) (.nil ⟨I,I⟩)) ?_ .nil))
  ·exact .keepT [1,2,4] (.c2 I<|.c I .nil) (.to #[true,true,false,false,false,false,false,false,false,false] (by decide +kernel) sA11)
  ·exact .keepT [1,2,3,6] (.c4 I .nil) (.to #[true,false,false,true,false,false,false,false,false,false] (by decide +kernel) sA12)
 refine .via 9 #[false,false,false,true,false,false,false,false,false,false] ⟨[(1,.loc 0 0),(2,.loc 1 0),(6,.loc 0 2)],[.box 63 [.d (eM t0.delta),.d (eH t0.hold),.d (eI t0.updates)],.box 63 [.d (eM []),.d (eH []),.d (eI [])]]⟩ ?_ λsA15=>?_
 ·refine .step 0 [4] (by decide +kernel) (.cons (i:=0) I (.p I (.fieldAddrLoc I I I F63_1) (.nil ⟨I,I⟩)) ?_ (.cons (i:=4) I (.p I (.loadLoc1 I I I Y61 I) (.nil ⟨I,I⟩)) ?_ .nil))
  ·exact .keepT [1,2,3,6] (.c4 I .nil) (.to #[true,false,false,true,false,false,false,false,false,false] (by decide +kernel) sA12)
  ·exact .keepT [1,2,7] (.c2 I<|.c I .nil) (.to #[false,false,false,true,true,false,false,false,false,false] (by decide +kernel) sA13)
 refine .step 0 [3] (by decide +kernel) (.cons (i:=0) I (.p I (.fieldAddrLoc I I I F63_1) (.nil ⟨I,I⟩)) ?_ (.cons (i:=3) I (.p I (.fieldAddrLoc I I I F63_2) (.nil ⟨I,I⟩)) ?_ .nil))
 ·exact .keepT [1,2,3] (.c2 I<|.c I .nil) (.to #[true,false,false,false,false,false,false,false,false,false] (by decide +kernel) sA14)
 ·exact .keepT [1,2,6] (.c2 I<|.c I .nil) (.to #[false,false,false,true,false,false,false,false,false,false] (by decide +kernel) sA15)
theorem zdp (n t0 t1 r) (h:zD n t0 t1=some r):Pure pg 145 [eM t0,eM t1] (.bool r):=by
 refine Pure.ot Tryz.func145 I Tryz.ntmps145 I λA w=>.sA 1 I<|.seq<|.S 1 I<|.p I (.len I U59 I)<|.A 1 I<|.p I (.len I U59 I)<|.A 1 I<|.nil<|.condS I h (λh=>?_) λh=>?_
 ·refine .sA 1 I<|.ret (rO h I)
 ·refine .skip<|.seq<|.S 1 I<|.p I (.len I U59 I)<|.A 1 I<|.nil<|.block<|.L [0,1,12] h (λv=>[(13,.d (.int v))]) (λv=>[]) I λ_ x7 h=>.sA 1 I<|.seq<|.condS I h (λh=>?_) λh=>?_
  ·refine .skip<|.seq<|.block<|.sA 2 I<|.seq<|.draw 9 Hm (by kernel_rfl) (by kernel_rfl)<|.A 2 I<|.X h I λx9 h=>.A 3 I<|.X h I λx10 h=>.A 1 I<|.p I (.sneq I SE137 I I (xs:=Change.vals _) (ys:=Change.vals _) I I I I (SQ137 _ _))<|.nil<|.nil<|.condS I h (λh=>?_) λh=>?_
   ·refine .sA 1 I<|.ret (rO h I)
   ·refine .skip<|.rA 2 I (ndE h I)
  ·refine .exit<|.sA 1 I<|.ret (rO h I)
theorem zcg (n t0 t1) (t2:Row→Row→Option Bool) (F2:D) (hF2:∀ (q0:Row) (q1:Row) (y:Bool),t2 q0 q1=some y→Dyn pg F2 [Row.enc q0,Row.enc q1] (.bool y)) (r) (h:zg n t0 t1 t2=some r):Pure pg 146 [eH t0,eH t1,F2] (.bool r):=by
 refine Pure.ot Tryz.func146 I Tryz.ntmps146 I λA w=>.sA 1 I<|.seq<|.S 1 I<|.p I (.len I U60 I)<|.A 1 I<|.p I (.len I U60 I)<|.A 1 I<|.nil<|.condS I h (λh=>?_) λh=>?_
 ·refine .sA 1 I<|.ret (rO h I)
 ·refine .skip<|.seq<|.S 1 I<|.p I (.len I U60 I)<|.A 1 I<|.nil<|.block<|.L [1,2,15,16] h (λv=>[(17,.d (.int v))]) (λv=>[]) I λ_ x9 h=>.sA 1 I<|.seq<|.condS I h (λh=>?_) λh=>?_
  ·refine .skip<|.seq<|.block<|.S 1 I<|.X h I λx11 h=>.A 1 I<|.allocZ I I I I (.agg Zc72 (ds':=[eL [],.int 0]) (.o .e1)) I<|.A 1 I<|.store I I I I I I (.ofD I) C72 I (yd I)<|.nil<|.S 2 I<|.X h I λx12 h=>.A 1 I<|.allocStore I I I I I I I I (by simp) I I Z72<|.nil<|.S 1 I<|.p I (.loadLoc I I I Y72 (yd I) (v:=.d (Row.enc x11)) I)<|.A 1 I<|bK h λx13 q13 h=>.p I (.dyn I I I (hF2 _ _ _ q13))<|.A 1 I<|.nil<|.K [1,2,15,16,17,30] I<|.condS I h (λh=>?_) λh=>?_
   ·refine .sA 1 I<|.ret (rO h I)
   ·refine .skip<|.rA 2 I (ndE h I)
  ·refine .exit<|.sA 1 I<|.ret (rO h I)
theorem zdg (n t0 t1 r) (h:zaH n t0 t1=some r):Pure pg 119 [Row.enc t0,Row.enc t1] (.bool r):=by
 refine Pure.ot Tryz.func119 I Tryz.ntmps119 I λA w=>.sA 3 I<|.seq<|.plain 12 I<|.p I (.fa I (G72_1 _))<|.A 1 I<|.p I (.fa I (G72_1 _))<|.A 3 I<|gK h λc2 h=>.jA 5 (((zy n t0.terms t1.terms).getD default)) I (λb1=>?_) ?_
 ·refine .q I (.fa I (G72_0 _))<|.A 1 I<|.q I (.fa I (G72_0 _))<|.A 1 I<|.q I (.call I (kC I) I (zco _ _ _ _ (someD (impT c2 b1))))<|.nil I
 refine .nil<|.A 1 I<|.nil<|.K [4] I<|.ret (rO h I)
theorem zdq (n t0 t1 r) (h:zr n t0 t1=some r):Pure pg 147 [eI t0,eI t1] (.bool r):=by
 refine Pure.ot Tryz.func147 I Tryz.ntmps147 I λA w=>.sA 1 I<|.seq<|.S 1 I<|.p I (.len I U61 I)<|.A 1 I<|.p I (.len I U61 I)<|.A 1 I<|.nil<|.condS I h (λh=>?_) λh=>?_
 ·refine .sA 1 I<|.ret (rO h I)
 ·refine .skip<|.seq<|.S 1 I<|.p I (.len I U61 I)<|.A 1 I<|.nil<|.block<|.L [0,1,12] h (λv=>[(13,.d (.int v))]) (λv=>[]) I λ_ x7 h=>.sA 1 I<|.seq<|.condS I h (λh=>?_) λh=>?_
  ·refine .skip<|.seq<|.block<|.sA 2 I<|.seq<|.draw 9 Hm (by kernel_rfl) (by kernel_rfl)<|.A 2 I<|.X h I λx9 h=>.A 3 I<|.X h I λx10 h=>.A 1 I<|.p I (.sneq I SE188 I I (xs:=Update.vals _) (ys:=Update.vals _) I I I I (SQ188 _ _))<|.nil<|.nil<|.condS I h (λh=>?_) λh=>?_
   ·refine .sA 1 I<|.ret (rO h I)
   ·refine .skip<|.rA 2 I (ndE h I)
  ·refine .exit<|.sA 1 I<|.ret (rO h I)
theorem ziz (n t0 t1 r) (h:zb8 n t0 t1=some r):Pure pg 111 [Effect.enc t0,Effect.enc t1] (.bool r):=by
 refine Pure.ot Tryz.func111 I Tryz.ntmps111 I λA w=>.sr<|.box I I I I I (.ofD I)<|.box I I I I I (.ofD I)<|.A 1 I<|.nil<|.seq<|.draw 4 Hm (by kernel_rfl) (by kernel_rfl)<|.p I (.loadLoc I I I Y63 (yd I) (v:=.d (Effect.enc t0)) I)<|.Z h I (zeX _ _) λx1 h=>.p I (.loadLoc I I I Y63 (yd I) (v:=.d (Effect.enc t1)) I)<|.Z h I (zeX _ _) λx2 h=>.nil<|.store I I I I I I (.ofD I) C63 I (yd I)<|.store I I I I I I (.ofD I) C63 I (yd I)<|.nil<|.seq<|.plain 19 I<|.p I (.fieldAddrLoc I I I F63_0)<|.p I (.loadLoc1 I I I Y59 I)<|.p I (.fieldAddrLoc I I I F63_0)<|.p I (.loadLoc1 I I I Y59 I)<|.Z h I (zdp _ _ _) λx3 h=>.A 1 I<|gK h λc5 h=>.jA 5 (((zg n x1.hold x2.hold (λq0 q1=>zaH n q0 q1)).getD default)) I (λb4=>?_) ?_
 ·refine .q I (.fieldAddrLoc I I I F63_1)<|.q I (.loadLoc1 I I I Y60 I)<|.q I (.fieldAddrLoc I I I F63_1)<|.q I (.loadLoc1 I I I Y60 I)<|.q I (.call I (kC I) I (zcg _ _ _ _ _ (λq0 q1 y hq=>⟨_,_,I,K119,zdg _ q0 q1 _ hq⟩) _ (someD (impT c5 b4))))<|.nil I
 refine .A 1 I<|gK h λc7 h=>.jA 5 (((zr n x1.updates x2.updates).getD default)) I (λb6=>?_) ?_
 ·refine .q I (.fieldAddrLoc I I I F63_2)<|.q I (.loadLoc1 I I I Y61 I)<|.q I (.fieldAddrLoc I I I F63_2)<|.q I (.loadLoc1 I I I Y61 I)<|.q I (.call I (kC I) I (zdq _ _ _ _ (someD (impT c7 b6))))<|.nil I
 refine .nil<|.A 1 I<|.nil<|.K [4] I<|.ret (rO h I)
theorem zbQ (n t0 t1 r) (h:zH n t0 t1=some r):Pure pg 68 [.ref (Swapping.enc t0),.int t1] (.tup [.int r.1,.bool r.2]):=by
 refine Pure.ot Tryz.func68 I Tryz.ntmps68 I λA w=>.sA 2 I<|.seq<|.seq<|.plain 15 I<|.A 3 I<|.jO 11 (decide ((t0.layout.m.actions.length:Int)≤t1)) I (λb1=>?_) ?_
 ·refine .A 2 I<|.q I (.nilCheck_ref I I)<|.q I (.fa I (zcF _))<|.A 1 I<|.q I (.nilCheck_ref I I)<|.q I (.fa I (zc7 _))<|.A 2 I<|.q I (.len I U27 I)<|.A 1 I<|.nil I
 refine .nil<|.nil<|.K [0,1,25] I<|.condS I h (λh=>?_) λh=>?_
 ·refine .sA 2 I<|.ret ?_
  cases h
  exact zbI I I (.d _) (.d _)
 ·refine .skip<|.S 1 I<|.p I (.nilCheck_ref I I)<|.p I (.fa I (zcF _))<|.A 1 I<|.p I (.nilCheck_ref I I)<|.p I (.fa I (zc7 _))<|.A 3 I<|.X h I λx2 h=>.A 1 I<|.allocStore I I I I I I I I (by simp) I I Z65<|.nil<|.sr<|.allocZ I I I I (.val Zv22) I<|.nilCell 0 0 1 3 I I<|.nil<|.K [0,6,7] I<|.seq<|.sr<|.p I (.fa I (G65_1 _))<|.A 1 I<|.p I (.len I U22 I)<|.A 1 I<|.nil<|.block<|.L [0,6,7,38,39] h (λv=>[(40,.d (.int v.2))]) (λv=>[(0,.box 22 [.vec 1 (List.length v.1)]),(1,.vec 3 1 (List.map D.int v.1))]) I λ_ ⟨b1_17,x18⟩ h=>.sA 1 I<|.K [0,6,7,38,39,40,41] I<|.seq<|.condS I h (λh=>?_) λh=>?_
  ·refine .skip<|.seq<|.block<|.S 1 I<|.X h I λx20 h=>.A 3 I<|.nil<|.draw 21 Hm (by kernel_rfl) (by kernel_rfl)<|.p I (.loadLoc1 I I I Y22 I)<|.A 2 I<|.p I (.nilCheck_ref I I)<|.p I (.fa I (zcF _))<|.A 1 I<|.p I (.nilCheck_ref I I)<|.p I (.fa I (zc7 _))<|.A 2 I<|.p I (.fa I (G65_0 _))<|.A 1 I<|.X h I λx21 h=>.p I (.fa I (zfh _))<|.A 2 I<|.X h I λx22 h=>.A 2 I<|.Z h I (zcD _ _ _ _) λx23 h=>.p I (.buildSl [_] I I E22 I (λ_=>I) I (enc:=D.int))<|.nil<|bK h λx24 q24 h=>.app I I I I I I I I E22 I (λ_=>I) q24<|.store I I I I I I (.cons (.vec I (by simp)) .nil) C22 I (yd I)<|.nil<|.K [0,6,7,38,39,40] I<|.rA 2 I (ndE h I)
  ·refine .exit<|.seq<|.freezes [0,1] (.cons (t:=7) I (.loc1 (inIds I) I (.vec (inIds I) I (by simp)) I) .nil)<|.region<|.A 1 I<|.p I (.nilCheck_ref I I)<|.p I (.fa I (zcF _))<|.A 1 I<|.p I (.nilCheck_ref I I)<|.p I (.fa I (zc7 _))<|.A 2 I<|.p I (.makeFunc I I)<|.Z h I (zcU _ _ _ _ (λq0 y hq=>⟨_,_,I,K110,zd7 _ q0 _ _ _ hq⟩)) λx25 h=>.A 1 I<|.nil<|.K [0,6,10] I<|.seq<|.seq<|.draw 22 Hm (by kernel_rfl) (by kernel_rfl)<|.A 3 I<|gK h λc27 h=>gK h λc28 h=>gK h λc29 h=>.jO 18 (!((zb8 n (((idx t0.layout.m.actions x25).getD default).effect) ((zk n t0 x2.effect).getD default)).getD default)) I (λb26=>?_) ?_
   ·refine .A 1 I<|.q I (.nilCheck_ref I I)<|.q I (.fa I (zcF _))<|.A 1 I<|.q I (.nilCheck_ref I I)<|.q I (.fa I (zc7 _))<|.A 3 I<|.q I (.ix I U27 S65 (someD (impF c27 b26)))<|.q I (.fa I (G65_2 _))<|.A 2 I<|.q I (.fa I (G65_2 _))<|.A 1 I<|.q I (.call I (kC I) I (zeH _ _ _ _ (someD (impF c28 b26))))<|.q I (.call I (kC I) I (ziz _ _ _ _ (someD (impF c29 b26))))<|.A 1 I<|.nil I
   refine .nil<|.nil<|.K [10,99] I<|.condS I h (λh=>?_) λh=>?_
   ·refine .sA 2 I<|.ret ?_
    cases h
    exact zbI I I (.d _) (.d _)
   ·refine .skip<|.sA 3 I<|.ret ?_
    cases h
    exact zbI I I (.d _) (.d _)
theorem zbR (n t0 t1 t2 r) (h:zap n t0 t1 t2=some r):Pure pg 126 [Constraint.enc t0,.ref (Constraint.enc t1),.ref (Row.enc t2)] (.bool r):=by
 refine Pure.ot Tryz.func126 I Tryz.ntmps126 I λA w=>.sA 2 I<|.seq<|.plain 16 I<|.p I (.fa I (zhr _))<|.A 3 I<|.jA 5 (t0.family==t1.family) I (λb1=>?_) ?_
 ·refine .q I (.fa I (ziH _))<|.A 1 I<|.q I (.fa I (ziH _))<|.A 2 I<|.nil I
 refine .A 1 I<|gK h λc3 h=>.jA 4 (((zaH n t0.row t2).getD default)) I (λb2=>?_) ?_
 ·refine .q I (.fa I (zep _))<|.A 2 I<|.q I (.call I (kC I) I (zdg _ _ _ _ (someD (impT c3 b2))))<|.nil I
 refine .nil<|.A 1 I<|.nil<|.K [4] I<|.ret (rO h I)
theorem zb3 (n:Nat) (t0:Row) (t1:Constraint):Pure pg 125 [Row.enc t0,.ref (Constraint.enc t1)] (.fn (.func 126) [] [.ref (Constraint.enc t1),.ref (Row.enc t0)]):=by
 refine Pure.ot Tryz.func125 I Tryz.ntmps125 I λA w=>.sA 2 I<|.sr<|.p I (.makeFunc I I)<|.A 1 I<|.nil<|.ret (zb9 I (.d _))
theorem zd2 (n t0 t1) (t2:Constraint→Option Bool) (t3) (t4:Constraint→Option Bool) (F2:D) (hF2:∀ (q0:Constraint) (y:Bool),t2 q0=some y→Dyn pg F2 [Constraint.enc q0] (.bool y)) (F4:D) (hF4:∀ (q0:Constraint) (y:Bool),t4 q0=some y→Dyn pg F4 [Constraint.enc q0] (.bool y)) (r) (h:zo n t0 t1 t2 t3 t4=some r):Pure pg 127 [eD t0,.int t1,F2,eD t3,F4] (.tup [.int r.1,.bool r.2]):=by
 refine Pure.ot Tryz.func127 I Tryz.ntmps127 I λA w=>.sA 2 I<|.sA 1 I<|.seq<|.S 2 I<|bK h λx1 q1 h=>.p I (.cutSlH I I I U25 S135 q1)<|.p I (.len I U25 I)<|.A 1 I<|.nil<|.block<|.L [2,3,4,19,20] h (λv=>[(12,.d (.int v.1)),(21,.d (.int v.2))]) (λv=>[]) I λ_ ⟨x14,x15⟩ h=>.sA 1 I<|.seq<|.condS I h (λh=>?_) λh=>?_
 ·refine .skip<|.J [2,3,4,19,20,21] h (λv=>[(12,.d (.int v))]) (λv=>[]) I (λk_18 h=>?_) (λx17 h=>?_)
  ·refine .block<|.sr<|.X h I λx19 h=>.A 1 I<|.allocStore I I I I I I I I (by simp) I I Z135<|.nil<|.S 2 I<|bK h λx20 q20 h=>.p I (.dyn I I I (hF2 _ _ q20))<|.nil<|.condS I h (λh=>?_) λh=>?_
   ·refine .rA 3 I (ndE h I)
   ·refine .skip (ndE h I)
  ·refine .rA 2 I (ndE h I)
 ·refine .exit<|.seq<|.S 1 I<|.p I (.len I U25 I)<|.A 1 I<|.nil<|.block<|.L [4,31,32] h (λv=>[(12,.d (.int v.1)),(33,.d (.int v.2))]) (λv=>[]) I λ_ ⟨x33,x34⟩ h=>.sA 1 I<|.seq<|.condS I h (λh=>?_) λh=>?_
  ·refine .skip<|.J [4,31,32,33] h (λv=>[(12,.d (.int v))]) (λv=>[]) I (λk_37 h=>?_) (λx36 h=>?_)
   ·refine .block<|.S 1 I<|.X h I λx38 h=>.A 1 I<|.allocZ I I I I (.agg Zc135 (ds':=[.int 0,.int 0,eL [],.int 0,.int 0,.int 0]) (.e (.e (.o (.e (.e .e1)))))) I<|.A 1 I<|.store I I I I I I (.ofD I) C135 I (yd I)<|.nil<|.seq<|.S 1 I<|.p I (.loadLoc I I I Y135 (yd I) (v:=.d (Constraint.enc x38)) I)<|bK h λx39 q39 h=>.p I (.dyn I I I (hF4 _ _ q39))<|.A 1 I<|.nil<|.condS I h (λh=>?_) λh=>?_
    ·refine .exit (ndE h I)
    ·refine .skip<|.seq<|.sA 2 I<|.condS I h (λh=>?_) λh=>?_
     ·refine .sA 3 I<|.ret ?_
      cases h
      exact zbI I I (.d _) (.d _)
     ·refine .skip<|.rA 3 I (ndE h I)
   ·refine .rA 2 I (ndE h I)
  ·refine .exit<|.sA 2 I<|.ret ?_
   cases h
   exact zbI I I (.d _) (.d _)
theorem zcj (n t0 t1 r) (h:zaI n t0 t1=some r):Pure pg 80 [.ref (Swapping.enc t0),.int t1] (.tup [.int r.1,.bool r.2]):=by
 refine Pure.ot Tryz.func80 I Tryz.ntmps80 I λA w=>.sA 2 I<|.seq<|.seq<|.plain 15 I<|.A 3 I<|.jO 11 (decide ((t0.layout.m.constraints.length:Int)≤t1)) I (λb1=>?_) ?_
 ·refine .A 2 I<|.q I (.nilCheck_ref I I)<|.q I (.fa I (zcF _))<|.A 1 I<|.q I (.nilCheck_ref I I)<|.q I (.fa I (zc7 _))<|.A 2 I<|.q I (.len I U25 I)<|.A 1 I<|.nil I
 refine .nil<|.nil<|.K [0,1,23] I<|.condS I h (λh=>?_) λh=>?_
 ·refine .sA 2 I<|.ret ?_
  cases h
  exact zbI I I (.d _) (.d _)
 ·refine .skip<|.S 1 I<|.p I (.nilCheck_ref I I)<|.p I (.fa I (zcF _))<|.A 1 I<|.p I (.nilCheck_ref I I)<|.p I (.fa I (zc7 _))<|.A 3 I<|.X h I λx2 h=>.A 1 I<|.allocStore I I I I I I I I (by simp) I I Z135<|.nil<|.seq<|.sr<|.p I (.fa I (zhr _))<|.A 2 I<|.nil<|.K [0,1,6,37] I<|.condS I h (λh=>?_) λh=>?_
  ·refine .sA 3 I<|.ret ?_
   cases h
   exact zbI I I (.d _) (.d _)
  ·refine .skip<|.S 1 I<|.p I (.fa I (zep _))<|.A 1 I<|.Z h I (zck _ _ _) λx3 h=>.allocStore I I I I I I I I (by simp) I I Z72<|.nil<|.sr<|.p I (.makeFunc I I)<|.A 1 I<|.nil<|.seq<|.draw 29 Hm (by kernel_rfl) (by kernel_rfl)<|.A 1 I<|.p I (.nilCheck_ref I I)<|.p I (.fa I (zcF _))<|.A 1 I<|.p I (.nilCheck_ref I I)<|.p I (.fa I (zc7 _))<|.A 4 I<|.p I (.fa I (zep _))<|.A 1 I<|.p I (.dyn I I I ⟨_,_,I,K125,zb3 n x2.row x2⟩)<|.A 1 I<|.p I (.nilCheck_ref I I)<|.p I (.fa I (zcF _))<|.A 1 I<|.p I (.nilCheck_ref I I)<|.p I (.fa I (zc7 _))<|.A 4 I<|.p I (.dyn I I I ⟨_,_,I,K125,zb3 n x3 x2⟩)<|.Z h I (zd2 _ _ _ _ _ _ _ (λq0 y hq=>⟨_,_,I,K126,zbR _ q0 _ _ _ hq⟩) _ (λq0 y hq=>⟨_,_,I,K126,zbR _ q0 _ _ _ hq⟩)) λx4 h=>.p I (.extract I I I)<|.p I (.extract I I I)<|.A 2 I<|.nil<|.nil ?_
   refine .K [4,5] I<|.ret ?_
   cases h
   exact zbI I I (.d _) (.d _)
theorem zc1 (n t0 r) (h:zc n t0=some r):Pure pg 57 [.ref (Swapping.enc t0)] (.bool r):=by
 refine Pure.ot Tryz.func57 I Tryz.ntmps57 I λA w=>.sA 1 I<|.seq<|.S 1 I<|.p I (.nilCheck_ref I I)<|.p I (.fa I (zcF _))<|.A 1 I<|.p I (.nilCheck_ref I I)<|.p I (.fa I (zc7 _))<|.A 2 I<|.p I (.len I U27 I)<|.A 1 I<|.nil<|.block<|.L [0,17] h (λv=>[(18,.d (.int v))]) (λv=>[]) I λ_ x5 h=>.sA 1 I<|.seq<|.condS I h (λh=>?_) λh=>?_
 ·refine .skip<|.seq<|.block<|.sA 2 I<|.S 2 I<|.Z h I (zbQ _ _ _) λx7 h=>.A 1 I<|.p I (.extract I I I)<|.p I (.extract I I I)<|.A 2 I<|.nil<|.sA 2 I<|.condS I h (λh=>?_) λh=>?_
  ·refine .sA 1 I<|.ret (rO h I)
  ·refine .skip<|.rA 2 I (ndE h I)
 ·refine .exit<|.seq<|.S 1 I<|.p I (.nilCheck_ref I I)<|.p I (.fa I (zcF _))<|.A 1 I<|.p I (.nilCheck_ref I I)<|.p I (.fa I (zc7 _))<|.A 2 I<|.p I (.len I U25 I)<|.A 1 I<|.nil<|.block<|.L [0,38] h (λv=>[(39,.d (.int v))]) (λv=>[]) I λ_ x12 h=>.sA 1 I<|.seq<|.condS I h (λh=>?_) λh=>?_
  ·refine .skip<|.seq<|.block<|.sA 2 I<|.S 2 I<|.Z h I (zcj _ _ _) λx14 h=>.A 1 I<|.p I (.extract I I I)<|.p I (.extract I I I)<|.A 2 I<|.nil<|.sA 2 I<|.condS I h (λh=>?_) λh=>?_
   ·refine .sA 1 I<|.ret (rO h I)
   ·refine .skip<|.rA 2 I (ndE h I)
  ·refine .exit<|.sA 1 I<|.ret (rO h I)
theorem zcw (n t0 r) (h:zf n t0=some r):Pure pg 60 [.ref (Layout.enc t0)] (.sl 1 (List.map (λx=>D.ref (Swapping.enc x)) r)):=by
 refine Pure.ot Tryz.func60 I Tryz.ntmps60 I λA w=>.sr<|.p I (.nilS 1 (α:=Swapping) (λx=>D.ref (Swapping.enc x)) I)<|.nil<|.S 1 I<|.nilVec 3 1 101 I<|.nil<|.seq<|.S 1 I<|.p I (.nilCheck_ref I I)<|.p I (.fa I (zc7 _))<|.A 2 I<|.p I (.len I U22 I)<|.A 1 I<|.nil<|.block<|.L [0,13,14] h (λv=>[(3,.vec 0 (List.length v.1)),(15,.d (.int v.2))]) (λv=>[(0,.vec 101 1 (List.map (λx=>D.ref (Swapping.enc x)) v.1))]) I λ_ ⟨b0_135,x136⟩ h=>.sA 1 I<|.K [0,3,13,14,15,16] I<|.seq<|.condS I h (λh=>?_) λh=>?_
 ·refine .skip<|.seq<|.block<|.S 1 I<|.X h I λx138 h=>.A 3 I<|.nil<|.sA 2 I<|.block<|.L [0,4,5,13,14,15,20] h (λv=>[(3,.vec 0 (List.length v.1)),(21,.d (.int v.2))]) (λv=>[(0,.vec 101 1 (List.map (λx=>D.ref (Swapping.enc x)) v.1))]) I λ_ ⟨b0_181,x182⟩ h=>.sA 1 I<|.K [0,3,4,5,13,14,15,20,21,22] I<|.seq<|.condS I h (λh=>?_) λh=>?_
  ·refine .skip<|.seq<|.block<|.sA 2 I<|.sA 3 I<|.block<|.L [0,4,5,6,13,14,15,20,21] h (λv=>[(3,.vec 0 (List.length v.1)),(7,.d (.int v.2))]) (λv=>[(0,.vec 101 1 (List.map (λx=>D.ref (Swapping.enc x)) v.1))]) I λ_ ⟨b0_196,x197⟩ h=>.seq<|.sA 3 I<|.K [0,3,4,5,6,7,13,14,15,20,21,28] I<|.condS I h (λh=>?_) λh=>?_
   ·refine .skip<|.J [0,4,5,6,7,13,14,15,20,21] h (λv=>[(3,.vec 0 (List.length v))]) (λv=>[(0,.vec 101 1 (List.map (λx=>D.ref (Swapping.enc x)) v))]) I (λk_200 h=>?_) (λb0_199 h=>?_)
    ·refine .block<|.S 4 I<|.p I (.castD (Swap.enc (⟨x136,x182,x197⟩:Swap)) I (.build I Pl41 (.agg Zc41 (ds':=[_,_,_]) (.e (.e .e1))) I I))<|.p I (.castD (Swapping.enc (⟨t0,(⟨x136,x182,x197⟩:Swap)⟩:Swapping)) I (.build I Pl107 (.agg Zc107 (ds':=[_,_,_,_]) (.e (.e (.e .e1)))) I I))<|.A 2 I<|.nil<|.S 1 I<|.Z h I (zc1 _ _) λx201 h=>.nil<|.condS I h (λh=>?_) λh=>?_
     ·refine .region<|.A 2 I<|.p I (.buildSl [_] I I E104 I (λ_=>I) I (enc:=(λx=>D.ref (Swapping.enc x))))<|bK h λx202 q202 h=>.app I I I I I I I I E104 I (λ_=>I) q202<|.A 1 I<|.nil (ndE h I)
     ·refine .skip (ndE h I)
    ·refine .rA 3 I (ndE h I)
   ·refine .exit<|.rA 2 I (ndE h I)
  ·refine .exit<|.rA 2 I (ndE h I)
 ·refine .exit<|.sA 2 I<|.ret ?_
  cases h
  exact zb9 I (.vec I (by simp))
theorem zdL (n t0 t1 r) (h:za2 n t0 t1=some r):Pure pg 118 [Row.enc t0,.ref (Row.enc t1)] (.bool r):=by
 refine Pure.ot Tryz.func118 I Tryz.ntmps118 I λA w=>.sA 2 I<|.S 2 I<|.Z h I (zdg _ _ _) λx1 h=>.A 1 I<|.nil<|.ret (rO h I)
theorem zdM (n t0 t1 r) (h:za3 n t0 t1=some r):Pure pg 120 [Row.enc t0,.ref (Row.enc t1)] (.bool r):=by
 refine Pure.ot Tryz.func120 I Tryz.ntmps120 I λA w=>.sA 2 I<|.S 2 I<|.Z h I (zdg _ _ _) λx1 h=>.A 1 I<|.nil<|.ret (rO h I)
theorem zfX (n t0 t1) (t2:Row→Option Bool) (t3) (t4:Row→Option Bool) (F2:D) (hF2:∀ (q0:Row) (y:Bool),t2 q0=some y→Dyn pg F2 [Row.enc q0] (.bool y)) (F4:D) (hF4:∀ (q0:Row) (y:Bool),t4 q0=some y→Dyn pg F4 [Row.enc q0] (.bool y)) (r) (h:zO n t0 t1 t2 t3 t4=some r):Pure pg 117 [eH t0,.int t1,F2,eH t3,F4] (.tup [.int r.1,.bool r.2]):=by
 refine Pure.ot Tryz.func117 I Tryz.ntmps117 I λA w=>.sA 2 I<|.sA 1 I<|.seq<|.S 2 I<|bK h λx1 q1 h=>.p I (.cutSlH I I I U60 S72 q1)<|.p I (.len I U60 I)<|.A 1 I<|.nil<|.block<|.L [2,3,4,19,20] h (λv=>[(12,.d (.int v.1)),(21,.d (.int v.2))]) (λv=>[]) I λ_ ⟨x14,x15⟩ h=>.sA 1 I<|.seq<|.condS I h (λh=>?_) λh=>?_
 ·refine .skip<|.J [2,3,4,19,20,21] h (λv=>[(12,.d (.int v))]) (λv=>[]) I (λk_18 h=>?_) (λx17 h=>?_)
  ·refine .block<|.sr<|.X h I λx19 h=>.A 1 I<|.allocStore I I I I I I I I (by simp) I I Z72<|.nil<|.S 2 I<|bK h λx20 q20 h=>.p I (.dyn I I I (hF2 _ _ q20))<|.nil<|.condS I h (λh=>?_) λh=>?_
   ·refine .rA 3 I (ndE h I)
   ·refine .skip (ndE h I)
  ·refine .rA 2 I (ndE h I)
 ·refine .exit<|.seq<|.S 1 I<|.p I (.len I U60 I)<|.A 1 I<|.nil<|.block<|.L [4,31,32] h (λv=>[(12,.d (.int v.1)),(33,.d (.int v.2))]) (λv=>[]) I λ_ ⟨x33,x34⟩ h=>.sA 1 I<|.seq<|.condS I h (λh=>?_) λh=>?_
  ·refine .skip<|.J [4,31,32,33] h (λv=>[(12,.d (.int v))]) (λv=>[]) I (λk_37 h=>?_) (λx36 h=>?_)
   ·refine .block<|.S 1 I<|.X h I λx38 h=>.A 1 I<|.allocZ I I I I (.agg Zc72 (ds':=[eL [],.int 0]) (.o .e1)) I<|.A 1 I<|.store I I I I I I (.ofD I) C72 I (yd I)<|.nil<|.seq<|.S 1 I<|.p I (.loadLoc I I I Y72 (yd I) (v:=.d (Row.enc x38)) I)<|bK h λx39 q39 h=>.p I (.dyn I I I (hF4 _ _ q39))<|.A 1 I<|.nil<|.condS I h (λh=>?_) λh=>?_
    ·refine .exit (ndE h I)
    ·refine .skip<|.seq<|.sA 2 I<|.condS I h (λh=>?_) λh=>?_
     ·refine .sA 3 I<|.ret ?_
      cases h
      exact zbI I I (.d _) (.d _)
     ·refine .skip<|.rA 3 I (ndE h I)
   ·refine .rA 2 I (ndE h I)
  ·refine .exit<|.sA 2 I<|.ret ?_
   cases h
   exact zbI I I (.d _) (.d _)
theorem zd9 (n t0 t1 r) (h:zbl n t0 t1=some r):Pure pg 75 [.ref (Swapping.enc t0),Question.enc t1] (.tup [Question.enc r.1,.bool r.2]):=by
 refine Pure.ot Tryz.func75 I Tryz.ntmps75 I λA w=>.S 1 I<|.allocZ I I I I (.agg Zc34 (ds':=[.int 0,.int 0,.bool false,.int 0]) (.e (.e (.e .e1)))) I<|.A 1 I<|.nil<|.seq<|.seq<|.draw 7 Hm (by kernel_rfl) (by kernel_rfl)<|.A 1 I<|.p I (.nilCheck_ref I I)<|.p I (.fa I (zcF _))<|.A 2 I<|.Z h I (zbA _ _ _) λx1 h=>.A 1 I<|.nil<|.nil<|.condS I h (λh=>?_) λh=>?_
 ·refine .sr<|.p I (.castD (Question.enc (⟨0,0,(⟨false,0⟩:Target)⟩:Question)) I (.build I Pl34 (.agg Zc34 (ds':=[_,_,_,_]) (.e (.e (.e .e1)))) I I))<|.store I I I I I I (.ofD I) C34 I (yd I)<|.A 1 I<|.nil<|.ret ?_
  cases h
  exact zbz I I Y34 (.v (.v (.v .v1))) I (.d _)
 ·refine .skip<|.S 1 I<|.p I (.fa I (G34_0 _))<|.A 1 I<|.Z h I (zbQ _ _ _) λx2 h=>.A 1 I<|.p I (.extract I I I)<|.p I (.extract I I I)<|.A 2 I<|.nil<|.K [0,3,4,6,7] I<|.S 1 I<|.p I (.fa I (G34_1 _))<|.A 1 I<|.Z h I (zbQ _ _ _) λx3 h=>.A 1 I<|.p I (.extract I I I)<|.p I (.extract I I I)<|.A 2 I<|.nil<|.seq<|.seq<|.plain 6 I<|.A 3 I<|.jO 2 (!x3.2) I (λb4=>?_) ?_
  ·refine .A 2 I<|.nil I
  refine .nil<|.nil<|.condS I h (λh=>?_) λh=>?_
  ·refine .sr<|.p I (.castD (Question.enc (⟨0,0,(⟨false,0⟩:Target)⟩:Question)) I (.build I Pl34 (.agg Zc34 (ds':=[_,_,_,_]) (.e (.e (.e .e1)))) I I))<|.store I I I I I I (.ofD I) C34 I (yd I)<|.A 1 I<|.nil<|.K [4,5] I<|.ret ?_
   cases h
   exact zbz I I Y34 (.v (.v (.v .v1))) I (.d _)
  ·refine .skip<|.S 2 I<|.p I (.fa I (G34_2 _))<|.A 1 I<|.p I (.castD (Question.enc (⟨x2.1,x3.1,t1.target⟩:Question)) I (.build I Pl34 (.agg Zc34 (ds':=[_,_,_,_]) (.e (.e (.e .e1)))) I I))<|.allocZ I I I I (.agg Zc34 (ds':=[.int 0,.int 0,.bool false,.int 0]) (.e (.e (.e .e1)))) I<|.store I I I I I I (.ofD I) C34 I (yd I)<|.nil<|.K [0,3,4,6,8,10] I<|.J [4,10] h (λv=>[(7,.d (.bool v.2.2.2))]) (λv=>[(1,.box 34 [.d (.int v.1),.d (.int v.2.1),.d (.bool t1.target.hold),.d (.int v.2.2.1)])]) I (λk_9 h=>?_) (λv h=>?_)
   ·refine .sr<|.p I (.fa I (G34_2 _))<|.p I (.fa I (G32_0 _))<|.A 2 I<|.nil<|.condS I h (λh=>?_) λh=>?_
    ·refine .S 2 I<|.p I (.min2 I I I)<|.A 2 I<|.p I (.max2 I I I)<|.p I (.fieldAddrLoc I I I F34_0)<|.store I I I I I I (.ofD I) C3 I (yd I)<|.p I (.fieldAddrLoc I I I F34_1)<|.store I I I I I I (.ofD I) C3 I (yd I)<|.nil<|.region<|.A 1 I<|.p I (.fa I (G34_2 _))<|.p I (.fa I (G32_1 _))<|.A 1 I<|.Z h I (zcj _ _ _) λx10 h=>.A 1 I<|.p I (.extract I I I)<|.p I (.extract I I I)<|.p I (.fieldAddrLoc I I I F34_2)<|.p I (.fieldAddrLoc I I I F32_1)<|.store I I I I I I (.ofD I) C3 I (yd I)<|.A 1 I<|.nil (ndE h I)
    ·refine .seq<|.draw 29 Hm (by kernel_rfl) (by kernel_rfl)<|.A 1 I<|.p I (.nilCheck_ref I I)<|.p I (.fa I (zcF _))<|.A 1 I<|.p I (.nilCheck_ref I I)<|.p I (.fa I (zc7 _))<|.A 2 I<|.p I (.fa I (G34_0 _))<|.A 1 I<|.X h I λx11 h=>.p I (.fa I (G65_2 _))<|.p I (.fa I (G63_1 _))<|.A 2 I<|.p I (.nilCheck_ref I I)<|.p I (.fa I (zcF _))<|.A 1 I<|.p I (.nilCheck_ref I I)<|.p I (.fa I (zc7 _))<|.A 3 I<|.X h I λx12 h=>.p I (.fa I (G65_2 _))<|.p I (.fa I (G63_1 _))<|.A 3 I<|.nil<|.nil<|.K [0,3,4,10,11,12] I<|.S 1 I<|.p I (.fa I (G34_2 _))<|.p I (.fa I (G32_1 _))<|.A 1 I<|.X h I λx13 h=>.A 1 I<|.allocStore I I I I I I I I (by simp) I I Z72<|.nil<|.S 2 I<|.Z h I (zck _ _ _) λx14 h=>.allocStore I I I I I I I I (by simp) I I Z72<|.nil ?_
     refine .region<|.A 1 I<|.p I (.fa I (G34_2 _))<|.p I (.fa I (G32_1 _))<|.A 1 I<|.p I (.makeFunc I I)<|.A 1 I<|.p I (.makeFunc I I)<|.Z h I (zfX _ _ _ _ _ _ _ (λq0 y hq=>⟨_,_,I,K118,zdL _ q0 _ _ hq⟩) _ (λq0 y hq=>⟨_,_,I,K120,zdM _ q0 _ _ hq⟩)) λx15 h=>.A 1 I<|.p I (.extract I I I)<|.p I (.extract I I I)<|.p I (.fieldAddrLoc I I I F34_2)<|.p I (.fieldAddrLoc I I I F32_1)<|.store I I I I I I (.ofD I) C3 I (yd I)<|.A 1 I<|.nil (ndE h I)
   ·obtain ⟨c1_0_5,c1_1_6,c1_3_7,x8⟩:=v
    refine .seq<|.sA 2 I<|.K [4,10,121] I<|.condS I h (λh=>?_) λh=>?_
    ·refine .sr<|.p I (.castD (Question.enc (⟨0,0,(⟨false,0⟩:Target)⟩:Question)) I (.build I Pl34 (.agg Zc34 (ds':=[_,_,_,_]) (.e (.e (.e .e1)))) I I))<|.store I I I I I I (.ofD I) C34 I (yd I)<|.A 1 I<|.nil<|.ret ?_
     cases h
     exact zbz I I Y34 (.v (.v (.v .v1))) I (.d _)
    ·refine .skip<|.sr<|.p I (.loadLoc I I I Y34 (yd I) (v:=.d (Question.enc (⟨c1_0_5,c1_1_6,(⟨t1.target.hold,c1_3_7⟩:Target)⟩:Question))) I)<|.store I I I I I I (.ofD I) C34 I (yd I)<|.A 1 I<|.nil<|.ret ?_
     cases h
     exact zbz I I Y34 (.v (.v (.v .v1))) I (.d _)
theorem zaL (n t0 t1 r) (h:zz n t0 t1=some r):Pure pg 54 [.ref (Layout.enc t0),Question.enc t1] (GMap.dat (λq:Question=>Value.agg (Question.vals q).toArray) (λl=>D.sl 3 (List.map Swap.enc l)) r):=by
 refine Pure.ot Tryz.func54 I Tryz.ntmps54 I λA w=>.sA 2 I<|.sr<|.makeMap (λq:Question=>Value.agg (Question.vals q).toArray) (λl=>D.sl 3 (List.map Swap.enc l)) I I I I<|.A 1 I<|.p I (.buildSl [] I I E42 I (λ_=>I) I (enc:=Swap.enc))<|.mapIns (k:=t1) (v:=[]) I I I U95 KT34 I I I I ?_ (hkd:=.struct (Question.vals t1))
 refine .A 2 I<|.nil<|.S 1 I<|.Z h I (zcw _ _) λx1 h=>.A 1 I<|.nil<|.seq<|.S 1 I<|.buildQue [_] I I I I I E49 I (λ_=>I) I (enc:=Question.enc)<|.A 1 I<|.nil<|.block<|.L [5,6] h (λv=>[(7,.que 1 v.2.2)]) (λv=>[(0,GMap.blk (λq:Question=>Value.agg (Question.vals q).toArray) (λl=>D.sl 3 (List.map Swap.enc l)) v.1),(1,.que v.2.2 34 4 (List.map Question.enc v.2.1))]) I λ_ ⟨m0_108,b1_109,m1_110⟩ h=>.seq<|.S 1 I<|.p I (.lenQL I U49 I I)<|.A 1 I<|.nil<|.K [5,6,7,24] I<|.condS I h (λh=>?_) λh=>?_
 ·refine .skip<|.seq<|.block<|.S 1 I<|.p I (.len I U104 I)<|.A 1 I<|.nil<|.block<|.L [5,6,27,28] h (λv=>[(7,.que 1 v.2.2.1),(29,.d (.int v.2.2.2))]) (λv=>[(0,GMap.blk (λq:Question=>Value.agg (Question.vals q).toArray) (λl=>D.sl 3 (List.map Swap.enc l)) v.1),(1,.que v.2.2.1 34 4 (List.map Question.enc v.2.1))]) I λ_ ⟨m0_144,b1_145,m1_146,x147⟩ h=>.sA 1 I<|.K [5,6,7,27,28,29,30] I<|.seq<|.condS I h (λh=>?_) λh=>?_
  ·refine .skip<|.J [5,6,27,28,29] h (λv=>[(7,.que 1 v.2.2)]) (λv=>[(0,GMap.blk (λq:Question=>Value.agg (Question.vals q).toArray) (λl=>D.sl 3 (List.map Swap.enc l)) v.1),(1,.que v.2.2 34 4 (List.map Question.enc v.2.1))]) I (λk_152 h=>?_) (λv h=>?_)
   ·refine .block<|.sr<|.X h I λx153 h=>.A 2 I<|.nil<|.S 2 I<|bK h λx154 q154 h=>.p I (.idxQ I I I I U49 S34 q154)<|.p I (.loadQ I I I q154 Y34 I)<|.Z h I (zd9 _ _ _) λx155 h=>.A 1 I<|.p I (.extract I I I)<|.p I (.extract I I I)<|.allocStore I I I I I I I I (by simp) I I Z34<|.A 1 I<|.nil<|.seq<|.S 2 I<|.p I (.mapGetOk I U95 KT34 I I I (z:=([]:List Swap)) (.nil Zv42) (hkd:=.struct (Question.vals x155.1)))<|.A 1 I<|.p I (.extract I I I)<|.p I (.extract I I I)<|.A 2 I<|.nil<|.K [5,6,7,9,10,11,13,27,28,29] I<|.seq<|.plain 5 I<|.A 3 I<|.jO 1 ((m0_144.get? x155.1).isSome) I (λb156=>?_) ?_
    ·refine .A 1 I<|.nil I
    refine .nil<|.nil<|.condS I h (λh=>?_) λh=>?_
    ·refine .exit (ndE h I)
    ·refine .skip<|.seq<|bK h λx157 q157 h=>bK h λx158 q158 h=>bK h λx159 q159 h=>.drawA 15 Hm I<|.first 0 I (by decide +kernel) (by decide +kernel) (by decide +kernel) I (.m I (.nil ⟨I,I⟩))<|.first 2 I (by decide +kernel) (by decide +kernel) (by decide +kernel) I (.m I (.nil ⟨I,I⟩))<|.first 3 I (by decide +kernel) (by decide +kernel) (by decide +kernel) I (.m I (.nil ⟨I,I⟩))<|.first 8 I (by decide +kernel) (by decide +kernel) (by decide +kernel) I (.m I (.nil ⟨I,I⟩))<|.via 1 #[true,true,true,true,true,true,true,true,true,true,true,true,true,true,false] ⟨[(5,.mp 0),(6,.d (.sl 1 (List.map (λx=>D.ref (Swapping.enc x)) x1))),(7,.que 1 m1_146),(10,.d (.ref (Question.enc x155.1))),(27,.d (.sl 1 (List.map (λx=>D.ref (Swapping.enc x)) x1))),(28,.d (.int (x1.length:Int))),(29,.d (.int x147)),(52,.mp 0),(53,.d (Question.enc x155.1)),(65,.vec 2 (List.length x159))],[GMap.blk (λq:Question=>Value.agg (Question.vals q).toArray) (λl=>D.sl 3 (List.map Swap.enc l)) m0_144,.que m1_146 34 4 (List.map Question.enc b1_145),.vec 41 3 (List.map Swap.enc x159)]⟩ ?_ λsA0=>?_
     ·refine .step 14 [] (by decide +kernel) (.cons (i:=14) I (.freezes [2] (.cons (t:=65) I (.vec (inIds I) I (yH _).symm) .nil) (.mapPut (k:=x155.1) (v:=x159) I I I U95 KT34 I I I I (.nil ⟨I,I⟩) (hkd:=.struct (Question.vals x155.1)))) ?_ .nil)
      refine .done (by decide +kernel)<|.K [5,6,7,10,27,28,29] I<|.region<|.A 2 I<|.p I (.buildSl [_] I I E49 I (λ_=>I) I (enc:=Question.enc))<|bK h λx160 q160 h=>.queApp (enc:=Question.enc) I I I I I I I E49 I (λ_=>I) (by simp) q160<|.A 1 I<|.nil (ndE h I)
     refine .via 2 #[true,true,true,true,true,true,true,true,true,true,true,true,true,false,false] ⟨[(5,.mp 0),(6,.d (.sl 1 (List.map (λx=>D.ref (Swapping.enc x)) x1))),(7,.que 1 m1_146),(10,.d (.ref (Question.enc x155.1))),(27,.d (.sl 1 (List.map (λx=>D.ref (Swapping.enc x)) x1))),(28,.d (.int (x1.length:Int))),(29,.d (.int x147)),(52,.mp 0),(53,.d (Question.enc x155.1)),(59,.vec 2 (List.length x158)),(64,.d (.sl 3 (List.map Swap.enc [x153.s])))],[GMap.blk (λq:Question=>Value.agg (Question.vals q).toArray) (λl=>D.sl 3 (List.map Swap.enc l)) m0_144,.que m1_146 34 4 (List.map Question.enc b1_145),.vec 41 3 (List.map Swap.enc x158)]⟩ ?_ λsA1=>?_
     ·refine .step 13 [] (by decide +kernel) (.cons (i:=13) I (.app I I I I I I I I E42 I (λ_=>I) q159 (.nil ⟨I,I⟩)) ?_ .nil)
      exact .keepT [5,6,7,10,27,28,29,52,53,65] (.c8 I<|.c2 I .nil) (.to #[true,true,true,true,true,true,true,true,true,true,true,true,true,true,false] (by decide +kernel) sA0)
     refine .via 2 #[true,false,true,true,true,true,true,true,true,true,true,true,true,true,false] ⟨[(5,.mp 0),(6,.d (.sl 1 (List.map (λx=>D.ref (Swapping.enc x)) x1))),(7,.que 1 m1_146),(10,.d (.ref (Question.enc x155.1))),(27,.d (.sl 1 (List.map (λx=>D.ref (Swapping.enc x)) x1))),(28,.d (.int (x1.length:Int))),(29,.d (.int x147)),(52,.mp 0),(65,.vec 2 (List.length x159))],[GMap.blk (λq:Question=>Value.agg (Question.vals q).toArray) (λl=>D.sl 3 (List.map Swap.enc l)) m0_144,.que m1_146 34 4 (List.map Question.enc b1_145),.vec 41 3 (List.map Swap.enc x159)]⟩ ?_ λsA2=>?_
     ·refine .step 1 [] (by decide +kernel) (.cons (i:=1) I (.p I (.ld Y34 I) (.nil ⟨I,I⟩)) ?_ .nil)
      exact .keepT [5,6,7,10,27,28,29,52,53,65] (.c8 I<|.c2 I .nil) (.to #[true,true,true,true,true,true,true,true,true,true,true,true,true,true,false] (by decide +kernel) sA0)
     refine .via 3 #[true,true,true,true,true,true,true,true,true,true,true,true,false,false,false] ⟨[(5,.mp 0),(6,.d (.sl 1 (List.map (λx=>D.ref (Swapping.enc x)) x1))),(7,.que 1 m1_146),(10,.d (.ref (Question.enc x155.1))),(27,.d (.sl 1 (List.map (λx=>D.ref (Swapping.enc x)) x1))),(28,.d (.int (x1.length:Int))),(29,.d (.int x147)),(52,.mp 0),(53,.d (Question.enc x155.1)),(59,.vec 2 (List.length x158)),(63,.d (Swap.enc x153.s))],[GMap.blk (λq:Question=>Value.agg (Question.vals q).toArray) (λl=>D.sl 3 (List.map Swap.enc l)) m0_144,.que m1_146 34 4 (List.map Question.enc b1_145),.vec 41 3 (List.map Swap.enc x158)]⟩ ?_ λsA3=>?_
     ·refine .step 12 [] (by decide +kernel) (.cons (i:=12) I (.p I (.buildSl [_] I I E42 I (λ_=>I) I (enc:=Swap.enc)) (.nil ⟨I,I⟩)) ?_ .nil)
      exact .keepT [5,6,7,10,27,28,29,52,53,59,64] (.c8 I<|.c2 I<|.c I .nil) (.to #[true,true,true,true,true,true,true,true,true,true,true,true,true,false,false] (by decide +kernel) sA1)
     refine .via 3 #[true,true,true,true,true,true,true,false,true,true,true,true,true,false,false] ⟨[(5,.mp 0),(6,.d (.sl 1 (List.map (λx=>D.ref (Swapping.enc x)) x1))),(7,.que 1 m1_146),(10,.d (.ref (Question.enc x155.1))),(27,.d (.sl 1 (List.map (λx=>D.ref (Swapping.enc x)) x1))),(28,.d (.int (x1.length:Int))),(29,.d (.int x147)),(52,.mp 0),(53,.d (Question.enc x155.1)),(58,.d (.sl 3 (List.map Swap.enc ((m0_144.get? x157).getD [])))),(64,.d (.sl 3 (List.map Swap.enc [x153.s])))],[GMap.blk (λq:Question=>Value.agg (Question.vals q).toArray) (λl=>D.sl 3 (List.map Swap.enc l)) m0_144,.que m1_146 34 4 (List.map Question.enc b1_145)]⟩ ?_ λsA4=>?_
     ·refine .step 7 [] (by decide +kernel) (.cons (i:=7) I (.clone (enc:=Swap.enc) I I I I K92 Tryz.func92 I I I I E42 I (λ_=>I) (λ_=>I) q158 I I (.nil ⟨I,I⟩)) ?_ .nil)
      exact .keepT [5,6,7,10,27,28,29,52,53,59,64] (.c8 I<|.c2 I<|.c I .nil) (.to #[true,true,true,true,true,true,true,true,true,true,true,true,true,false,false] (by decide +kernel) sA1)
     refine .via 3 #[true,false,true,true,true,true,true,true,true,true,true,true,true,false,false] ⟨[(5,.mp 0),(6,.d (.sl 1 (List.map (λx=>D.ref (Swapping.enc x)) x1))),(7,.que 1 m1_146),(10,.d (.ref (Question.enc x155.1))),(27,.d (.sl 1 (List.map (λx=>D.ref (Swapping.enc x)) x1))),(28,.d (.int (x1.length:Int))),(29,.d (.int x147)),(52,.mp 0),(59,.vec 2 (List.length x158)),(64,.d (.sl 3 (List.map Swap.enc [x153.s])))],[GMap.blk (λq:Question=>Value.agg (Question.vals q).toArray) (λl=>D.sl 3 (List.map Swap.enc l)) m0_144,.que m1_146 34 4 (List.map Question.enc b1_145),.vec 41 3 (List.map Swap.enc x158)]⟩ ?_ λsA5=>?_
     ·refine .step 1 [13] (by decide +kernel) (.cons (i:=1) I (.p I (.ld Y34 I) (.nil ⟨I,I⟩)) ?_ (.cons (i:=13) I (.app I I I I I I I I E42 I (λ_=>I) q159 (.nil ⟨I,I⟩)) ?_ .nil))
      ·exact .keepT [5,6,7,10,27,28,29,52,53,59,64] (.c8 I<|.c2 I<|.c I .nil) (.to #[true,true,true,true,true,true,true,true,true,true,true,true,true,false,false] (by decide +kernel) sA1)
      ·exact .keepT [5,6,7,10,27,28,29,52,65] (.c8 I<|.c I .nil) (.to #[true,false,true,true,true,true,true,true,true,true,true,true,true,true,false] (by decide +kernel) sA2)
     refine .via 4 #[true,true,true,true,true,true,true,true,true,true,true,false,false,false,false] ⟨[(5,.mp 0),(6,.d (.sl 1 (List.map (λx=>D.ref (Swapping.enc x)) x1))),(7,.que 1 m1_146),(10,.d (.ref (Question.enc x155.1))),(27,.d (.sl 1 (List.map (λx=>D.ref (Swapping.enc x)) x1))),(28,.d (.int (x1.length:Int))),(29,.d (.int x147)),(52,.mp 0),(53,.d (Question.enc x155.1)),(59,.vec 2 (List.length x158)),(62,.d (.ref (Swap.enc x153.s)))],[GMap.blk (λq:Question=>Value.agg (Question.vals q).toArray) (λl=>D.sl 3 (List.map Swap.enc l)) m0_144,.que m1_146 34 4 (List.map Question.enc b1_145),.vec 41 3 (List.map Swap.enc x158)]⟩ ?_ λsA6=>?_
     ·refine .step 11 [] (by decide +kernel) (.cons (i:=11) I (.p I (.ld Y41 I) (.nil ⟨I,I⟩)) ?_ .nil)
      exact .keepT [5,6,7,10,27,28,29,52,53,59,63] (.c8 I<|.c2 I<|.c I .nil) (.to #[true,true,true,true,true,true,true,true,true,true,true,true,false,false,false] (by decide +kernel) sA3)
     refine .via 4 #[true,true,true,true,true,true,true,false,true,true,true,true,false,false,false] ⟨[(5,.mp 0),(6,.d (.sl 1 (List.map (λx=>D.ref (Swapping.enc x)) x1))),(7,.que 1 m1_146),(10,.d (.ref (Question.enc x155.1))),(27,.d (.sl 1 (List.map (λx=>D.ref (Swapping.enc x)) x1))),(28,.d (.int (x1.length:Int))),(29,.d (.int x147)),(52,.mp 0),(53,.d (Question.enc x155.1)),(58,.d (.sl 3 (List.map Swap.enc ((m0_144.get? x157).getD [])))),(63,.d (Swap.enc x153.s))],[GMap.blk (λq:Question=>Value.agg (Question.vals q).toArray) (λl=>D.sl 3 (List.map Swap.enc l)) m0_144,.que m1_146 34 4 (List.map Question.enc b1_145)]⟩ ?_ λsA7=>?_
     ·refine .step 7 [12] (by decide +kernel) (.cons (i:=7) I (.clone (enc:=Swap.enc) I I I I K92 Tryz.func92 I I I I E42 I (λ_=>I) (λ_=>I) q158 I I (.nil ⟨I,I⟩)) ?_ (.cons (i:=12) I (.p I (.buildSl [_] I I E42 I (λ_=>I) I (enc:=Swap.enc)) (.nil ⟨I,I⟩)) ?_ .nil))
      ·exact .keepT [5,6,7,10,27,28,29,52,53,59,63] (.c8 I<|.c2 I<|.c I .nil) (.to #[true,true,true,true,true,true,true,true,true,true,true,true,false,false,false] (by decide +kernel) sA3)
      ·exact .keepT [5,6,7,10,27,28,29,52,53,58,64] (.c8 I<|.c2 I<|.c I .nil) (.to #[true,true,true,true,true,true,true,false,true,true,true,true,true,false,false] (by decide +kernel) sA4)
     refine .via 4 #[true,true,true,true,true,true,false,false,true,true,true,true,true,false,false] ⟨[(5,.mp 0),(6,.d (.sl 1 (List.map (λx=>D.ref (Swapping.enc x)) x1))),(7,.que 1 m1_146),(10,.d (.ref (Question.enc x155.1))),(27,.d (.sl 1 (List.map (λx=>D.ref (Swapping.enc x)) x1))),(28,.d (.int (x1.length:Int))),(29,.d (.int x147)),(52,.mp 0),(53,.d (Question.enc x155.1)),(54,.mp 0),(57,.d (Question.enc x157)),(64,.d (.sl 3 (List.map Swap.enc [x153.s])))],[GMap.blk (λq:Question=>Value.agg (Question.vals q).toArray) (λl=>D.sl 3 (List.map Swap.enc l)) m0_144,.que m1_146 34 4 (List.map Question.enc b1_145)]⟩ ?_ λsA8=>?_
     ·refine .step 6 [] (by decide +kernel) (.cons (i:=6) I (.p I (.mapGet I U95 KT34 I I I (z:=([]:List Swap)) (.nil Zv42) (hkd:=.struct (Question.vals x157))) (.nil ⟨I,I⟩)) ?_ .nil)
      exact .keepT [5,6,7,10,27,28,29,52,53,58,64] (.c8 I<|.c2 I<|.c I .nil) (.to #[true,true,true,true,true,true,true,false,true,true,true,true,true,false,false] (by decide +kernel) sA4)
     refine .via 4 #[true,false,true,true,true,true,true,true,true,true,true,true,false,false,false] ⟨[(5,.mp 0),(6,.d (.sl 1 (List.map (λx=>D.ref (Swapping.enc x)) x1))),(7,.que 1 m1_146),(10,.d (.ref (Question.enc x155.1))),(27,.d (.sl 1 (List.map (λx=>D.ref (Swapping.enc x)) x1))),(28,.d (.int (x1.length:Int))),(29,.d (.int x147)),(52,.mp 0),(59,.vec 2 (List.length x158)),(63,.d (Swap.enc x153.s))],[GMap.blk (λq:Question=>Value.agg (Question.vals q).toArray) (λl=>D.sl 3 (List.map Swap.enc l)) m0_144,.que m1_146 34 4 (List.map Question.enc b1_145),.vec 41 3 (List.map Swap.enc x158)]⟩ ?_ λsA9=>?_
     ·refine .step 1 [12] (by decide +kernel) (.cons (i:=1) I (.p I (.ld Y34 I) (.nil ⟨I,I⟩)) ?_ (.cons (i:=12) I (.p I (.buildSl [_] I I E42 I (λ_=>I) I (enc:=Swap.enc)) (.nil ⟨I,I⟩)) ?_ .nil))
      ·exact .keepT [5,6,7,10,27,28,29,52,53,59,63] (.c8 I<|.c2 I<|.c I .nil) (.to #[true,true,true,true,true,true,true,true,true,true,true,true,false,false,false] (by decide +kernel) sA3)
      ·exact .keepT [5,6,7,10,27,28,29,52,59,64] (.c8 I<|.c2 I .nil) (.to #[true,false,true,true,true,true,true,true,true,true,true,true,true,false,false] (by decide +kernel) sA5)
     refine .via 4 #[true,false,true,true,true,true,true,false,true,true,true,true,true,false,false] ⟨[(5,.mp 0),(6,.d (.sl 1 (List.map (λx=>D.ref (Swapping.enc x)) x1))),(7,.que 1 m1_146),(10,.d (.ref (Question.enc x155.1))),(27,.d (.sl 1 (List.map (λx=>D.ref (Swapping.enc x)) x1))),(28,.d (.int (x1.length:Int))),(29,.d (.int x147)),(52,.mp 0),(58,.d (.sl 3 (List.map Swap.enc ((m0_144.get? x157).getD [])))),(64,.d (.sl 3 (List.map Swap.enc [x153.s])))],[GMap.blk (λq:Question=>Value.agg (Question.vals q).toArray) (λl=>D.sl 3 (List.map Swap.enc l)) m0_144,.que m1_146 34 4 (List.map Question.enc b1_145)]⟩ ?_ λsA10=>?_
     ·refine .step 1 [7] (by decide +kernel) (.cons (i:=1) I (.p I (.ld Y34 I) (.nil ⟨I,I⟩)) ?_ (.cons (i:=7) I (.clone (enc:=Swap.enc) I I I I K92 Tryz.func92 I I I I E42 I (λ_=>I) (λ_=>I) q158 I I (.nil ⟨I,I⟩)) ?_ .nil))
      ·exact .keepT [5,6,7,10,27,28,29,52,53,58,64] (.c8 I<|.c2 I<|.c I .nil) (.to #[true,true,true,true,true,true,true,false,true,true,true,true,true,false,false] (by decide +kernel) sA4)
      ·exact .keepT [5,6,7,10,27,28,29,52,59,64] (.c8 I<|.c2 I .nil) (.to #[true,false,true,true,true,true,true,true,true,true,true,true,true,false,false] (by decide +kernel) sA5)
     refine .via 5 #[true,true,true,true,true,true,true,true,true,true,false,false,false,false,false] ⟨[(5,.mp 0),(6,.d (.sl 1 (List.map (λx=>D.ref (Swapping.enc x)) x1))),(7,.que 1 m1_146),(10,.d (.ref (Question.enc x155.1))),(27,.d (.sl 1 (List.map (λx=>D.ref (Swapping.enc x)) x1))),(28,.d (.int (x1.length:Int))),(29,.d (.int x147)),(52,.mp 0),(53,.d (Question.enc x155.1)),(59,.vec 2 (List.length x158)),(61,.d (.ref (Swapping.enc x153)))],[GMap.blk (λq:Question=>Value.agg (Question.vals q).toArray) (λl=>D.sl 3 (List.map Swap.enc l)) m0_144,.que m1_146 34 4 (List.map Question.enc b1_145),.vec 41 3 (List.map Swap.enc x158)]⟩ ?_ λsA11=>?_
     ·refine .step 10 [] (by decide +kernel) (.cons (i:=10) I (.p I (.fa I (zeb _)) (.nil ⟨I,I⟩)) ?_ .nil)
      exact .keepT [5,6,7,10,27,28,29,52,53,59,62] (.c8 I<|.c2 I<|.c I .nil) (.to #[true,true,true,true,true,true,true,true,true,true,true,false,false,false,false] (by decide +kernel) sA6)
     refine .via 5 #[true,true,true,true,true,true,true,false,true,true,true,false,false,false,false] ⟨[(5,.mp 0),(6,.d (.sl 1 (List.map (λx=>D.ref (Swapping.enc x)) x1))),(7,.que 1 m1_146),(10,.d (.ref (Question.enc x155.1))),(27,.d (.sl 1 (List.map (λx=>D.ref (Swapping.enc x)) x1))),(28,.d (.int (x1.length:Int))),(29,.d (.int x147)),(52,.mp 0),(53,.d (Question.enc x155.1)),(58,.d (.sl 3 (List.map Swap.enc ((m0_144.get? x157).getD [])))),(62,.d (.ref (Swap.enc x153.s)))],[GMap.blk (λq:Question=>Value.agg (Question.vals q).toArray) (λl=>D.sl 3 (List.map Swap.enc l)) m0_144,.que m1_146 34 4 (List.map Question.enc b1_145)]⟩ ?_ λsA12=>?_
     ·refine .step 7 [11] (by decide +kernel) (.cons (i:=7) I (.clone (enc:=Swap.enc) I I I I K92 Tryz.func92 I I I I E42 I (λ_=>I) (λ_=>I) q158 I I (.nil ⟨I,I⟩)) ?_ (.cons (i:=11) I (.p I (.ld Y41 I) (.nil ⟨I,I⟩)) ?_ .nil))
      ·exact .keepT [5,6,7,10,27,28,29,52,53,59,62] (.c8 I<|.c2 I<|.c I .nil) (.to #[true,true,true,true,true,true,true,true,true,true,true,false,false,false,false] (by decide +kernel) sA6)
      ·exact .keepT [5,6,7,10,27,28,29,52,53,58,63] (.c8 I<|.c2 I<|.c I .nil) (.to #[true,true,true,true,true,true,true,false,true,true,true,true,false,false,false] (by decide +kernel) sA7)
     refine .via 5 #[true,true,true,true,true,true,false,false,true,true,true,true,false,false,false] ⟨[(5,.mp 0),(6,.d (.sl 1 (List.map (λx=>D.ref (Swapping.enc x)) x1))),(7,.que 1 m1_146),(10,.d (.ref (Question.enc x155.1))),(27,.d (.sl 1 (List.map (λx=>D.ref (Swapping.enc x)) x1))),(28,.d (.int (x1.length:Int))),(29,.d (.int x147)),(52,.mp 0),(53,.d (Question.enc x155.1)),(54,.mp 0),(57,.d (Question.enc x157)),(63,.d (Swap.enc x153.s))],[GMap.blk (λq:Question=>Value.agg (Question.vals q).toArray) (λl=>D.sl 3 (List.map Swap.enc l)) m0_144,.que m1_146 34 4 (List.map Question.enc b1_145)]⟩ ?_ λsA13=>?_
     ·refine .step 6 [12] (by decide +kernel) (.cons (i:=6) I (.p I (.mapGet I U95 KT34 I I I (z:=([]:List Swap)) (.nil Zv42) (hkd:=.struct (Question.vals x157))) (.nil ⟨I,I⟩)) ?_ (.cons (i:=12) I (.p I (.buildSl [_] I I E42 I (λ_=>I) I (enc:=Swap.enc)) (.nil ⟨I,I⟩)) ?_ .nil))
      ·exact .keepT [5,6,7,10,27,28,29,52,53,58,63] (.c8 I<|.c2 I<|.c I .nil) (.to #[true,true,true,true,true,true,true,false,true,true,true,true,false,false,false] (by decide +kernel) sA7)
      ·exact .keepT [5,6,7,10,27,28,29,52,53,54,57,64] (.c8 I<|.c4 I .nil) (.to #[true,true,true,true,true,true,false,false,true,true,true,true,true,false,false] (by decide +kernel) sA8)
     refine .via 5 #[true,true,true,true,true,false,false,false,true,true,true,true,true,false,false] ⟨[(5,.mp 0),(6,.d (.sl 1 (List.map (λx=>D.ref (Swapping.enc x)) x1))),(7,.que 1 m1_146),(10,.d (.ref (Question.enc x155.1))),(27,.d (.sl 1 (List.map (λx=>D.ref (Swapping.enc x)) x1))),(28,.d (.int (x1.length:Int))),(29,.d (.int x147)),(52,.mp 0),(53,.d (Question.enc x155.1)),(54,.mp 0),(56,.qel 1 m1_146 (0:Int).toNat),(64,.d (.sl 3 (List.map Swap.enc [x153.s])))],[GMap.blk (λq:Question=>Value.agg (Question.vals q).toArray) (λl=>D.sl 3 (List.map Swap.enc l)) m0_144,.que m1_146 34 4 (List.map Question.enc b1_145)]⟩ ?_ λsA14=>?_
     ·refine .step 5 [] (by decide +kernel) (.cons (i:=5) I (.p I (.loadQ I I I q157 Y34 I) (.nil ⟨I,I⟩)) ?_ .nil)
      exact .keepT [5,6,7,10,27,28,29,52,53,54,57,64] (.c8 I<|.c4 I .nil) (.to #[true,true,true,true,true,true,false,false,true,true,true,true,true,false,false] (by decide +kernel) sA8)
     refine .via 5 #[true,false,true,true,true,true,true,true,true,true,true,false,false,false,false] ⟨[(5,.mp 0),(6,.d (.sl 1 (List.map (λx=>D.ref (Swapping.enc x)) x1))),(7,.que 1 m1_146),(10,.d (.ref (Question.enc x155.1))),(27,.d (.sl 1 (List.map (λx=>D.ref (Swapping.enc x)) x1))),(28,.d (.int (x1.length:Int))),(29,.d (.int x147)),(52,.mp 0),(59,.vec 2 (List.length x158)),(62,.d (.ref (Swap.enc x153.s)))],[GMap.blk (λq:Question=>Value.agg (Question.vals q).toArray) (λl=>D.sl 3 (List.map Swap.enc l)) m0_144,.que m1_146 34 4 (List.map Question.enc b1_145),.vec 41 3 (List.map Swap.enc x158)]⟩ ?_ λsA15=>?_
     ·refine .step 1 [11] (by decide +kernel) (.cons (i:=1) I (.p I (.ld Y34 I) (.nil ⟨I,I⟩)) ?_ (.cons (i:=11) I (.p I (.ld Y41 I) (.nil ⟨I,I⟩)) ?_ .nil))
      ·exact .keepT [5,6,7,10,27,28,29,52,53,59,62] (.c8 I<|.c2 I<|.c I .nil) (.to #[true,true,true,true,true,true,true,true,true,true,true,false,false,false,false] (by decide +kernel) sA6)
      ·exact .keepT [5,6,7,10,27,28,29,52,59,63] (.c8 I<|.c2 I .nil) (.to #[true,false,true,true,true,true,true,true,true,true,true,true,false,false,false] (by decide +kernel) sA9)
     refine .via 5 #[true,false,true,true,true,true,true,false,true,true,true,true,false,false,false] ⟨[(5,.mp 0),(6,.d (.sl 1 (List.map (λx=>D.ref (Swapping.enc x)) x1))),(7,.que 1 m1_146),(10,.d (.ref (Question.enc x155.1))),(27,.d (.sl 1 (List.map (λx=>D.ref (Swapping.enc x)) x1))),(28,.d (.int (x1.length:Int))),(29,.d (.int x147)),(52,.mp 0),(58,.d (.sl 3 (List.map Swap.enc ((m0_144.get? x157).getD [])))),(63,.d (Swap.enc x153.s))],[GMap.blk (λq:Question=>Value.agg (Question.vals q).toArray) (λl=>D.sl 3 (List.map Swap.enc l)) m0_144,.que m1_146 34 4 (List.map Question.enc b1_145)]⟩ ?_ λsA16=>?_
     ·refine .step 1 [7,12] (by decide +kernel) (.cons (i:=1) I (.p I (.ld Y34 I) (.nil ⟨I,I⟩)) ?_ (.cons (i:=7) I (.clone (enc:=Swap.enc) I I I I K92 Tryz.func92 I I I I E42 I (λ_=>I) (λ_=>I) q158 I I (.nil ⟨I,I⟩)) ?_ (.cons (i:=12) I (.p I (.buildSl [_] I I E42 I (λ_=>I) I (enc:=Swap.enc)) (.nil ⟨I,I⟩)) ?_ .nil)))
      ·exact .keepT [5,6,7,10,27,28,29,52,53,58,63] (.c8 I<|.c2 I<|.c I .nil) (.to #[true,true,true,true,true,true,true,false,true,true,true,true,false,false,false] (by decide +kernel) sA7)
      ·exact .keepT [5,6,7,10,27,28,29,52,59,63] (.c8 I<|.c2 I .nil) (.to #[true,false,true,true,true,true,true,true,true,true,true,true,false,false,false] (by decide +kernel) sA9)
      ·exact .keepT [5,6,7,10,27,28,29,52,58,64] (.c8 I<|.c2 I .nil) (.to #[true,false,true,true,true,true,true,false,true,true,true,true,true,false,false] (by decide +kernel) sA10)
     refine .via 5 #[true,false,true,true,true,true,false,false,true,true,true,true,true,false,false] ⟨[(5,.mp 0),(6,.d (.sl 1 (List.map (λx=>D.ref (Swapping.enc x)) x1))),(7,.que 1 m1_146),(10,.d (.ref (Question.enc x155.1))),(27,.d (.sl 1 (List.map (λx=>D.ref (Swapping.enc x)) x1))),(28,.d (.int (x1.length:Int))),(29,.d (.int x147)),(52,.mp 0),(54,.mp 0),(57,.d (Question.enc x157)),(64,.d (.sl 3 (List.map Swap.enc [x153.s])))],[GMap.blk (λq:Question=>Value.agg (Question.vals q).toArray) (λl=>D.sl 3 (List.map Swap.enc l)) m0_144,.que m1_146 34 4 (List.map Question.enc b1_145)]⟩ ?_ λsA17=>?_
     ·refine .step 1 [6] (by decide +kernel) (.cons (i:=1) I (.p I (.ld Y34 I) (.nil ⟨I,I⟩)) ?_ (.cons (i:=6) I (.p I (.mapGet I U95 KT34 I I I (z:=([]:List Swap)) (.nil Zv42) (hkd:=.struct (Question.vals x157))) (.nil ⟨I,I⟩)) ?_ .nil))
      ·exact .keepT [5,6,7,10,27,28,29,52,53,54,57,64] (.c8 I<|.c4 I .nil) (.to #[true,true,true,true,true,true,false,false,true,true,true,true,true,false,false] (by decide +kernel) sA8)
      ·exact .keepT [5,6,7,10,27,28,29,52,58,64] (.c8 I<|.c2 I .nil) (.to #[true,false,true,true,true,true,true,false,true,true,true,true,true,false,false] (by decide +kernel) sA10)
     refine .via 6 #[true,true,true,true,true,true,true,true,true,false,false,false,false,false,false] ⟨[(5,.mp 0),(6,.d (.sl 1 (List.map (λx=>D.ref (Swapping.enc x)) x1))),(7,.que 1 m1_146),(10,.d (.ref (Question.enc x155.1))),(27,.d (.sl 1 (List.map (λx=>D.ref (Swapping.enc x)) x1))),(28,.d (.int (x1.length:Int))),(29,.d (.int x147)),(52,.mp 0),(53,.d (Question.enc x155.1)),(59,.vec 2 (List.length x158)),(60,.d (.ref (Swapping.enc x153)))],[GMap.blk (λq:Question=>Value.agg (Question.vals q).toArray) (λl=>D.sl 3 (List.map Swap.enc l)) m0_144,.que m1_146 34 4 (List.map Question.enc b1_145),.vec 41 3 (List.map Swap.enc x158)]⟩ ?_ λsA18=>?_
     ·refine .step 9 [] (by decide +kernel) (.cons (i:=9) I (.p I (.nilCheck_ref I I) (.nil ⟨I,I⟩)) ?_ .nil)
      exact .keepT [5,6,7,10,27,28,29,52,53,59,61] (.c8 I<|.c2 I<|.c I .nil) (.to #[true,true,true,true,true,true,true,true,true,true,false,false,false,false,false] (by decide +kernel) sA11)
     refine .via 6 #[true,true,true,true,true,true,true,false,true,true,false,false,false,false,false] ⟨[(5,.mp 0),(6,.d (.sl 1 (List.map (λx=>D.ref (Swapping.enc x)) x1))),(7,.que 1 m1_146),(10,.d (.ref (Question.enc x155.1))),(27,.d (.sl 1 (List.map (λx=>D.ref (Swapping.enc x)) x1))),(28,.d (.int (x1.length:Int))),(29,.d (.int x147)),(52,.mp 0),(53,.d (Question.enc x155.1)),(58,.d (.sl 3 (List.map Swap.enc ((m0_144.get? x157).getD [])))),(61,.d (.ref (Swapping.enc x153)))],[GMap.blk (λq:Question=>Value.agg (Question.vals q).toArray) (λl=>D.sl 3 (List.map Swap.enc l)) m0_144,.que m1_146 34 4 (List.map Question.enc b1_145)]⟩ ?_ λsA19=>?_
     ·refine .step 7 [10] (by decide +kernel) (.cons (i:=7) I (.clone (enc:=Swap.enc) I I I I K92 Tryz.func92 I I I I E42 I (λ_=>I) (λ_=>I) q158 I I (.nil ⟨I,I⟩)) ?_ (.cons (i:=10) I (.p I (.fa I (zeb _)) (.nil ⟨I,I⟩)) ?_ .nil))
      ·exact .keepT [5,6,7,10,27,28,29,52,53,59,61] (.c8 I<|.c2 I<|.c I .nil) (.to #[true,true,true,true,true,true,true,true,true,true,false,false,false,false,false] (by decide +kernel) sA11)
      ·exact .keepT [5,6,7,10,27,28,29,52,53,58,62] (.c8 I<|.c2 I<|.c I .nil) (.to #[true,true,true,true,true,true,true,false,true,true,true,false,false,false,false] (by decide +kernel) sA12)
     refine .via 6 #[true,true,true,true,true,true,false,false,true,true,true,false,false,false,false] ⟨[(5,.mp 0),(6,.d (.sl 1 (List.map (λx=>D.ref (Swapping.enc x)) x1))),(7,.que 1 m1_146),(10,.d (.ref (Question.enc x155.1))),(27,.d (.sl 1 (List.map (λx=>D.ref (Swapping.enc x)) x1))),(28,.d (.int (x1.length:Int))),(29,.d (.int x147)),(52,.mp 0),(53,.d (Question.enc x155.1)),(54,.mp 0),(57,.d (Question.enc x157)),(62,.d (.ref (Swap.enc x153.s)))],[GMap.blk (λq:Question=>Value.agg (Question.vals q).toArray) (λl=>D.sl 3 (List.map Swap.enc l)) m0_144,.que m1_146 34 4 (List.map Question.enc b1_145)]⟩ ?_ λsA20=>?_
     ·refine .step 6 [11] (by decide +kernel) (.cons (i:=6) I (.p I (.mapGet I U95 KT34 I I I (z:=([]:List Swap)) (.nil Zv42) (hkd:=.struct (Question.vals x157))) (.nil ⟨I,I⟩)) ?_ (.cons (i:=11) I (.p I (.ld Y41 I) (.nil ⟨I,I⟩)) ?_ .nil))
      ·exact .keepT [5,6,7,10,27,28,29,52,53,58,62] (.c8 I<|.c2 I<|.c I .nil) (.to #[true,true,true,true,true,true,true,false,true,true,true,false,false,false,false] (by decide +kernel) sA12)
      ·exact .keepT [5,6,7,10,27,28,29,52,53,54,57,63] (.c8 I<|.c4 I .nil) (.to #[true,true,true,true,true,true,false,false,true,true,true,true,false,false,false] (by decide +kernel) sA13)
     refine .via 6 #[true,true,true,true,true,false,false,false,true,true,true,true,false,false,false] ⟨[(5,.mp 0),(6,.d (.sl 1 (List.map (λx=>D.ref (Swapping.enc x)) x1))),(7,.que 1 m1_146),(10,.d (.ref (Question.enc x155.1))),(27,.d (.sl 1 (List.map (λx=>D.ref (Swapping.enc x)) x1))),(28,.d (.int (x1.length:Int))),(29,.d (.int x147)),(52,.mp 0),(53,.d (Question.enc x155.1)),(54,.mp 0),(56,.qel 1 m1_146 (0:Int).toNat),(63,.d (Swap.enc x153.s))],[GMap.blk (λq:Question=>Value.agg (Question.vals q).toArray) (λl=>D.sl 3 (List.map Swap.enc l)) m0_144,.que m1_146 34 4 (List.map Question.enc b1_145)]⟩ ?_ λsA21=>?_
     ·refine .step 5 [12] (by decide +kernel) (.cons (i:=5) I (.p I (.loadQ I I I q157 Y34 I) (.nil ⟨I,I⟩)) ?_ (.cons (i:=12) I (.p I (.buildSl [_] I I E42 I (λ_=>I) I (enc:=Swap.enc)) (.nil ⟨I,I⟩)) ?_ .nil))
      ·exact .keepT [5,6,7,10,27,28,29,52,53,54,57,63] (.c8 I<|.c4 I .nil) (.to #[true,true,true,true,true,true,false,false,true,true,true,true,false,false,false] (by decide +kernel) sA13)
      ·exact .keepT [5,6,7,10,27,28,29,52,53,54,56,64] (.c8 I<|.c4 I .nil) (.to #[true,true,true,true,true,false,false,false,true,true,true,true,true,false,false] (by decide +kernel) sA14)
     refine .via 6 #[true,true,true,true,false,false,false,false,true,true,true,true,true,false,false] ⟨[(5,.mp 0),(6,.d (.sl 1 (List.map (λx=>D.ref (Swapping.enc x)) x1))),(7,.que 1 m1_146),(10,.d (.ref (Question.enc x155.1))),(27,.d (.sl 1 (List.map (λx=>D.ref (Swapping.enc x)) x1))),(28,.d (.int (x1.length:Int))),(29,.d (.int x147)),(52,.mp 0),(53,.d (Question.enc x155.1)),(54,.mp 0),(55,.que 1 m1_146),(64,.d (.sl 3 (List.map Swap.enc [x153.s])))],[GMap.blk (λq:Question=>Value.agg (Question.vals q).toArray) (λl=>D.sl 3 (List.map Swap.enc l)) m0_144,.que m1_146 34 4 (List.map Question.enc b1_145)]⟩ ?_ λsA22=>?_
     ·refine .step 4 [] (by decide +kernel) (.cons (i:=4) I (.p I (.idxQ I I I I U49 S34 q157) (.nil ⟨I,I⟩)) ?_ .nil)
      exact .keepT [5,6,7,10,27,28,29,52,53,54,56,64] (.c8 I<|.c4 I .nil) (.to #[true,true,true,true,true,false,false,false,true,true,true,true,true,false,false] (by decide +kernel) sA14)
     refine .via 6 #[true,false,true,true,true,true,true,true,true,true,false,false,false,false,false] ⟨[(5,.mp 0),(6,.d (.sl 1 (List.map (λx=>D.ref (Swapping.enc x)) x1))),(7,.que 1 m1_146),(10,.d (.ref (Question.enc x155.1))),(27,.d (.sl 1 (List.map (λx=>D.ref (Swapping.enc x)) x1))),(28,.d (.int (x1.length:Int))),(29,.d (.int x147)),(52,.mp 0),(59,.vec 2 (List.length x158)),(61,.d (.ref (Swapping.enc x153)))],[GMap.blk (λq:Question=>Value.agg (Question.vals q).toArray) (λl=>D.sl 3 (List.map Swap.enc l)) m0_144,.que m1_146 34 4 (List.map Question.enc b1_145),.vec 41 3 (List.map Swap.enc x158)]⟩ ?_ λsA23=>?_
     ·refine .step 1 [10] (by decide +kernel) (.cons (i:=1) I (.p I (.ld Y34 I) (.nil ⟨I,I⟩)) ?_ (.cons (i:=10) I (.p I (.fa I (zeb _)) (.nil ⟨I,I⟩)) ?_ .nil))
      ·exact .keepT [5,6,7,10,27,28,29,52,53,59,61] (.c8 I<|.c2 I<|.c I .nil) (.to #[true,true,true,true,true,true,true,true,true,true,false,false,false,false,false] (by decide +kernel) sA11)
      ·exact .keepT [5,6,7,10,27,28,29,52,59,62] (.c8 I<|.c2 I .nil) (.to #[true,false,true,true,true,true,true,true,true,true,true,false,false,false,false] (by decide +kernel) sA15)
     refine .via 6 #[true,false,true,true,true,true,true,false,true,true,true,false,false,false,false] ⟨[(5,.mp 0),(6,.d (.sl 1 (List.map (λx=>D.ref (Swapping.enc x)) x1))),(7,.que 1 m1_146),(10,.d (.ref (Question.enc x155.1))),(27,.d (.sl 1 (List.map (λx=>D.ref (Swapping.enc x)) x1))),(28,.d (.int (x1.length:Int))),(29,.d (.int x147)),(52,.mp 0),(58,.d (.sl 3 (List.map Swap.enc ((m0_144.get? x157).getD [])))),(62,.d (.ref (Swap.enc x153.s)))],[GMap.blk (λq:Question=>Value.agg (Question.vals q).toArray) (λl=>D.sl 3 (List.map Swap.enc l)) m0_144,.que m1_146 34 4 (List.map Question.enc b1_145)]⟩ ?_ λsA24=>?_
     ·refine .step 1 [7,11] (by decide +kernel) (.cons (i:=1) I (.p I (.ld Y34 I) (.nil ⟨I,I⟩)) ?_ (.cons (i:=7) I (.clone (enc:=Swap.enc) I I I I K92 Tryz.func92 I I I I E42 I (λ_=>I) (λ_=>I) q158 I I (.nil ⟨I,I⟩)) ?_ (.cons (i:=11) I (.p I (.ld Y41 I) (.nil ⟨I,I⟩)) ?_ .nil)))
      ·exact .keepT [5,6,7,10,27,28,29,52,53,58,62] (.c8 I<|.c2 I<|.c I .nil) (.to #[true,true,true,true,true,true,true,false,true,true,true,false,false,false,false] (by decide +kernel) sA12)
      ·exact .keepT [5,6,7,10,27,28,29,52,59,62] (.c8 I<|.c2 I .nil) (.to #[true,false,true,true,true,true,true,true,true,true,true,false,false,false,false] (by decide +kernel) sA15)
      ·exact .keepT [5,6,7,10,27,28,29,52,58,63] (.c8 I<|.c2 I .nil) (.to #[true,false,true,true,true,true,true,false,true,true,true,true,false,false,false] (by decide +kernel) sA16)
     refine .via 6 #[true,false,true,true,true,true,false,false,true,true,true,true,false,false,false] ⟨[(5,.mp 0),(6,.d (.sl 1 (List.map (λx=>D.ref (Swapping.enc x)) x1))),(7,.que 1 m1_146),(10,.d (.ref (Question.enc x155.1))),(27,.d (.sl 1 (List.map (λx=>D.ref (Swapping.enc x)) x1))),(28,.d (.int (x1.length:Int))),(29,.d (.int x147)),(52,.mp 0),(54,.mp 0),(57,.d (Question.enc x157)),(63,.d (Swap.enc x153.s))],[GMap.blk (λq:Question=>Value.agg (Question.vals q).toArray) (λl=>D.sl 3 (List.map Swap.enc l)) m0_144,.que m1_146 34 4 (List.map Question.enc b1_145)]⟩ ?_ λsA25=>?_
     ·refine .step 1 [6,12] (by decide +kernel) (.cons (i:=1) I (.p I (.ld Y34 I) (.nil ⟨I,I⟩)) ?_ (.cons (i:=6) I (.p I (.mapGet I U95 KT34 I I I (z:=([]:List Swap)) (.nil Zv42) (hkd:=.struct (Question.vals x157))) (.nil ⟨I,I⟩)) ?_ (.cons (i:=12) I (.p I (.buildSl [_] I I E42 I (λ_=>I) I (enc:=Swap.enc)) (.nil ⟨I,I⟩)) ?_ .nil)))
      ·exact .keepT [5,6,7,10,27,28,29,52,53,54,57,63] (.c8 I<|.c4 I .nil) (.to #[true,true,true,true,true,true,false,false,true,true,true,true,false,false,false] (by decide +kernel) sA13)
      ·exact .keepT [5,6,7,10,27,28,29,52,58,63] (.c8 I<|.c2 I .nil) (.to #[true,false,true,true,true,true,true,false,true,true,true,true,false,false,false] (by decide +kernel) sA16)
      ·exact .keepT [5,6,7,10,27,28,29,52,54,57,64] (.c8 I<|.c2 I<|.c I .nil) (.to #[true,false,true,true,true,true,false,false,true,true,true,true,true,false,false] (by decide +kernel) sA17)
     refine .via 6 #[true,false,true,true,true,false,false,false,true,true,true,true,true,false,false] ⟨[(5,.mp 0),(6,.d (.sl 1 (List.map (λx=>D.ref (Swapping.enc x)) x1))),(7,.que 1 m1_146),(10,.d (.ref (Question.enc x155.1))),(27,.d (.sl 1 (List.map (λx=>D.ref (Swapping.enc x)) x1))),(28,.d (.int (x1.length:Int))),(29,.d (.int x147)),(52,.mp 0),(54,.mp 0),(56,.qel 1 m1_146 (0:Int).toNat),(64,.d (.sl 3 (List.map Swap.enc [x153.s])))],[GMap.blk (λq:Question=>Value.agg (Question.vals q).toArray) (λl=>D.sl 3 (List.map Swap.enc l)) m0_144,.que m1_146 34 4 (List.map Question.enc b1_145)]⟩ ?_ λsA26=>?_
     ·refine .step 1 [5] (by decide +kernel) (.cons (i:=1) I (.p I (.ld Y34 I) (.nil ⟨I,I⟩)) ?_ (.cons (i:=5) I (.p I (.loadQ I I I q157 Y34 I) (.nil ⟨I,I⟩)) ?_ .nil))
      ·exact .keepT [5,6,7,10,27,28,29,52,53,54,56,64] (.c8 I<|.c4 I .nil) (.to #[true,true,true,true,true,false,false,false,true,true,true,true,true,false,false] (by decide +kernel) sA14)
      ·exact .keepT [5,6,7,10,27,28,29,52,54,57,64] (.c8 I<|.c2 I<|.c I .nil) (.to #[true,false,true,true,true,true,false,false,true,true,true,true,true,false,false] (by decide +kernel) sA17)
     refine .via 7 #[true,true,true,true,true,true,true,false,true,false,false,false,false,false,false] ⟨[(5,.mp 0),(6,.d (.sl 1 (List.map (λx=>D.ref (Swapping.enc x)) x1))),(7,.que 1 m1_146),(10,.d (.ref (Question.enc x155.1))),(27,.d (.sl 1 (List.map (λx=>D.ref (Swapping.enc x)) x1))),(28,.d (.int (x1.length:Int))),(29,.d (.int x147)),(52,.mp 0),(53,.d (Question.enc x155.1)),(58,.d (.sl 3 (List.map Swap.enc ((m0_144.get? x157).getD [])))),(60,.d (.ref (Swapping.enc x153)))],[GMap.blk (λq:Question=>Value.agg (Question.vals q).toArray) (λl=>D.sl 3 (List.map Swap.enc l)) m0_144,.que m1_146 34 4 (List.map Question.enc b1_145)]⟩ ?_ λsA27=>?_
     ·refine .step 7 [9] (by decide +kernel) (.cons (i:=7) I (.clone (enc:=Swap.enc) I I I I K92 Tryz.func92 I I I I E42 I (λ_=>I) (λ_=>I) q158 I I (.nil ⟨I,I⟩)) ?_ (.cons (i:=9) I (.p I (.nilCheck_ref I I) (.nil ⟨I,I⟩)) ?_ .nil))
      ·exact .keepT [5,6,7,10,27,28,29,52,53,59,60] (.c8 I<|.c2 I<|.c I .nil) (.to #[true,true,true,true,true,true,true,true,true,false,false,false,false,false,false] (by decide +kernel) sA18)
      ·exact .keepT [5,6,7,10,27,28,29,52,53,58,61] (.c8 I<|.c2 I<|.c I .nil) (.to #[true,true,true,true,true,true,true,false,true,true,false,false,false,false,false] (by decide +kernel) sA19)
     refine .via 7 #[true,true,true,true,true,true,false,false,true,true,false,false,false,false,false] ⟨[(5,.mp 0),(6,.d (.sl 1 (List.map (λx=>D.ref (Swapping.enc x)) x1))),(7,.que 1 m1_146),(10,.d (.ref (Question.enc x155.1))),(27,.d (.sl 1 (List.map (λx=>D.ref (Swapping.enc x)) x1))),(28,.d (.int (x1.length:Int))),(29,.d (.int x147)),(52,.mp 0),(53,.d (Question.enc x155.1)),(54,.mp 0),(57,.d (Question.enc x157)),(61,.d (.ref (Swapping.enc x153)))],[GMap.blk (λq:Question=>Value.agg (Question.vals q).toArray) (λl=>D.sl 3 (List.map Swap.enc l)) m0_144,.que m1_146 34 4 (List.map Question.enc b1_145)]⟩ ?_ λsA28=>?_
     ·refine .step 6 [10] (by decide +kernel) (.cons (i:=6) I (.p I (.mapGet I U95 KT34 I I I (z:=([]:List Swap)) (.nil Zv42) (hkd:=.struct (Question.vals x157))) (.nil ⟨I,I⟩)) ?_ (.cons (i:=10) I (.p I (.fa I (zeb _)) (.nil ⟨I,I⟩)) ?_ .nil))
      ·exact .keepT [5,6,7,10,27,28,29,52,53,58,61] (.c8 I<|.c2 I<|.c I .nil) (.to #[true,true,true,true,true,true,true,false,true,true,false,false,false,false,false] (by decide +kernel) sA19)
      ·exact .keepT [5,6,7,10,27,28,29,52,53,54,57,62] (.c8 I<|.c4 I .nil) (.to #[true,true,true,true,true,true,false,false,true,true,true,false,false,false,false] (by decide +kernel) sA20)
     refine .via 7 #[true,true,true,true,true,false,false,false,true,true,true,false,false,false,false] ⟨[(5,.mp 0),(6,.d (.sl 1 (List.map (λx=>D.ref (Swapping.enc x)) x1))),(7,.que 1 m1_146),(10,.d (.ref (Question.enc x155.1))),(27,.d (.sl 1 (List.map (λx=>D.ref (Swapping.enc x)) x1))),(28,.d (.int (x1.length:Int))),(29,.d (.int x147)),(52,.mp 0),(53,.d (Question.enc x155.1)),(54,.mp 0),(56,.qel 1 m1_146 (0:Int).toNat),(62,.d (.ref (Swap.enc x153.s)))],[GMap.blk (λq:Question=>Value.agg (Question.vals q).toArray) (λl=>D.sl 3 (List.map Swap.enc l)) m0_144,.que m1_146 34 4 (List.map Question.enc b1_145)]⟩ ?_ λsA29=>?_
     ·refine .step 5 [11] (by decide +kernel) (.cons (i:=5) I (.p I (.loadQ I I I q157 Y34 I) (.nil ⟨I,I⟩)) ?_ (.cons (i:=11) I (.p I (.ld Y41 I) (.nil ⟨I,I⟩)) ?_ .nil))
      ·exact .keepT [5,6,7,10,27,28,29,52,53,54,57,62] (.c8 I<|.c4 I .nil) (.to #[true,true,true,true,true,true,false,false,true,true,true,false,false,false,false] (by decide +kernel) sA20)
      ·exact .keepT [5,6,7,10,27,28,29,52,53,54,56,63] (.c8 I<|.c4 I .nil) (.to #[true,true,true,true,true,false,false,false,true,true,true,true,false,false,false] (by decide +kernel) sA21)
     refine .via 7 #[true,true,true,true,false,false,false,false,true,true,true,true,false,false,false] ⟨[(5,.mp 0),(6,.d (.sl 1 (List.map (λx=>D.ref (Swapping.enc x)) x1))),(7,.que 1 m1_146),(10,.d (.ref (Question.enc x155.1))),(27,.d (.sl 1 (List.map (λx=>D.ref (Swapping.enc x)) x1))),(28,.d (.int (x1.length:Int))),(29,.d (.int x147)),(52,.mp 0),(53,.d (Question.enc x155.1)),(54,.mp 0),(55,.que 1 m1_146),(63,.d (Swap.enc x153.s))],[GMap.blk (λq:Question=>Value.agg (Question.vals q).toArray) (λl=>D.sl 3 (List.map Swap.enc l)) m0_144,.que m1_146 34 4 (List.map Question.enc b1_145)]⟩ ?_ λsA30=>?_
     ·refine .step 4 [12] (by decide +kernel) (.cons (i:=4) I (.p I (.idxQ I I I I U49 S34 q157) (.nil ⟨I,I⟩)) ?_ (.cons (i:=12) I (.p I (.buildSl [_] I I E42 I (λ_=>I) I (enc:=Swap.enc)) (.nil ⟨I,I⟩)) ?_ .nil))
      ·exact .keepT [5,6,7,10,27,28,29,52,53,54,56,63] (.c8 I<|.c4 I .nil) (.to #[true,true,true,true,true,false,false,false,true,true,true,true,false,false,false] (by decide +kernel) sA21)
      ·exact .keepT [5,6,7,10,27,28,29,52,53,54,55,64] (.c8 I<|.c4 I .nil) (.to #[true,true,true,true,false,false,false,false,true,true,true,true,true,false,false] (by decide +kernel) sA22)
     refine .via 7 #[true,false,true,true,true,true,true,true,true,false,false,false,false,false,false] ⟨[(5,.mp 0),(6,.d (.sl 1 (List.map (λx=>D.ref (Swapping.enc x)) x1))),(7,.que 1 m1_146),(10,.d (.ref (Question.enc x155.1))),(27,.d (.sl 1 (List.map (λx=>D.ref (Swapping.enc x)) x1))),(28,.d (.int (x1.length:Int))),(29,.d (.int x147)),(52,.mp 0),(59,.vec 2 (List.length x158)),(60,.d (.ref (Swapping.enc x153)))],[GMap.blk (λq:Question=>Value.agg (Question.vals q).toArray) (λl=>D.sl 3 (List.map Swap.enc l)) m0_144,.que m1_146 34 4 (List.map Question.enc b1_145),.vec 41 3 (List.map Swap.enc x158)]⟩ ?_ λsA31=>?_
     ·refine .step 1 [9] (by decide +kernel) (.cons (i:=1) I (.p I (.ld Y34 I) (.nil ⟨I,I⟩)) ?_ (.cons (i:=9) I (.p I (.nilCheck_ref I I) (.nil ⟨I,I⟩)) ?_ .nil))
      ·exact .keepT [5,6,7,10,27,28,29,52,53,59,60] (.c8 I<|.c2 I<|.c I .nil) (.to #[true,true,true,true,true,true,true,true,true,false,false,false,false,false,false] (by decide +kernel) sA18)
      ·exact .keepT [5,6,7,10,27,28,29,52,59,61] (.c8 I<|.c2 I .nil) (.to #[true,false,true,true,true,true,true,true,true,true,false,false,false,false,false] (by decide +kernel) sA23)
     refine .via 7 #[true,false,true,true,true,true,true,false,true,true,false,false,false,false,false] ⟨[(5,.mp 0),(6,.d (.sl 1 (List.map (λx=>D.ref (Swapping.enc x)) x1))),(7,.que 1 m1_146),(10,.d (.ref (Question.enc x155.1))),(27,.d (.sl 1 (List.map (λx=>D.ref (Swapping.enc x)) x1))),(28,.d (.int (x1.length:Int))),(29,.d (.int x147)),(52,.mp 0),(58,.d (.sl 3 (List.map Swap.enc ((m0_144.get? x157).getD [])))),(61,.d (.ref (Swapping.enc x153)))],[GMap.blk (λq:Question=>Value.agg (Question.vals q).toArray) (λl=>D.sl 3 (List.map Swap.enc l)) m0_144,.que m1_146 34 4 (List.map Question.enc b1_145)]⟩ ?_ λsA32=>?_
     ·refine .step 1 [7,10] (by decide +kernel) (.cons (i:=1) I (.p I (.ld Y34 I) (.nil ⟨I,I⟩)) ?_ (.cons (i:=7) I (.clone (enc:=Swap.enc) I I I I K92 Tryz.func92 I I I I E42 I (λ_=>I) (λ_=>I) q158 I I (.nil ⟨I,I⟩)) ?_ (.cons (i:=10) I (.p I (.fa I (zeb _)) (.nil ⟨I,I⟩)) ?_ .nil)))
      ·exact .keepT [5,6,7,10,27,28,29,52,53,58,61] (.c8 I<|.c2 I<|.c I .nil) (.to #[true,true,true,true,true,true,true,false,true,true,false,false,false,false,false] (by decide +kernel) sA19)
      ·exact .keepT [5,6,7,10,27,28,29,52,59,61] (.c8 I<|.c2 I .nil) (.to #[true,false,true,true,true,true,true,true,true,true,false,false,false,false,false] (by decide +kernel) sA23)
      ·exact .keepT [5,6,7,10,27,28,29,52,58,62] (.c8 I<|.c2 I .nil) (.to #[true,false,true,true,true,true,true,false,true,true,true,false,false,false,false] (by decide +kernel) sA24)
     refine .via 7 #[true,false,true,true,true,true,false,false,true,true,true,false,false,false,false] ⟨[(5,.mp 0),(6,.d (.sl 1 (List.map (λx=>D.ref (Swapping.enc x)) x1))),(7,.que 1 m1_146),(10,.d (.ref (Question.enc x155.1))),(27,.d (.sl 1 (List.map (λx=>D.ref (Swapping.enc x)) x1))),(28,.d (.int (x1.length:Int))),(29,.d (.int x147)),(52,.mp 0),(54,.mp 0),(57,.d (Question.enc x157)),(62,.d (.ref (Swap.enc x153.s)))],[GMap.blk (λq:Question=>Value.agg (Question.vals q).toArray) (λl=>D.sl 3 (List.map Swap.enc l)) m0_144,.que m1_146 34 4 (List.map Question.enc b1_145)]⟩ ?_ λsA33=>?_
     ·refine .step 1 [6,11] (by decide +kernel) (.cons (i:=1) I (.p I (.ld Y34 I) (.nil ⟨I,I⟩)) ?_ (.cons (i:=6) I (.p I (.mapGet I U95 KT34 I I I (z:=([]:List Swap)) (.nil Zv42) (hkd:=.struct (Question.vals x157))) (.nil ⟨I,I⟩)) ?_ (.cons (i:=11) I (.p I (.ld Y41 I) (.nil ⟨I,I⟩)) ?_ .nil)))
      ·exact .keepT [5,6,7,10,27,28,29,52,53,54,57,62] (.c8 I<|.c4 I .nil) (.to #[true,true,true,true,true,true,false,false,true,true,true,false,false,false,false] (by decide +kernel) sA20)
      ·exact .keepT [5,6,7,10,27,28,29,52,58,62] (.c8 I<|.c2 I .nil) (.to #[true,false,true,true,true,true,true,false,true,true,true,false,false,false,false] (by decide +kernel) sA24)
      ·exact .keepT [5,6,7,10,27,28,29,52,54,57,63] (.c8 I<|.c2 I<|.c I .nil) (.to #[true,false,true,true,true,true,false,false,true,true,true,true,false,false,false] (by decide +kernel) sA25)
     refine .via 7 #[true,false,true,true,true,false,false,false,true,true,true,true,false,false,false] ⟨[(5,.mp 0),(6,.d (.sl 1 (List.map (λx=>D.ref (Swapping.enc x)) x1))),(7,.que 1 m1_146),(10,.d (.ref (Question.enc x155.1))),(27,.d (.sl 1 (List.map (λx=>D.ref (Swapping.enc x)) x1))),(28,.d (.int (x1.length:Int))),(29,.d (.int x147)),(52,.mp 0),(54,.mp 0),(56,.qel 1 m1_146 (0:Int).toNat),(63,.d (Swap.enc x153.s))],[GMap.blk (λq:Question=>Value.agg (Question.vals q).toArray) (λl=>D.sl 3 (List.map Swap.enc l)) m0_144,.que m1_146 34 4 (List.map Question.enc b1_145)]⟩ ?_ λsA34=>?_
     ·refine .step 1 [5,12] (by decide +kernel) (.cons (i:=1) I (.p I (.ld Y34 I) (.nil ⟨I,I⟩)) ?_ (.cons (i:=5) I (.p I (.loadQ I I I q157 Y34 I) (.nil ⟨I,I⟩)) ?_ (.cons (i:=12) I (.p I (.buildSl [_] I I E42 I (λ_=>I) I (enc:=Swap.enc)) (.nil ⟨I,I⟩)) ?_ .nil)))
      ·exact .keepT [5,6,7,10,27,28,29,52,53,54,56,63] (.c8 I<|.c4 I .nil) (.to #[true,true,true,true,true,false,false,false,true,true,true,true,false,false,false] (by decide +kernel) sA21)
      ·exact .keepT [5,6,7,10,27,28,29,52,54,57,63] (.c8 I<|.c2 I<|.c I .nil) (.to #[true,false,true,true,true,true,false,false,true,true,true,true,false,false,false] (by decide +kernel) sA25)
      ·exact .keepT [5,6,7,10,27,28,29,52,54,56,64] (.c8 I<|.c2 I<|.c I .nil) (.to #[true,false,true,true,true,false,false,false,true,true,true,true,true,false,false] (by decide +kernel) sA26)
     refine .via 7 #[true,false,true,true,false,false,false,false,true,true,true,true,true,false,false] ⟨[(5,.mp 0),(6,.d (.sl 1 (List.map (λx=>D.ref (Swapping.enc x)) x1))),(7,.que 1 m1_146),(10,.d (.ref (Question.enc x155.1))),(27,.d (.sl 1 (List.map (λx=>D.ref (Swapping.enc x)) x1))),(28,.d (.int (x1.length:Int))),(29,.d (.int x147)),(52,.mp 0),(54,.mp 0),(55,.que 1 m1_146),(64,.d (.sl 3 (List.map Swap.enc [x153.s])))],[GMap.blk (λq:Question=>Value.agg (Question.vals q).toArray) (λl=>D.sl 3 (List.map Swap.enc l)) m0_144,.que m1_146 34 4 (List.map Question.enc b1_145)]⟩ ?_ λsA35=>?_
     ·refine .step 1 [4] (by decide +kernel) (.cons (i:=1) I (.p I (.ld Y34 I) (.nil ⟨I,I⟩)) ?_ (.cons (i:=4) I (.p I (.idxQ I I I I U49 S34 q157) (.nil ⟨I,I⟩)) ?_ .nil))
      ·exact .keepT [5,6,7,10,27,28,29,52,53,54,55,64] (.c8 I<|.c4 I .nil) (.to #[true,true,true,true,false,false,false,false,true,true,true,true,true,false,false] (by decide +kernel) sA22)
      ·exact .keepT [5,6,7,10,27,28,29,52,54,56,64] (.c8 I<|.c2 I<|.c I .nil) (.to #[true,false,true,true,true,false,false,false,true,true,true,true,true,false,false] (by decide +kernel) sA26)
     refine .via 8 #[true,true,true,true,true,true,false,false,true,false,false,false,false,false,false] ⟨[(5,.mp 0),(6,.d (.sl 1 (List.map (λx=>D.ref (Swapping.enc x)) x1))),(7,.que 1 m1_146),(10,.d (.ref (Question.enc x155.1))),(27,.d (.sl 1 (List.map (λx=>D.ref (Swapping.enc x)) x1))),(28,.d (.int (x1.length:Int))),(29,.d (.int x147)),(52,.mp 0),(53,.d (Question.enc x155.1)),(54,.mp 0),(57,.d (Question.enc x157)),(60,.d (.ref (Swapping.enc x153)))],[GMap.blk (λq:Question=>Value.agg (Question.vals q).toArray) (λl=>D.sl 3 (List.map Swap.enc l)) m0_144,.que m1_146 34 4 (List.map Question.enc b1_145)]⟩ ?_ λsA36=>?_
     ·refine .step 6 [9] (by decide +kernel) (.cons (i:=6) I (.p I (.mapGet I U95 KT34 I I I (z:=([]:List Swap)) (.nil Zv42) (hkd:=.struct (Question.vals x157))) (.nil ⟨I,I⟩)) ?_ (.cons (i:=9) I (.p I (.nilCheck_ref I I) (.nil ⟨I,I⟩)) ?_ .nil))
      ·exact .keepT [5,6,7,10,27,28,29,52,53,58,60] (.c8 I<|.c2 I<|.c I .nil) (.to #[true,true,true,true,true,true,true,false,true,false,false,false,false,false,false] (by decide +kernel) sA27)
      ·exact .keepT [5,6,7,10,27,28,29,52,53,54,57,61] (.c8 I<|.c4 I .nil) (.to #[true,true,true,true,true,true,false,false,true,true,false,false,false,false,false] (by decide +kernel) sA28)
     refine .via 8 #[true,true,true,true,true,false,false,false,true,true,false,false,false,false,false] ⟨[(5,.mp 0),(6,.d (.sl 1 (List.map (λx=>D.ref (Swapping.enc x)) x1))),(7,.que 1 m1_146),(10,.d (.ref (Question.enc x155.1))),(27,.d (.sl 1 (List.map (λx=>D.ref (Swapping.enc x)) x1))),(28,.d (.int (x1.length:Int))),(29,.d (.int x147)),(52,.mp 0),(53,.d (Question.enc x155.1)),(54,.mp 0),(56,.qel 1 m1_146 (0:Int).toNat),(61,.d (.ref (Swapping.enc x153)))],[GMap.blk (λq:Question=>Value.agg (Question.vals q).toArray) (λl=>D.sl 3 (List.map Swap.enc l)) m0_144,.que m1_146 34 4 (List.map Question.enc b1_145)]⟩ ?_ λsA37=>?_
     ·refine .step 5 [10] (by decide +kernel) (.cons (i:=5) I (.p I (.loadQ I I I q157 Y34 I) (.nil ⟨I,I⟩)) ?_ (.cons (i:=10) I (.p I (.fa I (zeb _)) (.nil ⟨I,I⟩)) ?_ .nil))
      ·exact .keepT [5,6,7,10,27,28,29,52,53,54,57,61] (.c8 I<|.c4 I .nil) (.to #[true,true,true,true,true,true,false,false,true,true,false,false,false,false,false] (by decide +kernel) sA28)
      ·exact .keepT [5,6,7,10,27,28,29,52,53,54,56,62] (.c8 I<|.c4 I .nil) (.to #[true,true,true,true,true,false,false,false,true,true,true,false,false,false,false] (by decide +kernel) sA29)
     refine .via 8 #[true,true,true,true,false,false,false,false,true,true,true,false,false,false,false] ⟨[(5,.mp 0),(6,.d (.sl 1 (List.map (λx=>D.ref (Swapping.enc x)) x1))),(7,.que 1 m1_146),(10,.d (.ref (Question.enc x155.1))),(27,.d (.sl 1 (List.map (λx=>D.ref (Swapping.enc x)) x1))),(28,.d (.int (x1.length:Int))),(29,.d (.int x147)),(52,.mp 0),(53,.d (Question.enc x155.1)),(54,.mp 0),(55,.que 1 m1_146),(62,.d (.ref (Swap.enc x153.s)))],[GMap.blk (λq:Question=>Value.agg (Question.vals q).toArray) (λl=>D.sl 3 (List.map Swap.enc l)) m0_144,.que m1_146 34 4 (List.map Question.enc b1_145)]⟩ ?_ λsA38=>?_
     ·refine .step 4 [11] (by decide +kernel) (.cons (i:=4) I (.p I (.idxQ I I I I U49 S34 q157) (.nil ⟨I,I⟩)) ?_ (.cons (i:=11) I (.p I (.ld Y41 I) (.nil ⟨I,I⟩)) ?_ .nil))
      ·exact .keepT [5,6,7,10,27,28,29,52,53,54,56,62] (.c8 I<|.c4 I .nil) (.to #[true,true,true,true,true,false,false,false,true,true,true,false,false,false,false] (by decide +kernel) sA29)
      ·exact .keepT [5,6,7,10,27,28,29,52,53,54,55,63] (.c8 I<|.c4 I .nil) (.to #[true,true,true,true,false,false,false,false,true,true,true,true,false,false,false] (by decide +kernel) sA30)
     refine .via 8 #[true,false,true,true,true,true,true,false,true,false,false,false,false,false,false] ⟨[(5,.mp 0),(6,.d (.sl 1 (List.map (λx=>D.ref (Swapping.enc x)) x1))),(7,.que 1 m1_146),(10,.d (.ref (Question.enc x155.1))),(27,.d (.sl 1 (List.map (λx=>D.ref (Swapping.enc x)) x1))),(28,.d (.int (x1.length:Int))),(29,.d (.int x147)),(52,.mp 0),(58,.d (.sl 3 (List.map Swap.enc ((m0_144.get? x157).getD [])))),(60,.d (.ref (Swapping.enc x153)))],[GMap.blk (λq:Question=>Value.agg (Question.vals q).toArray) (λl=>D.sl 3 (List.map Swap.enc l)) m0_144,.que m1_146 34 4 (List.map Question.enc b1_145)]⟩ ?_ λsA39=>?_
     ·refine .step 1 [7,9] (by decide +kernel) (.cons (i:=1) I (.p I (.ld Y34 I) (.nil ⟨I,I⟩)) ?_ (.cons (i:=7) I (.clone (enc:=Swap.enc) I I I I K92 Tryz.func92 I I I I E42 I (λ_=>I) (λ_=>I) q158 I I (.nil ⟨I,I⟩)) ?_ (.cons (i:=9) I (.p I (.nilCheck_ref I I) (.nil ⟨I,I⟩)) ?_ .nil)))
      ·exact .keepT [5,6,7,10,27,28,29,52,53,58,60] (.c8 I<|.c2 I<|.c I .nil) (.to #[true,true,true,true,true,true,true,false,true,false,false,false,false,false,false] (by decide +kernel) sA27)
      ·exact .keepT [5,6,7,10,27,28,29,52,59,60] (.c8 I<|.c2 I .nil) (.to #[true,false,true,true,true,true,true,true,true,false,false,false,false,false,false] (by decide +kernel) sA31)
      ·exact .keepT [5,6,7,10,27,28,29,52,58,61] (.c8 I<|.c2 I .nil) (.to #[true,false,true,true,true,true,true,false,true,true,false,false,false,false,false] (by decide +kernel) sA32)
     refine .via 8 #[true,false,true,true,true,true,false,false,true,true,false,false,false,false,false] ⟨[(5,.mp 0),(6,.d (.sl 1 (List.map (λx=>D.ref (Swapping.enc x)) x1))),(7,.que 1 m1_146),(10,.d (.ref (Question.enc x155.1))),(27,.d (.sl 1 (List.map (λx=>D.ref (Swapping.enc x)) x1))),(28,.d (.int (x1.length:Int))),(29,.d (.int x147)),(52,.mp 0),(54,.mp 0),(57,.d (Question.enc x157)),(61,.d (.ref (Swapping.enc x153)))],[GMap.blk (λq:Question=>Value.agg (Question.vals q).toArray) (λl=>D.sl 3 (List.map Swap.enc l)) m0_144,.que m1_146 34 4 (List.map Question.enc b1_145)]⟩ ?_ λsA40=>?_
     ·refine .step 1 [6,10] (by decide +kernel) (.cons (i:=1) I (.p I (.ld Y34 I) (.nil ⟨I,I⟩)) ?_ (.cons (i:=6) I (.p I (.mapGet I U95 KT34 I I I (z:=([]:List Swap)) (.nil Zv42) (hkd:=.struct (Question.vals x157))) (.nil ⟨I,I⟩)) ?_ (.cons (i:=10) I (.p I (.fa I (zeb _)) (.nil ⟨I,I⟩)) ?_ .nil)))
      ·exact .keepT [5,6,7,10,27,28,29,52,53,54,57,61] (.c8 I<|.c4 I .nil) (.to #[true,true,true,true,true,true,false,false,true,true,false,false,false,false,false] (by decide +kernel) sA28)
      ·exact .keepT [5,6,7,10,27,28,29,52,58,61] (.c8 I<|.c2 I .nil) (.to #[true,false,true,true,true,true,true,false,true,true,false,false,false,false,false] (by decide +kernel) sA32)
      ·exact .keepT [5,6,7,10,27,28,29,52,54,57,62] (.c8 I<|.c2 I<|.c I .nil) (.to #[true,false,true,true,true,true,false,false,true,true,true,false,false,false,false] (by decide +kernel) sA33)
     refine .via 8 #[true,false,true,true,true,false,false,false,true,true,true,false,false,false,false] ⟨[(5,.mp 0),(6,.d (.sl 1 (List.map (λx=>D.ref (Swapping.enc x)) x1))),(7,.que 1 m1_146),(10,.d (.ref (Question.enc x155.1))),(27,.d (.sl 1 (List.map (λx=>D.ref (Swapping.enc x)) x1))),(28,.d (.int (x1.length:Int))),(29,.d (.int x147)),(52,.mp 0),(54,.mp 0),(56,.qel 1 m1_146 (0:Int).toNat),(62,.d (.ref (Swap.enc x153.s)))],[GMap.blk (λq:Question=>Value.agg (Question.vals q).toArray) (λl=>D.sl 3 (List.map Swap.enc l)) m0_144,.que m1_146 34 4 (List.map Question.enc b1_145)]⟩ ?_ λsA41=>?_
     ·refine .step 1 [5,11] (by decide +kernel) (.cons (i:=1) I (.p I (.ld Y34 I) (.nil ⟨I,I⟩)) ?_ (.cons (i:=5) I (.p I (.loadQ I I I q157 Y34 I) (.nil ⟨I,I⟩)) ?_ (.cons (i:=11) I (.p I (.ld Y41 I) (.nil ⟨I,I⟩)) ?_ .nil)))
      ·exact .keepT [5,6,7,10,27,28,29,52,53,54,56,62] (.c8 I<|.c4 I .nil) (.to #[true,true,true,true,true,false,false,false,true,true,true,false,false,false,false] (by decide +kernel) sA29)
      ·exact .keepT [5,6,7,10,27,28,29,52,54,57,62] (.c8 I<|.c2 I<|.c I .nil) (.to #[true,false,true,true,true,true,false,false,true,true,true,false,false,false,false] (by decide +kernel) sA33)
      ·exact .keepT [5,6,7,10,27,28,29,52,54,56,63] (.c8 I<|.c2 I<|.c I .nil) (.to #[true,false,true,true,true,false,false,false,true,true,true,true,false,false,false] (by decide +kernel) sA34)
     refine .via 8 #[true,false,true,true,false,false,false,false,true,true,true,true,false,false,false] ⟨[(5,.mp 0),(6,.d (.sl 1 (List.map (λx=>D.ref (Swapping.enc x)) x1))),(7,.que 1 m1_146),(10,.d (.ref (Question.enc x155.1))),(27,.d (.sl 1 (List.map (λx=>D.ref (Swapping.enc x)) x1))),(28,.d (.int (x1.length:Int))),(29,.d (.int x147)),(52,.mp 0),(54,.mp 0),(55,.que 1 m1_146),(63,.d (Swap.enc x153.s))],[GMap.blk (λq:Question=>Value.agg (Question.vals q).toArray) (λl=>D.sl 3 (List.map Swap.enc l)) m0_144,.que m1_146 34 4 (List.map Question.enc b1_145)]⟩ ?_ λsA42=>?_
     ·refine .step 1 [4,12] (by decide +kernel) (.cons (i:=1) I (.p I (.ld Y34 I) (.nil ⟨I,I⟩)) ?_ (.cons (i:=4) I (.p I (.idxQ I I I I U49 S34 q157) (.nil ⟨I,I⟩)) ?_ (.cons (i:=12) I (.p I (.buildSl [_] I I E42 I (λ_=>I) I (enc:=Swap.enc)) (.nil ⟨I,I⟩)) ?_ .nil)))
      ·exact .keepT [5,6,7,10,27,28,29,52,53,54,55,63] (.c8 I<|.c4 I .nil) (.to #[true,true,true,true,false,false,false,false,true,true,true,true,false,false,false] (by decide +kernel) sA30)
      ·exact .keepT [5,6,7,10,27,28,29,52,54,56,63] (.c8 I<|.c2 I<|.c I .nil) (.to #[true,false,true,true,true,false,false,false,true,true,true,true,false,false,false] (by decide +kernel) sA34)
      ·exact .keepT [5,6,7,10,27,28,29,52,54,55,64] (.c8 I<|.c2 I<|.c I .nil) (.to #[true,false,true,true,false,false,false,false,true,true,true,true,true,false,false] (by decide +kernel) sA35)
     refine .via 9 #[true,true,true,true,true,false,false,false,true,false,false,false,false,false,false] ⟨[(5,.mp 0),(6,.d (.sl 1 (List.map (λx=>D.ref (Swapping.enc x)) x1))),(7,.que 1 m1_146),(10,.d (.ref (Question.enc x155.1))),(27,.d (.sl 1 (List.map (λx=>D.ref (Swapping.enc x)) x1))),(28,.d (.int (x1.length:Int))),(29,.d (.int x147)),(52,.mp 0),(53,.d (Question.enc x155.1)),(54,.mp 0),(56,.qel 1 m1_146 (0:Int).toNat),(60,.d (.ref (Swapping.enc x153)))],[GMap.blk (λq:Question=>Value.agg (Question.vals q).toArray) (λl=>D.sl 3 (List.map Swap.enc l)) m0_144,.que m1_146 34 4 (List.map Question.enc b1_145)]⟩ ?_ λsA43=>?_
     ·refine .step 5 [9] (by decide +kernel) (.cons (i:=5) I (.p I (.loadQ I I I q157 Y34 I) (.nil ⟨I,I⟩)) ?_ (.cons (i:=9) I (.p I (.nilCheck_ref I I) (.nil ⟨I,I⟩)) ?_ .nil))
      ·exact .keepT [5,6,7,10,27,28,29,52,53,54,57,60] (.c8 I<|.c4 I .nil) (.to #[true,true,true,true,true,true,false,false,true,false,false,false,false,false,false] (by decide +kernel) sA36)
      ·exact .keepT [5,6,7,10,27,28,29,52,53,54,56,61] (.c8 I<|.c4 I .nil) (.to #[true,true,true,true,true,false,false,false,true,true,false,false,false,false,false] (by decide +kernel) sA37)
     refine .via 9 #[true,true,true,true,false,false,false,false,true,true,false,false,false,false,false] ⟨[(5,.mp 0),(6,.d (.sl 1 (List.map (λx=>D.ref (Swapping.enc x)) x1))),(7,.que 1 m1_146),(10,.d (.ref (Question.enc x155.1))),(27,.d (.sl 1 (List.map (λx=>D.ref (Swapping.enc x)) x1))),(28,.d (.int (x1.length:Int))),(29,.d (.int x147)),(52,.mp 0),(53,.d (Question.enc x155.1)),(54,.mp 0),(55,.que 1 m1_146),(61,.d (.ref (Swapping.enc x153)))],[GMap.blk (λq:Question=>Value.agg (Question.vals q).toArray) (λl=>D.sl 3 (List.map Swap.enc l)) m0_144,.que m1_146 34 4 (List.map Question.enc b1_145)]⟩ ?_ λsA44=>?_
     ·refine .step 4 [10] (by decide +kernel) (.cons (i:=4) I (.p I (.idxQ I I I I U49 S34 q157) (.nil ⟨I,I⟩)) ?_ (.cons (i:=10) I (.p I (.fa I (zeb _)) (.nil ⟨I,I⟩)) ?_ .nil))
      ·exact .keepT [5,6,7,10,27,28,29,52,53,54,56,61] (.c8 I<|.c4 I .nil) (.to #[true,true,true,true,true,false,false,false,true,true,false,false,false,false,false] (by decide +kernel) sA37)
      ·exact .keepT [5,6,7,10,27,28,29,52,53,54,55,62] (.c8 I<|.c4 I .nil) (.to #[true,true,true,true,false,false,false,false,true,true,true,false,false,false,false] (by decide +kernel) sA38)
     refine .via 9 #[true,false,true,true,true,true,false,false,true,false,false,false,false,false,false] ⟨[(5,.mp 0),(6,.d (.sl 1 (List.map (λx=>D.ref (Swapping.enc x)) x1))),(7,.que 1 m1_146),(10,.d (.ref (Question.enc x155.1))),(27,.d (.sl 1 (List.map (λx=>D.ref (Swapping.enc x)) x1))),(28,.d (.int (x1.length:Int))),(29,.d (.int x147)),(52,.mp 0),(54,.mp 0),(57,.d (Question.enc x157)),(60,.d (.ref (Swapping.enc x153)))],[GMap.blk (λq:Question=>Value.agg (Question.vals q).toArray) (λl=>D.sl 3 (List.map Swap.enc l)) m0_144,.que m1_146 34 4 (List.map Question.enc b1_145)]⟩ ?_ λsA45=>?_
     ·refine .step 1 [6,9] (by decide +kernel) (.cons (i:=1) I (.p I (.ld Y34 I) (.nil ⟨I,I⟩)) ?_ (.cons (i:=6) I (.p I (.mapGet I U95 KT34 I I I (z:=([]:List Swap)) (.nil Zv42) (hkd:=.struct (Question.vals x157))) (.nil ⟨I,I⟩)) ?_ (.cons (i:=9) I (.p I (.nilCheck_ref I I) (.nil ⟨I,I⟩)) ?_ .nil)))
      ·exact .keepT [5,6,7,10,27,28,29,52,53,54,57,60] (.c8 I<|.c4 I .nil) (.to #[true,true,true,true,true,true,false,false,true,false,false,false,false,false,false] (by decide +kernel) sA36)
      ·exact .keepT [5,6,7,10,27,28,29,52,58,60] (.c8 I<|.c2 I .nil) (.to #[true,false,true,true,true,true,true,false,true,false,false,false,false,false,false] (by decide +kernel) sA39)
      ·exact .keepT [5,6,7,10,27,28,29,52,54,57,61] (.c8 I<|.c2 I<|.c I .nil) (.to #[true,false,true,true,true,true,false,false,true,true,false,false,false,false,false] (by decide +kernel) sA40)
     refine .via 9 #[true,false,true,true,true,false,false,false,true,true,false,false,false,false,false] ⟨[(5,.mp 0),(6,.d (.sl 1 (List.map (λx=>D.ref (Swapping.enc x)) x1))),(7,.que 1 m1_146),(10,.d (.ref (Question.enc x155.1))),(27,.d (.sl 1 (List.map (λx=>D.ref (Swapping.enc x)) x1))),(28,.d (.int (x1.length:Int))),(29,.d (.int x147)),(52,.mp 0),(54,.mp 0),(56,.qel 1 m1_146 (0:Int).toNat),(61,.d (.ref (Swapping.enc x153)))],[GMap.blk (λq:Question=>Value.agg (Question.vals q).toArray) (λl=>D.sl 3 (List.map Swap.enc l)) m0_144,.que m1_146 34 4 (List.map Question.enc b1_145)]⟩ ?_ λsA46=>?_
     ·refine .step 1 [5,10] (by decide +kernel) (.cons (i:=1) I (.p I (.ld Y34 I) (.nil ⟨I,I⟩)) ?_ (.cons (i:=5) I (.p I (.loadQ I I I q157 Y34 I) (.nil ⟨I,I⟩)) ?_ (.cons (i:=10) I (.p I (.fa I (zeb _)) (.nil ⟨I,I⟩)) ?_ .nil)))
      ·exact .keepT [5,6,7,10,27,28,29,52,53,54,56,61] (.c8 I<|.c4 I .nil) (.to #[true,true,true,true,true,false,false,false,true,true,false,false,false,false,false] (by decide +kernel) sA37)
      ·exact .keepT [5,6,7,10,27,28,29,52,54,57,61] (.c8 I<|.c2 I<|.c I .nil) (.to #[true,false,true,true,true,true,false,false,true,true,false,false,false,false,false] (by decide +kernel) sA40)
      ·exact .keepT [5,6,7,10,27,28,29,52,54,56,62] (.c8 I<|.c2 I<|.c I .nil) (.to #[true,false,true,true,true,false,false,false,true,true,true,false,false,false,false] (by decide +kernel) sA41)
     refine .via 9 #[true,false,true,true,false,false,false,false,true,true,true,false,false,false,false] ⟨[(5,.mp 0),(6,.d (.sl 1 (List.map (λx=>D.ref (Swapping.enc x)) x1))),(7,.que 1 m1_146),(10,.d (.ref (Question.enc x155.1))),(27,.d (.sl 1 (List.map (λx=>D.ref (Swapping.enc x)) x1))),(28,.d (.int (x1.length:Int))),(29,.d (.int x147)),(52,.mp 0),(54,.mp 0),(55,.que 1 m1_146),(62,.d (.ref (Swap.enc x153.s)))],[GMap.blk (λq:Question=>Value.agg (Question.vals q).toArray) (λl=>D.sl 3 (List.map Swap.enc l)) m0_144,.que m1_146 34 4 (List.map Question.enc b1_145)]⟩ ?_ λsA47=>?_
     ·refine .step 1 [4,11] (by decide +kernel) (.cons (i:=1) I (.p I (.ld Y34 I) (.nil ⟨I,I⟩)) ?_ (.cons (i:=4) I (.p I (.idxQ I I I I U49 S34 q157) (.nil ⟨I,I⟩)) ?_ (.cons (i:=11) I (.p I (.ld Y41 I) (.nil ⟨I,I⟩)) ?_ .nil)))
      ·exact .keepT [5,6,7,10,27,28,29,52,53,54,55,62] (.c8 I<|.c4 I .nil) (.to #[true,true,true,true,false,false,false,false,true,true,true,false,false,false,false] (by decide +kernel) sA38)
      ·exact .keepT [5,6,7,10,27,28,29,52,54,56,62] (.c8 I<|.c2 I<|.c I .nil) (.to #[true,false,true,true,true,false,false,false,true,true,true,false,false,false,false] (by decide +kernel) sA41)
      ·exact .keepT [5,6,7,10,27,28,29,52,54,55,63] (.c8 I<|.c2 I<|.c I .nil) (.to #[true,false,true,true,false,false,false,false,true,true,true,true,false,false,false] (by decide +kernel) sA42)
     refine .via 10 #[true,true,true,true,false,false,false,false,true,false,false,false,false,false,false] ⟨[(5,.mp 0),(6,.d (.sl 1 (List.map (λx=>D.ref (Swapping.enc x)) x1))),(7,.que 1 m1_146),(10,.d (.ref (Question.enc x155.1))),(27,.d (.sl 1 (List.map (λx=>D.ref (Swapping.enc x)) x1))),(28,.d (.int (x1.length:Int))),(29,.d (.int x147)),(52,.mp 0),(53,.d (Question.enc x155.1)),(54,.mp 0),(55,.que 1 m1_146),(60,.d (.ref (Swapping.enc x153)))],[GMap.blk (λq:Question=>Value.agg (Question.vals q).toArray) (λl=>D.sl 3 (List.map Swap.enc l)) m0_144,.que m1_146 34 4 (List.map Question.enc b1_145)]⟩ ?_ λsA48=>?_
     ·refine .step 4 [9] (by decide +kernel) (.cons (i:=4) I (.p I (.idxQ I I I I U49 S34 q157) (.nil ⟨I,I⟩)) ?_ (.cons (i:=9) I (.p I (.nilCheck_ref I I) (.nil ⟨I,I⟩)) ?_ .nil))
      ·exact .keepT [5,6,7,10,27,28,29,52,53,54,56,60] (.c8 I<|.c4 I .nil) (.to #[true,true,true,true,true,false,false,false,true,false,false,false,false,false,false] (by decide +kernel) sA43)
      ·exact .keepT [5,6,7,10,27,28,29,52,53,54,55,61] (.c8 I<|.c4 I .nil) (.to #[true,true,true,true,false,false,false,false,true,true,false,false,false,false,false] (by decide +kernel) sA44)
     refine .via 10 #[true,false,true,true,true,false,false,false,true,false,false,false,false,false,false] ⟨[(5,.mp 0),(6,.d (.sl 1 (List.map (λx=>D.ref (Swapping.enc x)) x1))),(7,.que 1 m1_146),(10,.d (.ref (Question.enc x155.1))),(27,.d (.sl 1 (List.map (λx=>D.ref (Swapping.enc x)) x1))),(28,.d (.int (x1.length:Int))),(29,.d (.int x147)),(52,.mp 0),(54,.mp 0),(56,.qel 1 m1_146 (0:Int).toNat),(60,.d (.ref (Swapping.enc x153)))],[GMap.blk (λq:Question=>Value.agg (Question.vals q).toArray) (λl=>D.sl 3 (List.map Swap.enc l)) m0_144,.que m1_146 34 4 (List.map Question.enc b1_145)]⟩ ?_ λsA49=>?_
     ·refine .step 1 [5,9] (by decide +kernel) (.cons (i:=1) I (.p I (.ld Y34 I) (.nil ⟨I,I⟩)) ?_ (.cons (i:=5) I (.p I (.loadQ I I I q157 Y34 I) (.nil ⟨I,I⟩)) ?_ (.cons (i:=9) I (.p I (.nilCheck_ref I I) (.nil ⟨I,I⟩)) ?_ .nil)))
      ·exact .keepT [5,6,7,10,27,28,29,52,53,54,56,60] (.c8 I<|.c4 I .nil) (.to #[true,true,true,true,true,false,false,false,true,false,false,false,false,false,false] (by decide +kernel) sA43)
      ·exact .keepT [5,6,7,10,27,28,29,52,54,57,60] (.c8 I<|.c2 I<|.c I .nil) (.to #[true,false,true,true,true,true,false,false,true,false,false,false,false,false,false] (by decide +kernel) sA45)
      ·exact .keepT [5,6,7,10,27,28,29,52,54,56,61] (.c8 I<|.c2 I<|.c I .nil) (.to #[true,false,true,true,true,false,false,false,true,true,false,false,false,false,false] (by decide +kernel) sA46)
     refine .via 10 #[true,false,true,true,false,false,false,false,true,true,false,false,false,false,false] ⟨[(5,.mp 0),(6,.d (.sl 1 (List.map (λx=>D.ref (Swapping.enc x)) x1))),(7,.que 1 m1_146),(10,.d (.ref (Question.enc x155.1))),(27,.d (.sl 1 (List.map (λx=>D.ref (Swapping.enc x)) x1))),(28,.d (.int (x1.length:Int))),(29,.d (.int x147)),(52,.mp 0),(54,.mp 0),(55,.que 1 m1_146),(61,.d (.ref (Swapping.enc x153)))],[GMap.blk (λq:Question=>Value.agg (Question.vals q).toArray) (λl=>D.sl 3 (List.map Swap.enc l)) m0_144,.que m1_146 34 4 (List.map Question.enc b1_145)]⟩ ?_ λsA50=>?_
     ·refine .step 1 [4,10] (by decide +kernel) (.cons (i:=1) I (.p I (.ld Y34 I) (.nil ⟨I,I⟩)) ?_ (.cons (i:=4) I (.p I (.idxQ I I I I U49 S34 q157) (.nil ⟨I,I⟩)) ?_ (.cons (i:=10) I (.p I (.fa I (zeb _)) (.nil ⟨I,I⟩)) ?_ .nil)))
      ·exact .keepT [5,6,7,10,27,28,29,52,53,54,55,61] (.c8 I<|.c4 I .nil) (.to #[true,true,true,true,false,false,false,false,true,true,false,false,false,false,false] (by decide +kernel) sA44)
      ·exact .keepT [5,6,7,10,27,28,29,52,54,56,61] (.c8 I<|.c2 I<|.c I .nil) (.to #[true,false,true,true,true,false,false,false,true,true,false,false,false,false,false] (by decide +kernel) sA46)
      ·exact .keepT [5,6,7,10,27,28,29,52,54,55,62] (.c8 I<|.c2 I<|.c I .nil) (.to #[true,false,true,true,false,false,false,false,true,true,true,false,false,false,false] (by decide +kernel) sA47)
     refine .step 1 [4,9] (by decide +kernel) (.cons (i:=1) I (.p I (.ld Y34 I) (.nil ⟨I,I⟩)) ?_ (.cons (i:=4) I (.p I (.idxQ I I I I U49 S34 q157) (.nil ⟨I,I⟩)) ?_ (.cons (i:=9) I (.p I (.nilCheck_ref I I) (.nil ⟨I,I⟩)) ?_ .nil)))
     ·exact .keepT [5,6,7,10,27,28,29,52,53,54,55,60] (.c8 I<|.c4 I .nil) (.to #[true,true,true,true,false,false,false,false,true,false,false,false,false,false,false] (by decide +kernel) sA48)
     ·exact .keepT [5,6,7,10,27,28,29,52,54,56,60] (.c8 I<|.c2 I<|.c I .nil) (.to #[true,false,true,true,true,false,false,false,true,false,false,false,false,false,false] (by decide +kernel) sA49)
     ·exact .keepT [5,6,7,10,27,28,29,52,54,55,61] (.c8 I<|.c2 I<|.c I .nil) (.to #[true,false,true,true,false,false,false,false,true,true,false,false,false,false,false] (by decide +kernel) sA50)
   ·obtain ⟨m0_149,b1_150,m1_151⟩:=v
    refine .rA 2 I (ndE h I)
  ·refine .exit<|.region<|.A 1 I<|bK h λx161 q161 h=>.queTail (enc:=Question.enc) I I I I I I I U49 S34 q161<|.A 1 I<|.nil (ndE h I)
 ·refine .exit<|.sA 2 I<|.ret ?_
  cases h
  exact zb9 I (.mp I (GMap.wfm _))
theorem zaD (n:Nat) (t0:GMap Question (List Swap)):Pure pg 53 [GMap.dat (λq:Question=>Value.agg (Question.vals q).toArray) (λl=>D.sl 3 (List.map Swap.enc l)) t0] (.fn (.func 91) [] [.ref (GMap.dat (λq:Question=>Value.agg (Question.vals q).toArray) (λl=>D.sl 3 (List.map Swap.enc l)) t0)]):=by
 refine Pure.ot Tryz.func53 I Tryz.ntmps53 I λA w=>.sA 2 I<|.sr<|.p I (.makeFunc I I)<|.A 1 I<|.nil<|.ret (zb9 I (.d _))
theorem zcE (n t0) (t1:Question→Question→Option Int) (F1:D) (hF1:∀ (q0:Question) (q1:Question) (y:Int),t1 q0 q1=some y→Dyn pg F1 [Question.enc q0,Question.enc q1] (.int y)) (r) (h:zq n t0 t1=some r):Pure pg 51 [eP t0,F1] (Question.enc r):=by
 refine Pure.ot Tryz.func51 I Tryz.ntmps51 I λA w=>.sr<|.allocZ I I I I (.agg Zc34 (ds':=[.int 0,.int 0,.bool false,.int 0]) (.e (.e (.e .e1)))) I<|.nil<|.seq<|.S 1 I<|.p I (.len I U49 I)<|.A 1 I<|.nil<|.condS I h (λh=>?_) λh=>?_
 ·refine .region ?_
  cases h
 ·refine .skip<|.S 1 I<|.X h I λx1 h=>.A 1 I<|.allocZ I I I I (.agg Zc34 (ds':=[.int 0,.int 0,.bool false,.int 0]) (.e (.e (.e .e1)))) I<|.store I I I I I I (.ofD I) C34 I (yd I)<|.nil<|.seq<|.sA 1 I<|.block<|.L [0,1,4,5] h (λv=>[(6,.d (.int v.2.2.2.2))]) (λv=>[(1,.box 34 [.d (.int v.1),.d (.int v.2.1),.d (.bool v.2.2.1),.d (.int v.2.2.2.1)])]) I λ_ ⟨c1_0_28,c1_1_29,c1_2_30,c1_3_31,x32⟩ h=>.seq<|.S 2 I<|.p I (.len I U49 I)<|.A 1 I<|.nil<|.K [0,1,4,5,6,17] I<|.condS I h (λh=>?_) λh=>?_
  ·refine .skip<|.J [0,1,4,5,6] h (λv=>[]) (λv=>[(1,.box 34 [.d (.int v.1),.d (.int v.2.1),.d (.bool v.2.2.1),.d (.int v.2.2.2)])]) I (λk_38 h=>?_) (λv h=>?_)
   ·refine .block<|.seq<|.draw 8 Hm (by kernel_rfl) (by kernel_rfl)<|.A 3 I<|.X h I λx39 h=>.A 1 I<|.p I (.loadLoc I I I Y34 (yd I) (v:=.d (Question.enc (⟨c1_0_28,c1_1_29,(⟨c1_2_30,c1_3_31⟩:Target)⟩:Question))) I)<|bK h λx40 q40 h=>.p I (.dyn I I I (hF1 _ _ _ q40))<|.A 1 I<|.nil<|.nil<|.condS I h (λh=>?_) λh=>?_
    ·refine .region<|.A 2 I<|.X h I λx41 h=>.A 1 I<|.store I I I I I I (.ofD I) C34 I (yd I)<|.nil (ndE h I)
    ·refine .skip (ndE h I)
   ·obtain ⟨c1_0_34,c1_1_35,c1_2_36,c1_3_37⟩:=v
    refine .rA 3 I (ndE h I)
  ·refine .exit<|.sr<|.p I (.loadLoc I I I Y34 (yd I) (v:=.d (Question.enc (⟨c1_0_28,c1_1_29,(⟨c1_2_30,c1_3_31⟩:Target)⟩:Question))) I)<|.store I I I I I I (.ofD I) C34 I (yd I)<|.nil<|.ret ?_
   cases h
   exact zit I I Y34 (.v (.v (.v .v1)))
theorem zd1 (n t0 r) (h:zb2 n t0=some r):Pure pg 83 [Question.enc t0] (.int r):=by
 refine Pure.ot Tryz.func83 I Tryz.ntmps83 I λA w=>.sA 2 I<|.seq<|.sr<|.p I (.fa I (G34_2 _))<|.p I (.fa I (G32_0 _))<|.A 1 I<|.nil<|.condS I h (λh=>?_) λh=>?_
 ·refine .sA 1 I<|.ret (rO h I)
 ·refine .skip<|.sA 1 I<|.ret (rO h I)
theorem zdl (n t0 t1 r) (h:zaZ n t0 t1=some r):Pure pg 46 [Question.enc t0,Question.enc t1] (.int r):=by
 refine Pure.ot Tryz.func46 I Tryz.ntmps46 I λA w=>.sA 3 I<|.sA 1 I<|.seq<|.draw 27 Hm (by kernel_rfl) (by kernel_rfl)<|.p I (.fa I (G34_0 _))<|.A 1 I<|.p I (.fa I (G34_0 _))<|.A 1 I<|.Z h I (z9 _ _ _) λx1 h=>.p I (.fa I (G34_1 _))<|.A 1 I<|.p I (.fa I (G34_1 _))<|.A 1 I<|.Z h I (z9 _ _ _) λx2 h=>.A 2 I<|bK h λx3 q3 h=>.p I (.dyn I I I ⟨_,_,I,K83,zd1 _ _ _ q3⟩)<|.A 2 I<|bK h λx4 q4 h=>.p I (.dyn I I I ⟨_,_,I,K83,zd1 _ _ _ q4⟩)<|.Z h I (z9 _ _ _) λx5 h=>.p I (.fa I (G34_2 _))<|.p I (.fa I (G32_1 _))<|.A 1 I<|.p I (.fa I (G34_2 _))<|.p I (.fa I (G32_1 _))<|.A 1 I<|.Z h I (z9 _ _ _) λx6 h=>.p I (.buildSl [_,_,_,_] I I E22 I (λ_=>I) I (enc:=D.int))<|.Z h I (zeg _ _) λx7 h=>.A 1 I<|.nil<|.nil<|.K [4] I<|.ret (rO h I)
abbrev QV:Question→Value:=λq=>Value.agg (Question.vals q).toArray
abbrev SwD:List Swap→D:=λl=>D.sl 3 (List.map Swap.enc l)
abbrev MapD (m:GMap Question (List Swap)):D:=GMap.dat QV SwD m
abbrev seqD (m:GMap Question (List Swap)):D:=.fn (.func 91) [] [.ref (MapD m)]
theorem isQ (q:Question):IsV q.enc (QV q):=.struct (Question.vals q)
abbrev HA (out:List Question):List Blk:=[.box 49 [.vec 1 out.length],.vec 34 4 (out.map Question.enc)]
theorem dK90:callable Tryz.prog 90=true:=by kernel_rfl
theorem dK91:callable Tryz.prog 91=true:=by kernel_rfl
theorem dK52:callable Tryz.prog 52=true:=by kernel_rfl
theorem dK51:callable Tryz.prog 51=true:=by kernel_rfl
theorem dK95:callable Tryz.prog 95=true:=by kernel_rfl
theorem dK46:callable Tryz.prog 46=true:=by kernel_rfl
theorem dY49:zai Tryz.prog 49=some none:=by kernel_rfl
theorem dC49:cellsOf Tryz.prog 49=some 1:=by kernel_rfl
def Tryz.sortQ_ren:Go.Shelf.Ren:=⟨fun | 6=>95 | 15=>139 | 14=>138 | 28=>184 | 29=>185 | 20=>176 | 21=>177 | 22=>178 | 23=>179 | 24=>180 | 25=>181 | 26=>182 | 27=>183 | 46=>218 | 47=>219 | 48=>220 | 49=>221 | 50=>222 | 57=>248 | n=>n,fun | 22=>49 | 24=>34 | 25=>81 | 3=>3 | 39=>184 | 0=>0 | 53=>220 | 55=>222 | 4=>4 | 46=>214 | 45=>213 | 50=>54 | 5=>5 | 9=>9 | 66=>253 | 70=>204 | 76=>281 | 77=>259 | n=>n,fun | n=>n⟩
theorem Tryz.sortQ:Go.Proofs.SlLaysF0.n6 Tryz.prog Tryz.sortQ_ren:=by
 constructor <;> first | kernel_rfl | (intro w;kernel_rfl) | exact zma (by kernel_rfl) (by kernel_rfl) (by kernel_rfl)
theorem zm6 {α β:Type} {f:α→β}:∀ {l:List α},(l.map f).Nodup→∀ a∈l,∀ b∈l,f a=f b→a=b
 | [],_,a,ha,_,_,_=>by cases ha
 | x::xs,h,a,ha,b,hb,e=>by
  simp only [yI,List.nodup_cons,yO,not_exists,not_and] at h
  rcases yD.1 ha with ha1 | ha1 <;> rcases yD.1 hb with hb1 | hb1
  ·rw [ha1,hb1]
  ·subst ha1;exact absurd e.symm (h.1 b hb1)
  ·subst hb1;exact absurd e (h.1 a ha1)
  ·exact zm6 h.2 a ha1 b hb1 e
theorem zeS {α β:Type} {f:α→β} {l:List α} (h:(l.map f).Nodup):l.Nodup:=by
 induction l with
 | nil=>exact .nil
 | cons x xs ih=>
  simp only [yI,List.nodup_cons,yO,not_exists,not_and] at h
  exact List.nodup_cons.2 ⟨λhx=>h.1 x hx rfl,ih h.2⟩
section
variable {κ β:Type} {m:GMap κ β} {L:List (Nat×κ×β)}
theorem zqd (h2:∀ e∈L,e∈m.es) (h3:(L.map (·.1)).Nodup) (h:∀ e∈m.es,(L.map (·.1)).contains e.1=true):L.Perm m.es:=by
 refine (List.perm_ext_iff_of_nodup (zeS h3) (zeS m.wf.nd)).2 λa=>⟨h2 a,λha=>?_⟩
 have:=h a ha
 simp only [List.contains_iff_mem,yO] at this
 obtain ⟨b,hb,e⟩:=this
 rw [zm6 m.wf.nd a ha b (h2 b hb) e.symm];exact hb
theorem zsa (h2:∀ e∈L,e∈m.es) (h3:(L.map (·.1)).Nodup):L.length≤m.es.length:=by
 have hp:L.Perm (m.es.filter λe=>(L.map (·.1)).contains e.1):=by
  refine (List.perm_ext_iff_of_nodup (zeS h3) ((zeS m.wf.nd).filter _)).2 λa=>⟨λha=>List.mem_filter.2 ⟨h2 a ha,?_⟩,λha=>?_⟩
  ·simp only [List.contains_iff_mem,yO];exact ⟨a,ha,rfl⟩
  ·obtain ⟨ha,hb⟩:=List.mem_filter.1 ha
   simp only [List.contains_iff_mem,yO] at hb
   obtain ⟨b,hb,e⟩:=hb
   rw [zm6 m.wf.nd a ha b (h2 b hb) e.symm];exact hb
 rw [hp.length_eq];exact List.length_filter_le _ _
end
theorem zoh {G1:Globs} [G:Globs] {l:Nat} {rec:Loop} {ia ib ic:Nat} {ra rb:List Oper} (hGs : @Globs.gs G=(l,.loop rec)::@Globs.gs G1) (hGE:∀ q∈@Globs.gs G1,q.1≠l)
  (hrec:rec.state = .ready∧rec.pending=none∧rec.params = #[7]∧rec.tmps.size=13) (hasg:rec.assign = .region ia ra.toArray false) (hbd:rec.body = .block ib (.region ic rb.toArray false)) (hda:(ra.all zhl)=true) (hdb:(rb.all zhl)=true)
  (m:GMap Question (List Swap)) (hsz:m.es.length*32≤140737488355328)
  (hY:∀ (A0 own0:Nat→Prop) (w:World) (gh:List (V×Value)) (k:Blk) (out:List Question) (z:Question),app 32 out [z]=some (out++[z])→@TriL G1 Tryz.prog ⟨A0,own0,w,13,λ_ _=>False,gh,3,[]⟩ ra.toArray ra (λe s1=>e = .normal∧∀ (own0:Nat→Prop) (w:World),
   @TriL G1 Tryz.prog ⟨A0,own0,w,13,λ_ _=>False,gh,3,[]⟩ rb.toArray rb (λe s2=>e = .normal∧s2.H=HA (out++[z])++[k]) s1) ⟨(7,.d z.enc)::[(2,.loc 0 0)],HA out++[k]⟩)
  (A0 own0:Nat→Prop) (w0:World) (gh:List (V×Value)) (hs:Serves ⟨A0,own0,w0,14,λ_ _=>False,gh,2,[]⟩ l rec [(2,.loc 0 0)]) :
  Tri Tryz.prog ⟨A0,own0,w0,14,λ_ _=>False,gh,2,[]⟩ (znr Tryz.prog 91) (retV [] λ_ H2=>∃ ks,ks.Perm (m.es.map (·.2.1))∧∃ X,H2=HA ks++X) ⟨ze6 0 [.d (.fn (.yield l) [] []),.d (.ref (MapD m))],HA []⟩:=by
 rw [zhu Tryz.func91 rfl]
 refine .seq <| .region <| .op rfl rfl (.load rfl rfl Y95 rfl) <| .mapRangeD rfl rfl rfl rfl U95 rfl λm' hm'=>.nil ?_
 have hlen:m'.es.length=m.es.length:=by have:=congrArg List.length hm';simpa using this
 have hkeys:m'.es.map (·.2.1)=m.es.map (·.2.1):=by
  have:=congrArg (List.map λp:Question×List Swap=>p.1) hm'
  simpa [uu,Function.comp_def] using this
 refine .block <| Tri.loopP m'.es.length (λi s=>∃ (L:List (Nat×Question×List Swap)) (ks:List Question) (bt:List Nat),ks=L.map (·.2.1)∧bt=L.map (·.1)∧L.length=i∧(∀ e∈L,e∈m'.es)∧(L.map (·.1)).Nodup∧s.ge ⟨[(0,.d (.fn (.yield l) [] [])),(5,.itp 2)],[.box 49 [.vec 1 ks.length],.vec 34 4 (ks.map Question.enc),m'.itblk QV SwD bt]⟩) ⟨[],[],[],rfl,rfl,rfl,by simp,by simp,[],rfl,rfl,rfl,rfl,rfl,trivial⟩ λi s hi hI=>?_
 obtain ⟨L,ks,bt,hks,hbt,h1,h2,h3,hg⟩:=hI
 refine Tri.ge hg ?_ rfl
 clear hg
 refine .seq <| .region <| .mapNextD isQ rfl rfl rfl rfl rfl rfl (λhend=>?_) λe he hne=>?_
 ·refine .op rfl rfl (.extract rfl rfl rfl) <| .nil <| .seq <| .cond (t:=false) rfl (λh=>by cases h) λ_=>.exit ?_
  refine ⟨.inr rfl,[],rfl,ks,?_,[m'.itblk QV SwD bt],rfl⟩
  rw [hbt] at hend
  have:=(zqd h2 h3 hend).map (·.2.1)
  rw [hkeys] at this
  rw [hks]
  exact this
 ·rw [hbt] at hne
  have h2':∀ x∈L++[e],x∈m'.es:=λx hx=>by
   rcases yE.1 hx with hx | hx
   ·exact h2 x hx
   ·rw [yB.1 hx];exact he
  have hne':e.1∉L.map (·.1):=λh=>by
   rw [List.contains_iff_mem.2 h] at hne;cases hne
  have h3':((L++[e]).map (·.1)).Nodup:=by
   rw [y8]
   refine uM.2 ⟨h3,by simp,λa ha b hb hab=>?_⟩
   simp only [yI,List.map_nil,yB] at hb
   subst hb;subst hab
   exact hne' ha
  have hle:=zsa h2' h3'
  simp only [yL,uq] at hle
  have happ:app 32 ks [e.2.1]=some (ks++[e.2.1]):=by
   unfold app
   rw [if_pos]
   simp only [hks,yH,uq]
   have:=uc 32 (hlen▸hle)
   omega
  have hyl:=λown0 w gh=>hY A0 own0 w gh (m'.itblk QV SwD (bt++[e.1])) ks e.2.1 happ
  have hlast:L.length<m'.es.length∧∃ (L':List (Nat×Question×List Swap)) (ks':List Question) (bt':List Nat),(ks'=L'.map (·.2.1)∧bt'=L'.map (·.1)∧L'.length=i+1∧(∀ e∈L',e∈m'.es)∧(L'.map (·.1)).Nodup)∧ks'=ks++[e.2.1]∧bt'=bt++[e.1]:=⟨by omega,L++[e],_,_,⟨rfl,rfl,by simp [h1],h2',h3'⟩,by simp [hks],by simp [hbt]⟩
  obtain ⟨hlt,L',ks',bt',⟨k1,k2,k3,k4,k5⟩,k6,k7⟩:=hlast
  have hlt:i<m'.es.length:=h1▸hlt
  refine .op rfl rfl (.extract rfl rfl rfl) <| .nil <| .seq <| .cond (t:=true) rfl (λ_=>.skip ?_) (λh=>by cases h)
  refine .block <| .seq <| .region <| .op rfl rfl (.entryD isQ rfl rfl rfl he) <| .op rfl rfl (.extract rfl rfl rfl) <| .allocStore rfl rfl rfl rfl rfl rfl rfl rfl (by simp) rfl rfl Z34 <| .nil ?_
  refine .keep [.box 49 [.vec 1 ks.length],.vec 34 4 (ks.map Question.enc),m'.itblk QV SwD (bt++[e.1])] [0,3,5] (.cons rfl (.cons rfl (.cons rfl .nil))) rfl ?_
  clear happ hle hne hne' h2' h3'
  refine .seq <| Tri.regionY 2 ⟨[(11,.d e.2.1.enc),(10,.d (.fn (.yield l) [] [])),(0,.d (.fn (.yield l) [] [])),(3,.d (.ref e.2.1.enc)),(5,.itp 2)],[.box 49 [.vec 1 ks.length],.vec 34 4 (ks.map Question.enc),m'.itblk QV SwD (bt++[e.1])]⟩ ⟨[(12,.d (.bool true)),(11,.d e.2.1.enc),(10,.d (.fn (.yield l) [] [])),(0,.d (.fn (.yield l) [] [])),(3,.d (.ref e.2.1.enc)),(5,.itp 2)],HA (ks++[e.2.1])++[m'.itblk QV SwD (bt++[e.1])]⟩ rfl ?_ ?_ ?_
  ·exact .op rfl rfl (.move rfl rfl) <| .op rfl rfl (.load rfl rfl Y34 rfl) <| .nil ⟨rfl,rfl⟩
  ·exact OneI.yield (G1:=G1) hGs hGE hrec hasg hbd hda hdb hs rfl rfl rfl rfl rfl rfl rfl (.none rfl) rfl rfl hyl
  ·refine .op rfl rfl (.not rfl rfl) <| .nil ⟨rfl,?_⟩
   refine .cond (t:=false) rfl (λh=>by cases h) λ_=>.skip ?_
   refine ⟨hlt,L',ks',bt',k1,k2,k3,k4,k5,?_⟩
   rw [k6,k7]
   exact ⟨[],rfl,rfl,rfl,rfl,rfl,trivial⟩
def znm (m:GMap Question (List Swap)) (l:List D):Prop:=∃ ks:List Question,ks.Perm (m.es.map (·.2.1))∧l=ks.map Question.enc
theorem zl9 (m:GMap Question (List Swap)) (hsz:m.es.length*32≤140737488355328):NewSl Tryz.prog 90 [.val (.slice none 0 0),seqD m] 34 4 (znm m):=by
 refine ⟨λA w vs hA hG hr=>?_⟩
 refine zlr (E:=znB A w 34 4 (znm m)) Tryz.func90 rfl (by rw [Tryz.ntmps90];simp) hA hG hr ?_
 rw [Tryz.ntmps90]
 refine .seq <| .region <| .box rfl rfl rfl rfl rfl (.ofD rfl) <| .nilCell 0 0 4 34 rfl rfl <| .op rfl rfl (.nilS 4 (α:=Question) Question.enc rfl) <| .nil ?_
 refine .keep (HA []) [1,2] (.cons rfl (.cons rfl .nil)) rfl ?_
 refine Tri.rangeFuncG (RQ:=zo2 4 34 4 (znm m)) (K:=λH2=>∃ ks,ks.Perm (m.es.map (·.2.1))∧∃ X,H2=HA ks++X) (fs:=[]) (cs:=[.ref (MapD m)]) (.region <| .op rfl rfl (.move rfl rfl) <| .nil ⟨rfl,rfl⟩) rfl dK91 Tryz.func91 rfl Tryz.ntmps91 rfl rfl rfl ?_ ?_ ?_
 ·intro l Dd rec own0 w1 gh G' hne hG' hGl hrec hasg hbd hown hgh
  obtain ⟨G1,hG1⟩:∃ G1:Globs,@Globs.gs G1=(Dd,.deferred (some []))::@Globs.gs globs:=⟨⟨_⟩,rfl⟩
  have hGs : @Globs.gs G'=(l,.loop rec)::@Globs.gs G1:=by rw [hG',hG1]
  have ct:=@zoh G1 G' l rec _ _ _ _ _ hGs (λq hq=>by
   rw [hG1] at hq
   rcases yD.1 hq with rfl | hq
   ·exact λe=>hne e.symm
   ·exact hGl q hq) hrec hasg hbd rfl rfl m hsz (λA0 own0 w gh k out z hz=>?_) A own0 w1 gh ⟨hown,λq hq=>by
    have:q=(2,.loc 0 0):=by simpa using hq
    subst this
    exact hgh 2 _ rfl⟩
  ·rw [zhu Tryz.func91 rfl] at ct
   exact ct
  ·refine .allocStore rfl rfl rfl rfl rfl rfl rfl rfl (by simp) rfl rfl Z34 <| .nil ⟨rfl,λown0 w=>?_⟩
   refine .op rfl rfl (.loadLoc1 rfl rfl rfl dY49 rfl) <| .op rfl rfl (.load rfl rfl Y34 rfl) <| .op rfl rfl (.buildSl [_] rfl rfl E49 rfl (λ_=>rfl) rfl (enc:=Question.enc)) <| .app rfl rfl rfl rfl rfl rfl rfl rfl E49 rfl (λ_=>rfl) hz <| .store rfl rfl rfl rfl rfl rfl (.cons (.vec rfl ?_) .nil) dC49 rfl (yd rfl) <| .nil ⟨rfl,rfl⟩
   simp
 ·intro Dd H2 G' hG' ⟨ks,hp,X,hX⟩
  subst hX
  refine Tri.ge (t:=⟨[(2,.loc 0 0)],HA ks⟩) ⟨X,rfl,rfl,rfl,rfl,trivial⟩ ?_ rfl
  refine .seq <| .region <| .op rfl rfl (.loadLoc1 rfl rfl rfl dY49 rfl) <| .op rfl rfl (.assign rfl rfl) <| .nil <| .ret ⟨rfl,1,ks.map Question.enc,?_,rfl,ks,hp,rfl⟩
  rw [yH];rfl
 ·intro s bs a w' df hq hR
  exact zml (P:=Tryz.prog) rfl hq hR
theorem zk0 (m:GMap Question (List Swap)) (hsz:m.es.length*32≤140737488355328):NewSl Tryz.prog 52 [seqD m] 34 4 (znm m):=by
 refine NewSl.of_tri (tt:=2) Tryz.func52 rfl rfl (by rw [Tryz.ntmps52];simp) λA w=>?_
 rw [Tryz.ntmps52]
 refine .seq <| .region <| .op rfl rfl (.nilS 4 (α:=Question) Question.enc rfl) <| .nil ?_
 refine .seq <| .region <| .op rfl rfl (.move rfl rfl) <| .callFresh rfl rfl rfl rfl dK90 rfl (zl9 m hsz) λl hl=>.op rfl rfl (.assign rfl rfl) <| .nil <| .ret ⟨rfl,0,l,rfl,rfl,hl⟩
theorem zlD (n:Nat) (m:GMap Question (List Swap)) (r:List Question) (h:zfk n m=some r):Pure Tryz.prog 61 [seqD m,.fn (.func 46) [] []] (.sl 4 (r.map Question.enc)):=by
 unfold zfk at h
 split at h
 case isFalse=>cases h
 rename_i hsz
 have hsz:=of_decide_eq_true hsz
 refine Pure.of_tri Tryz.func61 rfl (by rw [Tryz.ntmps61];simp) λA w=>?_
 rw [Tryz.ntmps61]
 refine .seq <| .region <| .op rfl rfl (.nilS 4 (α:=Question) Question.enc rfl) <| .nil ?_
 refine .seq <| .region <| .op rfl rfl (.move rfl rfl) <| .callFresh rfl rfl rfl rfl dK52 rfl (zk0 m hsz) λl ⟨ks,hp,hl⟩=>?_
 subst hl
 have hs:=zpr h ks hp
 refine .op rfl rfl (.assign rfl rfl) <| .nil ?_
 refine .seq <| .region <| .op rfl rfl (.move rfl rfl) <| .op rfl rfl (.move rfl rfl) <| .sortK (enc:=Question.enc) (l:=ks) Tryz.sortQ Y34 rfl rfl rfl rfl dK95 dK46 rfl rfl rfl (yH _) (λ_=>rfl) (λ_=>rfl) hs (λa b v hv=>zdl _ _ _ _ hv) <| .nil ?_
 refine .seq <| .region <| .op rfl rfl (.move rfl rfl) <| .op rfl rfl (.assign rfl rfl) <| .nil <| .ret ?_
 exact zb9 rfl (.vec rfl (by simp [zbJ hs]))
section
variable {C:Ctx} {ops:Array Oper} {o1 o2:Oper} {rest:List Oper} {Q:Exit→St→Prop} {T:List (Nat×V)} {H:List Blk}
theorem TriL.kill {P:Program} {ops rest Q T H} (i) {t k xs} (hi:H[i]? = some (.vec t k xs)) (h:TriL P C ops rest Q ⟨T,H.set i .dead⟩):TriL P C ops rest Q ⟨T,H⟩:=by
 refine ⟨λbs a w hR=>?_⟩
 have hl:i<bs.length:=by rw [hR.len];exact (yb.1 hi).1
 exact h.run _ a w (R.upd (y:=.dead) (c':=none) hR hi (yo hl) (by simp [Compat]) (Fr.refl _ _) (.inr (.inl rfl)) (by simp only [Blk.rep]))
theorem zm2 {d1 d2:Nat} {x:Operand} {tys1 tys2:Array TypeId} {n:Nat} {m:GMap Question (List Swap)} {z:Question} (hg1:o1.guard=none) (ho1:o1.op = .call { callee:=.value (.func 52),args:=#[x],argTypes:=tys1 }) (hd1:o1.dst=some d1) (hdn1:Nat.blt d1 C.n=true)
  (hg2:o2.guard=none) (ho2:o2.op = .call { callee:=.value (.func 51),args:=#[.tmp d1,.func 46],argTypes:=tys2 }) (hd2:o2.dst=some d2) (hdn2:Nat.blt d2 C.n=true) (hx:ev T x=some (.d (seqD m))) (hT:look d1 T=none) (hz:zii n m=some z)
  (kk:TriL Tryz.prog C ops rest Q ⟨(d2,.d z.enc)::T,H++[.dead]⟩):TriL Tryz.prog C ops (o1::o2::rest) Q ⟨T,H⟩:=by
 unfold zii at hz
 split at hz
 case isFalse=>cases hz
 rename_i hsz
 have hsz:=of_decide_eq_true hsz
 refine .callFresh hg1 ho1 hd1 hdn1 dK52 (xs:=[seqD m]) (by simp [evs,hx]) (zk0 m hsz) λl ⟨ks,hp,hl⟩=>?_
 subst hl
 have hm:=zpr hz ks hp
 refine .op (v:=.d z.enc) hg2 (by rw [hd2];simpa [dstOK] using hdn2) (.callB ho2 dK51 (xs:=[.sl 4 (ks.map Question.enc),.fn (.func 46) [] []]) (.cons (v:=.vec H.length (ks.map Question.enc).length) (by simp [ev,za7]) (.vec (t:=34) (by simp) (by simp)) (.cons rfl (.d _) .nil)) rfl (zcE n ks _ _ (λq0 q1 y hq=>⟨_,_,rfl,dK46,zdl _ _ _ _ hq⟩) z hm)) ?_
 rw [hd2]
 refine .kill H.length (t:=34) (k:=4) (xs:=ks.map Question.enc) (by simp [St.put]) ?_
 have e:(H++[Blk.vec 34 4 (ks.map Question.enc)]).set H.length .dead=H++[.dead]:=by simp
 simp only [St.put,e]
 refine ⟨λbs a w hR=>kk.run bs a w (hR.weaken λt v hv=>?_)⟩
 simp only [za7] at hv ⊢
 by_cases h2:t=d2
 ·simpa [h2] using hv
 ·simp only [h2,if_false] at hv ⊢
  by_cases h1:t=d1
  ·subst h1;rw [hT] at hv;cases hv
  ·simpa [h1] using hv
end
end Go.Proofs.YtehefbidnkfciaaGreatDoor
