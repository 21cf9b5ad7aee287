/- Part of the proof of one law of the seat. -/
import Derived.Test.YtipkniadbkndfaaGreatDoorSm07
set_option linter.all false
set_option maxRecDepth 100000
set_option maxHeartbeats 40000000
namespace Go.Proofs.YtipkniadbkndfaaGreatDoor
open Go Go.RowKit
open Option renaming some->O,none->Y
open Bool renaming true->U
open Decidable renaming decide->Z
open Inhabited renaming default->J
open List renaming length->xh,map->xn
open D renaming bool->xp,int->xt,str->wL
open Range renaming enc->xy
open _root_.Go.Proofs.YtipkniadbkndfaaGreatDoor.Row renaming enc->xM
open Model renaming enc->xR
open GMap renaming blk->xS
open Table renaming enc->wm
open Constraint renaming enc->wu
open _root_.Go.Proofs.YtipkniadbkndfaaGreatDoor.Question renaming enc->wz
open Term renaming enc->wQ
open Action renaming enc->wR
open Go.Value renaming string->wS,int->wW
open zxb renaming enc->vZ
section
set_option maxRecDepth 100000
set_option maxHeartbeats 40000000
abbrev wE1 a:=(.vec 221 2<|xn Place.enc a:Blk)
instance lexer_Kind_i:Kd1 272 zeS wL xt:=⟨λn t0 r h=>zmI _ _ _ h⟩
instance lexer_Name_ok:Kd1 234 zfS wL xp:=⟨λn t0 r h=>.ot Tryz.func234 I Tryz.ntmps234 I λ_ _=>walk h⟩
instance cells_columned_1_ok:Kd2 273 zdq xt (λt1=>.ref<|eB t1) xp:=⟨λn t0 t1 r h=>.ot Tryz.func273 I Tryz.ntmps273 I λ_ _=>walk h⟩
instance cells_columned_ok:Kd2 236 zei (slE 1 xt) (slE 1 xt) xp:=⟨λn t0 t1 r h=>.ot Tryz.func236 I Tryz.ntmps236 I λ_ _=>walk h⟩
theorem zkp (n t0 r)(h:zem n t0=O r):Pure pg 237 [wm t0]<|.bool r:=by
 have:HJ 5 [1] (λv:Bool=>[(5,.d<|.bool v)]) λ_ _=>[]:=⟨⟩;refine Pure.ot Tryz.func237 I Tryz.ntmps237 I λA w=>.sA 2 I<|.seq<|.sA 2 I<|.block<|.xf [1] h (λv=>[(5,.d<|.bool v)]) (λv=>[]) I (λk_2 h=>?_) λx1 h=>?_;·exact walk h
 ·refine .zvG I h (λh=>?_) λh=>?_;·exact walk h
  ·refine .skip<|.K [1] I<|.sr<|.p I (.fa I<|zuL _)<|.A 1 I<|.p I (.B (xy ⟨0,1⟩) Zc83 I)<|.p I (.seql I SE83 I I (xs:=Range.vals _) (ys:=Range.vals _) I I I I<|SQ83 _ _)<|.A 1 I<|.nil<|.ret<|rO h I
instance cells_ranged_i:Kd1 237 zem wm xp:=⟨λn t0 r h=>zkp n t0 r h⟩
instance cells_isStrict_ok:Kd1 207 zci wm xp:=⟨λn t0 r h=>.ot Tryz.func207 I Tryz.ntmps207 I λ_ _=>walk h⟩
instance cells_width_ok:Kd2 209 zbl (slE 1 xt) (slE 1 xt) xt:=⟨λn t0 t1 r h=>.ot Tryz.func209 I Tryz.ntmps209 I λ_ _=>have:HL 3 [0,8,9] (λv:Int×Int=>[(5,.d<|.int v.1),(10,.d<|.int v.2)]) λ_ _=>[]:=⟨⟩;walk h⟩
instance cells_Valid_ok:Kd2 201 zbX (slE 1 xt) (slE 6 wm) xp:=⟨λn t0 t1 r h=>.ot Tryz.func201 I Tryz.ntmps201 I λ_ _=>have:HJ 17 [0,5,6,7,23,24,25] (λv:GMap (List UInt8) Bool×Int×Int=>[]) λH v=>[(0,xS (λl:List UInt8=>wS ⟨l.toArray⟩) xp v.1),bx 1 [(0,.d<|.int v.2.1)] H,bx 2 [(0,.d<|.int v.2.2)] H]:=⟨⟩;have:HL 6 [0,5,6,7,23,24] (λv:GMap (List UInt8) Bool×Int×Int×Int=>[(25,.d<|.int v.2.2.2)]) λH v=>[(0,xS (λl:List UInt8=>wS ⟨l.toArray⟩) xp v.1),bx 1 [(0,.d<|.int v.2.1)] H,bx 2 [(0,.d<|.int v.2.2.1)] H]:=⟨⟩;walk h⟩
instance model_distinct_ok:Kd1 202 zaX (slE 1 wL) xp:=⟨λn t0 r h=>.ot Tryz.func202 I Tryz.ntmps202 I λ_ _=>have:HL 3 [3,7,8] (λv:GMap (List UInt8) Bool×Int=>[(9,.d<|.int v.2)]) λ_ v=>[(0,xS (λl:List UInt8=>wS ⟨l.toArray⟩) xp v.1)]:=⟨⟩;walk h⟩
instance math_bits_Mul64_ok:Kd2 281 ze3 (λt0=>.val<|.int .u64 t0) (λt1=>.val<|.int .u64 t1) λr=>.tup [.val<|.int .u64 r.1,.val<|.int .u64 r.2]:=⟨λn t0 t1 r h=>.ot Tryz.func281 I Tryz.ntmps281 I λ_ _=>walk h⟩
instance math_bits_Mul_ok:Kd2 247 zeL (λt0=>.val<|.int .u64 t0) (λt1=>.val<|.int .u64 t1) λr=>.tup [.val<|.int .u64 r.1,.val<|.int .u64 r.2]:=⟨λn t0 t1 r h=>.ot Tryz.func247 I Tryz.ntmps247 I λ_ _=>walk h⟩
theorem zdY:Kx2 208 zM eC .int eC:=λn t0 t1 r h=>by
 refine .ot Tryz.func208 I Tryz.ntmps208 I λA w=>.sr<|.p I (.nilS 2 (α:=Range) xy I)<|.nil<|.seq<|.sA 2 I<|.zvG I h (λh=>?_) λh=>?_
 ·refine .region ?_;cases h
 ·refine .skip<|.S 1 I<|.e I<|.p I (.conv I U3 U260 I)<|.A 1 I<|.p I (.conv I U3 U260 I)<|.xc h I (math_bits_Mul_ok _ _ _) λx1 h=>.A 5 I<|.nil<|.seq<|.seq<|.plain 6 I<|.A 3 I<|.jO 2 (Z<|9223372036854775807<x1.2) I (λb2=>?_) ?_;·refine .A 2 I<|.nil I
  refine .nil<|.nil<|.K [0,6,26] I<|.zvG I h (λh=>?_) λh=>?_
  ·refine .region ?_;cases h
  ·refine .skip<|.S 1 I<|.p I (.conv I U260 U3 I)<|bK h λx3 q3 h=>.zxX (enc:=xy) (z:=(⟨0,0⟩:Range)) I I I I E80 I I I (.agg Zc83 (ds':=[.int 0,.int 0])<|.e .e1) q3<|.A 1 I<|.nil<|.S 2 I<|.asSub 31 I<|.zzU (enc:=xy) (l:=x3) (ys:=t0) I I I I E80 I I I (.d I) (λ_=>I)<|.zxj 7 I (zkt _ t0).symm<|.zxj 30 I (zkt _ t0).symm<|.A 1 I<|.nil<|.seq<|.block<|.L [] h (λv=>[(7,.vec 0<|xh v.1),(8,.d<|.int v.2)]) (λv=>[(0,.vec 83 2<|xn xy v.1)]) I λ_⟨b0_12,x13⟩h=>.seq<|.S 2 I<|.p I (.lenV I U80 I I I)<|.A 1 I<|.nil<|.K [7,8,37] I<|.zvG I h (λh=>?_) λh=>?_
   ·refine .skip<|.block<|.drawF 7 [0] Hm (by kernel_rfl) (by kernel_rfl)<|.A 3 I<|bK h λx15 q15 h=>.p I (.subL I I I I I U80 S83 q15)<|.A 2 I<|bK h λx16 q16 h=>.p I (.subH I I I I I U80 S83 q16)<|.nil ⟨.move I I .nil,?_⟩;refine .zzU (enc:=xy) (l:=b0_12) (ys:=(b0_12.drop 0).take<|x13.toNat-0) I I I I E80 I I I (.sub I I I) (λ_=>I)<|.zxj 7 I (zhL q15<|(b0_12.drop 0).take<|x13.toNat-0).symm<|.zxj 39 I (zhL q15<|(b0_12.drop 0).take<|x13.toNat-0).symm<|.zxj 42 I (zhL q15<|(b0_12.drop 0).take<|x13.toNat-0).symm<|.A 2 I<|.nil<|ndE h I
   ·refine .exit<|.sA 2 I<|.ret ?_;cases h;exact zgt I<|.vec I<|by simp
instance slices_Repeat_LRange_api_Range_i:Kd2 208 zM (slE 2 xy) xt<|slE 2 xy:=⟨λn t0 t1 r h=>zdY n t0 t1 r h⟩
instance cells_Ranges_ok:Kd3 164 zbT (slE 1 xt) (slE 6 wm) xp<|slE 2 xy:=⟨λn t0 t1 t2 r h=>.ot Tryz.func164 I Tryz.ntmps164 I λ_ _=>have:HS 7:=⟨⟩;have:HJ 9 [0,2,14,15,16] (λv:List Range=>[(7,.vec 0<|xh v)]) λ_ v=>[(0,.vec 83 2<|xn xy v)]:=⟨⟩;have:HL 5 [0,2,14,15] (λv:List Range×Int=>[(7,.vec 0<|xh v.1),(16,.d<|.int v.2)]) λ_ v=>[(0,.vec 83 2<|xn xy v.1)]:=⟨⟩;walk h⟩
instance model_index_ok:Kd2 238 zaJ xt xt xp:=⟨λn t0 t1 r h=>.ot Tryz.func238 I Tryz.ntmps238 I λ_ _=>walk h⟩
instance model_around_ok:Kd2 243 zbg xt xt xp:=⟨λn t0 t1 r h=>.ot Tryz.func243 I Tryz.ntmps243 I λ_ _=>walk h⟩
instance model_judge_row_ok:Kd2 239 zaT vZ xM xp:=⟨λn t0 t1 r h=>.ot Tryz.func239 I Tryz.ntmps239 I λ_ _=>have:HL 3 [2,3,9,10] (λv:Int×Int=>[(5,.d<|.int v.1),(11,.d<|.int v.2)]) λ_ _=>[]:=⟨⟩;walk h⟩
instance model_judge_graph_1_ok:Kd3 275 zbZ wm (λt1=>.ref<|wu t1) (λt2=>.ref<|vZ t2) xp:=⟨λn t0 t1 t2 r h=>.ot Tryz.func275 I Tryz.ntmps275 I λ_ _=>walk h⟩
instance slices_IndexFunc_LTable_api_Table_ok:Kf2 294 zz (slE 6 wm) wm xp xt:=⟨λn t0 t1 F hF r h=>.ot Tryz.func294 I Tryz.ntmps294 I λ_ _=>have:HL 2 [0,1,7] (λv:Int=>[(8,.d<|.int v)]) λ_ _=>[]:=⟨⟩;walk h⟩
instance slices_ContainsFunc_LTable_api_Table_ok:Kf2 274 zah (slE 6 wm) wm xp xp:=⟨λn t0 t1 F hF r h=>.ot Tryz.func274 I Tryz.ntmps274 I λ_ _=>walk h⟩
instance model_judge_graph_ok:Kd2 240 zcx vZ wu xp:=⟨λn t0 t1 r h=>.ot Tryz.func240 I Tryz.ntmps240 I λ_ _=>walk h⟩
instance slices_Equal_LTerm_api_Term_ok:Kd2 276 zU (slE 2 wQ) (slE 2 wQ) xp:=⟨λn t0 t1 r h=>.ot Tryz.func276 I Tryz.ntmps276 I λ_ _=>have:HL 4 [0,1,12] (λv:Int=>[(13,.d<|.int v)]) λ_ _=>[]:=⟨⟩;walk h⟩
instance model_single_ok:Kd4 241 zeu xM xt xt xt xp:=⟨λn t0 t1 t2 t3 r h=>.ot Tryz.func241 I Tryz.ntmps241 I λ_ _=>walk h⟩
instance model_judge_constraints_ok:Kd1 203 zaf vZ xp:=⟨λn t0 r h=>.ot Tryz.func203 I Tryz.ntmps203 I λ_ _=>have:HJ 18 [1,3,4,26,27,28] (λv:Int×Int=>[(6,.d<|.int v.1),(7,.d<|.int v.2)]) λ_ _=>[]:=⟨⟩;have:HJ 13 [1,3,4,26,27,28] (λv:Unit=>[]) λ_ _=>[]:=⟨⟩;have:HJ 20 [1,26,27,28] (λv:Unit=>[]) λ_ _=>[]:=⟨⟩;have:HL 4 [1,26,27] (λv:Int=>[(28,.d<|.int v)]) λ_ _=>[]:=⟨⟩;walk h⟩
instance model_judge_operations_1_ok:Kd2 242 zbF xt (λt1=>.ref<|vZ t1) xp:=⟨λn t0 t1 r h=>.ot Tryz.func242 I Tryz.ntmps242 I λ_ _=>walk h⟩
instance model_judge_operations_ok:Kd1 204 zP vZ xp:=⟨λn t0 r h=>.ot Tryz.func204 I Tryz.ntmps204 I λ_ _=>have:HS 3:=⟨⟩;have:HL 3 [1,8,9] (λv:List (List UInt8)×Int=>[(3,.vec 0<|xh v.1),(10,.d<|.int v.2)]) λ_ v=>[(0,.vec 9 1<|xn wL v.1)]:=⟨⟩;walk h⟩
section
variable[Drw]
theorem zgp:Kx1 258 zdL .int .bool:=λn t0 r h=>.ot Tryz.func258 I Tryz.ntmps258 I λA w=>.sA 1 I<|.sA 4 I<|.ret<|rO h I
end
section
variable[Drw]
theorem zfh:Kx2 215 zct .int .int .int:=λn t0 t1 r h=>.ot Tryz.func215 I Tryz.ntmps215 I λA w=>.sA 1 I<|.S 1 I<|.xc h I (zgp _ _) λx1 h=>.A 1 I<|.nil<|.S 1 I<|.xc h I (zgp _ _) λx2 h=>.A 1 I<|.nil<|.seq<|.sA 1 I<|.zvG I h (λh=>.seq<|.sA 1 I<|.zvG I h (λh=>.sA 1 I<|.ret<|rO h I) λh=>.skip<|.sA 1 I<|.ret<|rO h I) λh=>.skip<|.seq<|.sA 1 I<|.zvG I h (λh=>.sA 1 I<|.ret<|rO h I) λh=>.skip<|.seq<|.sA 3 I<|.zvG I h (λh=>.sA 1 I<|.ret<|rO h I) λh=>.skip<|.seq<|.sA 3 I<|.zvG I h (λh=>.sA 1 I<|.K [4] I<|.ret<|rO h I) λh=>.skip<|.sA 1 I<|.K [4] I<|.ret<|rO h I
end
section
variable[Drw]
theorem zdj:Kx2 216 zq eB eB .int:=λn t0 t1 r h=>.ot Tryz.func216 I Tryz.ntmps216 I λA w=>.sA 1 I<|.seq<|.S 1 I<|.e I<|.A 1 I<|.nil<|.block<|.L [0,1,9,10] h (λv=>[(11,.d<|.int v)]) (λv=>[]) I λ_ x9 h=>.sA 1 I<|.seq<|.zvG I h (λh=>.skip<|.seq<|.block<|.S 1 I<|.X h I λx11 h=>.A 3 I<|.nil<|.seq<|.S 2 I<|.e I<|.A 1 I<|.nil<|.zvG I h (λh=>.sA 1 I<|.ret<|rO h I) λh=>.skip<|.S 2 I<|.X h I λx12 h=>.A 2 I<|.nil<|.S 2 I<|.xc h I (zfh _ _ _) λx13 h=>.A 1 I<|.nil<|.K [0,1,8,9,10,11] I<|.sA 2 I<|.zvG I h (λh=>.sA 2 I<|.ret<|rO h I) λh=>.skip<|.rA 2 I<|ndE h I) λh=>.exit<|.seq<|.S 1 I<|.e I<|.A 1 I<|.e I<|.A 1 I<|.nil<|.zvG I h (λh=>.sA 1 I<|.ret<|rO h I) λh=>.skip<|.sA 1 I<|.ret<|rO h I
end
instance slices_Compare_Lint_int_i:Kd2 216 zq (slE 1 xt) (slE 1 xt) xt:=⟨λn t0 t1 r h=>zdj n t0 t1 r h⟩
theorem zlj (n t0 t1 t2 t3 r)(h:zbf n t0 t1 t2 t3=O r):Pure pg 295 [eB t0,eD t1,.bool t2,.int t3]<|.tup [.int r.1,eB r.2.1,.bool r.2.2]:=by
 refine Pure.ot Tryz.func295 I Tryz.ntmps295 I λA w=>.S 1 I<|.p I (.nilS 1 (α:=Int) xt I)<|.A 1 I<|.nil<|.seq<|.seq<|.plain 8 I<|.A 2 I<|.xc h I (cells_Valid_ok _ _ _) λx1 h=>.A 2 I<|.jO 2 (Z<|t3<0) I (λb2=>?_) ?_;·refine .A 2 I<|.nil I
 refine .nil<|.nil<|.zvG I h (λh=>?_) λh=>?_;·refine .S 1 I<|.p I (.nilS 1 (α:=Int) xt I)<|.A 1 I<|.nil<|.ret ?_;cases h;exact zj8 I I I (.d _) (.d _)<|.d _
 ·refine .skip<|.seq<|.S 1 I<|.e I<|.A 1 I<|.nil<|.block<|.L [0,2,3,25,26] h (λv=>[(27,.d<|.int v)]) (λv=>[]) I λ_ x73 h=>.sA 1 I<|.seq<|.zvG I h (λh=>?_) λh=>?_
  ·refine .skip<|.seq<|.block<|.S 1 I<|.X h I λx75 h=>.A 1 I<|.zwB I I I I (.agg Zc107 (ds':=[.str [],.int 0,eB [],.int 0,.int 0,.int 0])<|.e<|.e<|.o<|.e<|.e .e1) I<|.A 1 I<|.so I<|.nil<|.sA 5 I<|.seq<|.seq<|.plain 16 I<|.p I (.zxi I I I Y107 (yt I) (v:=.d<|wm x75) I)<|.xc h I (cells_isStrict_ok _ _) λx76 h=>.A 1 I<|.p I (.bne I U4 I I)<|.A 1 I<|.jO 2 (Z<|zvz t3 x75.first<0) I (λb77=>?_) ?_;·refine .A 2 I<|.nil I
   refine .A 1 I<|gK h λc79 h=>.jO 6 (Z<|(zbl n t0 x75.zvo).getD J<=zvz t3 x75.first) I (λb78=>?_) ?_;·refine .A 4 I<|.q I (.call I (zwe I) I<|cells_width_ok _ _ _ _<|zwh<|impF c79 b78)<|.A 1 I<|.nil I
   refine .nil<|.nil<|.K [0,2,3,11,12,13,25,26,27,51] I<|.zvG I h (λh=>?_) λh=>?_;·refine .exit<|.rA 2 I<|ndE h I
   ·refine .skip<|.S 2 I<|.e I<|bK h λx80 q80 h=>.zxX (enc:=xt) (z:=(0:Int)) I I I I E22 I I I (.val Zv3) q80<|.A 1 I<|.nil<|.seq<|.S 1 I<|.p I (.lenV I U22 I I I)<|.A 2 I<|.nil<|.block<|.L [0,11,12] h (λv=>[(13,.d<|.int v.2.1),(14,.vec 1<|xh v.1),(15,.d<|.int v.2.2)]) (λv=>[(1,.vec 3 1<|xn xt v.1)]) I λ_⟨b1_99,x100,x101⟩h=>.seq<|.sA 2 I<|.K [0,11,12,13,14,15,60] I<|.zvG I h (λh=>?_) λh=>?_;·refine .skip<|.seq<|.block<|.S 4 I<|.X h I λx103 h=>.A 1 I<|.X h I λx104 h=>.A 2 I<|.nil<|.drawF 9 [5,6,7] Hm (by kernel_rfl) (by kernel_rfl)<|.A 4 I<|bK h λx105 q105 h=>.p I (.rem6 I I I q105)<|.A 2 I<|bK h λx106 q106 h=>.p I (.quo6 I I I q106)<|bK h λx107 q107 h=>.p I (.idxV I I I I I U22 S3 q107)<|.nil ⟨.move I I<|.move I I<|.ints I I I I .nil,?_⟩;refine bK h λb1_108 hb1_108 h=>.zwQ (enc:=xt) I I I I I I I I I C3 hb1_108<|.zxj 14 I (zcp hb1_108)<|.zxj 71 I (zcp hb1_108)<|.A 1 I<|.nil<|.K [0,11,12,13,14,15] I<|.rA 3 I<|ndE h I
    ·refine .exit<|.sA 5 I<|.ret ?_;cases h;exact zj8 I I I (.d _) (.vec I<|by simp)<|.d _
  ·refine .exit<|.S 1 I<|.p I (.nilS 1 (α:=Int) xt I)<|.A 1 I<|.nil<|.ret ?_;cases h;exact zj8 I I I (.d _) (.d _)<|.d _
instance cells_Tuple_i:Kd4 295 zbf (slE 1 xt) (slE 6 wm) xp xt λr=>.tup [.int r.1,eB r.2.1,.bool r.2.2]:=⟨λn t0 t1 t2 t3 r h=>zlj n t0 t1 t2 t3 r h⟩
instance model_judge_update_ok:Kd2 277 zce vZ zwg.enc xp:=⟨λn t0 t1 r h=>.ot Tryz.func277 I Tryz.ntmps277 I λ_ _=>have:HJ 9 [3,8] (λv:Bool=>[(51,.d<|.bool v)]) λ_ _=>[]:=⟨⟩;walk h⟩
instance model_judge_effect_1_ok:Kd2 278 zbP xM (λt1=>.ref<|vZ t1) xp:=⟨λn t0 t1 r h=>.ot Tryz.func278 I Tryz.ntmps278 I λ_ _=>walk h⟩
instance slices_IndexFunc_LRow_api_Row_ok:Kf2 217 zn (slE 2 xM) xM xp xt:=⟨λn t0 t1 F hF r h=>.ot Tryz.func217 I Tryz.ntmps217 I λ_ _=>have:HL 2 [0,1,7] (λv:Int=>[(8,.d<|.int v)]) λ_ _=>[]:=⟨⟩;walk h⟩
instance slices_ContainsFunc_LRow_api_Row_ok:Kf2 170 zo (slE 2 xM) xM xp xp:=⟨λn t0 t1 F hF r h=>.ot Tryz.func170 I Tryz.ntmps170 I λ_ _=>walk h⟩
instance model_judge_effect_ok:Kd2 244 zT vZ zwf.enc xp:=⟨λn t0 t1 r h=>.ot Tryz.func244 I Tryz.ntmps244 I λ_ _=>have:HL 11 [2,3,44,45] (λv:Int×Int=>[(5,.d<|.int v.1),(46,.d<|.int v.2)]) λ_ _=>[]:=⟨⟩;have:HL 3 [2,3,11,12] (λv:Int×Int=>[(5,.d<|.int v.1),(13,.d<|.int v.2)]) λ_ _=>[]:=⟨⟩;walk h⟩
instance model_judge_actions_ok:Kd1 205 zK vZ xp:=⟨λn t0 r h=>.ot Tryz.func205 I Tryz.ntmps205 I λ_ _=>have:HJ 19 [1,4,16,17,18] (λv:Unit=>[]) λ_ _=>[]:=⟨⟩;have:HL 9 [1,3,4,16,17,18,53,54] (λv:Int=>[(55,.d<|.int v)]) λ_ _=>[]:=⟨⟩;have:HL 4 [1,16,17] (λv:Int=>[(18,.d<|.int v)]) λ_ _=>[]:=⟨⟩;walk h⟩
instance model_judge_hidden_1_ok:Kd3 246 zdk Hide.enc (λt1=>.ref<|.int t1) (λt2=>.ref<|GMap.dat (λn:Int=>wW .i64 n) xp t2) xp:=⟨λn t0 t1 t2 r h=>.ot Tryz.func246 I Tryz.ntmps246 I λ_ _=>walk h⟩
instance slices_IndexFunc_LHide_api_Hide_ok:Kf2 279 zF (slE 3 Hide.enc) Hide.enc xp xt:=⟨λn t0 t1 F hF r h=>.ot Tryz.func279 I Tryz.ntmps279 I λ_ _=>have:HL 2 [0,1,7] (λv:Int=>[(8,.d<|.int v)]) λ_ _=>[]:=⟨⟩;walk h⟩
instance slices_ContainsFunc_LHide_api_Hide_ok:Kf2 245 zaF (slE 3 Hide.enc) Hide.enc xp xp:=⟨λn t0 t1 F hF r h=>.ot Tryz.func245 I Tryz.ntmps245 I λ_ _=>walk h⟩
theorem zgT:Kx1 206 zh vZ .bool:=λn t0 r h=>by
 refine .ot Tryz.func206 I Tryz.ntmps206 I λA w=>.sA 2 I<|.seq<|.sr<|.p I (.fa I<|zh5 _)<|.A 2 I<|.e I<|.A 1 I<|.nil<|.zvG I h (λh=>?_) λh=>?_;·refine .sA 1 I<|.ret<|rO h I
 ·refine .skip<|.seq<|.sr<|.p I (.fa I<|zh5 _)<|.A 2 I<|.e I<|.A 1 I<|.nil<|.block<|.L [1,18,19] h (λv=>[(20,.d<|.int v)]) (λv=>[]) I λ_ x31 h=>.sA 1 I<|.K [1,18,19,20,21] I<|.seq<|.zvG I h (λh=>?_) λh=>?_
  ·refine .skip<|.seq<|.block<|.sr<|.X h I λx33 h=>.A 1 I<|.aS I<|.nil<|.seq<|.seq<|.plain 25 I<|.A 2 I<|.p I (.fa I<|zh5 _)<|.A 2 I<|.e I<|.xc h I (model_index_ok _ _ _) λx34 h=>.A 2 I<|gK h λc36 h=>.jO 8 (!(zaJ n x33.to (t0.model.tables.length:Int)).getD J) I (λb35=>?_) ?_;·refine .A 2 I<|.q I (.fa I<|zh5 _)<|.A 2 I<|.qe I<|.q I (.call I (zwe I) I<|model_index_ok _ _ _ _<|zwh<|impF c36 b35)<|.A 1 I<|.nil I
   refine .A 1 I<|.jO 5 (x33.table==x33.to) I (λb37=>?_) ?_;·refine .A 5 I<|.nil I
   refine .nil<|.nil<|.K [1,4,18,19,20,48] I<|.zvG I h (λh=>?_) λh=>?_;·refine .sA 1 I<|.ret<|rO h I
   ·refine .skip<|.seq<|.dr 18<|.p I (.fa I<|zh5 _)<|.A 4 I<|.X h I λx38 h=>.A 1 I<|.p I (.fa I<|zh5 _)<|.A 4 I<|.X h I λx39 h=>.A 1 I<|.alloc I I I I ZZ107<|.alloc I I I I ZZ107<|.store I I I I I I Z107<|.store I I I I I I Z107<|.nil<|.zv9 [0,1] (.cons (t:=5) (d:=.ref<|wm x38) I (.loc (zw9 I) I<|.v<|.v<|.v<|.v<|.v .v1)<|.cons (t:=6) (d:=.ref<|wm x39) I (.loc (zw9 I) I<|.v<|.v<|.v<|.v<|.v .v1) .nil)<|.nil<|.K [1,4,5,6,18,19,20] I<|.seq<|.dr 36<|.A 4 I<|.jO 3 (x39.kind !=0) I (λb40=>?_) ?_;·refine .A 3 I<|.nil I
    refine .A 1 I<|gK h λc42 h=>.jO 7 (!(zaJ n x33.column (x38.zvo.length:Int)).getD J) I (λb41=>?_) ?_;·refine .A 4 I<|.qe I<|.q I (.call I (zwe I) I<|model_index_ok _ _ _ _<|zwh<|impF c42 b41)<|.A 1 I<|.nil I
    refine .A 1 I<|.jO 4 ((x39.zvo.length:Int)!=1) I (λb43=>?_) ?_;·refine .A 2 I<|.qe I<|.A 1 I<|.nil I
    refine .A 1 I<|gK h λc45 h=>gK h λc46 h=>.jO 11 ((idx x39.zvo 0).getD J !=(idx x38.zvo x33.column).getD J) I (λb44=>?_) ?_;·refine .A 2 I<|.q I (.ix I U22 S3<|zwh<|impF c45 b44)<|.A 5 I<|.q I (.ix I U22 S3<|zwh<|impF c46 b44)<|.A 2 I<|.nil I
    refine .nil<|.nil<|.K [1,18,19,20,98] I<|.zvG I h (λh=>?_) λh=>?_;·refine .sA 1 I<|.ret<|rO h I
    ·refine .skip<|.rA 2 I<|ndE h I
  ·refine .exit<|.sr<|.makeMap (λn:Int=>wW .i64 n) xp I I I I<|.zwB I I I I (.val Zv283) I<|.store I I I I I I (.cons (.mp I) .nil) C283 I (yt I)<|.nil<|.seq<|.sr<|.p I (.fa I<|zh5 _)<|.A 2 I<|.e I<|.A 1 I<|.nil<|.block<|.L [1,7,103,104] h (λv=>[(105,.d<|.int v.2)]) (λv=>[(0,xS (λn:Int=>wW .i64 n) xp v.1)]) I λ_⟨m0_53,x54⟩h=>.sA 1 I<|.K [1,7,103,104,105,106] I<|.seq<|.zvG I h (λh=>?_) λh=>?_;·refine .skip<|.seq<|.block<|.sr<|.X h I λx56 h=>.A 1 I<|.aS I<|.nil<|.region<|.A 3 I<|.mapPut (k:=x56.table) (v:=U) I I I U283 KT3 I I I I<|.nil<|.rA 2 I<|ndE h I
   ·refine .exit<|.seq<|.sr<|.p I (.fa I<|zh5 _)<|.A 2 I<|.e I<|.A 1 I<|.nil<|.block<|.L [1,7,116] h (λv=>[(117,.d<|.int v.2)]) (λv=>[(0,xS (λn:Int=>wW .i64 n) xp v.1)]) I λ_⟨m0_139,x140⟩h=>.sA 1 I<|.K [1,7,116,117,118] I<|.seq<|.zvG I h (λh=>?_) λh=>?_
    ·refine .skip<|.seq<|.block<|.S 1 I<|.mapRange I I I I U283 I I<|.nil<|.block<|.L [1,7,116,117,120] h (λv=>[]) (λv=>[(0,xS (λn:Int=>wW .i64 n) xp v.1),(2,.it 0 m0_139.clock v.2.1 v.2.2)]) I λ_⟨m0_171,m2_172,m2_173⟩h=>.seq<|.region ?_;obtain⟨hold_176,hend_177,hstep_178⟩:=zur h;refine .mapNext I I I I I I I hold_176 (λhz=>?_) λen_175 hen_175=>?_
     ·have h:=hend_177 hz;refine .A 1 I<|.nil<|.K [1,7,116,117,120,122] I<|.seq<|.zzS I<|.exit<|.rA 2 I<|ndE h I
     ·have h:=hstep_178 en_175 hen_175;refine .A 1 I<|.nil<|.K [1,7,116,117,120,122] I<|.seq<|.zzT I<|.skip<|.block<|.sr<|gK h λhn_179 h=>.p I (.entry I I I I (List.mem_filter.1 hen_175).1<|of_decide_eq_true hn_179)<|.A 1 I<|.zwY I I I I I I I I (by simp) I I Z3<|.nil<|.sr<|.p I (.fa I<|zh5 _)<|.A 2 I<|.p I (.zxe I I)<|bK h λx180 q180 h=>.p I (.callB I (zwe I) (.cons I (.d _)<|.cons I (.fn .nil<|.v<|.cons (.loc1 I (.mp I<|GMap.wfm _) I) .nil) .nil) I<|slices_ContainsFunc_LHide_api_Hide_ok _ _ _ _ (λq0 y hq=>⟨_,_,I,K246,model_judge_hidden_1_ok _ q0 _ _ _ hq⟩) _ q180)<|.A 1 I<|.nil<|.zvG I h (λh=>?_) λh=>?_;·refine .region<|.A 2 I<|.mapDel (k:=en_175.2.1) I I I U283 KT3 I I I<|.nil<|ndE h I
      ·refine .skip<|ndE h I
    ·refine .exit<|.S 1 I<|.p I (.mapLen I U283 I I)<|.A 2 I<|.nil<|.ret<|rO h I
instance model_judge_hidden_i:Kd1 206 zh vZ xp:=⟨λn t0 r h=>zgT n t0 r h⟩
instance model_Valid_ok:Kd1 162 ze4 xR xp:=⟨λn t0 r h=>.ot Tryz.func162 I Tryz.ntmps162 I λ_ _=>have:HX:=⟨⟩;have:HZ 3 0 [0] [3]:=⟨⟩;walk h⟩
theorem zj1 (n t0 r)(h:zp n t0=O r):Pure pg 112 [xR t0]<|.tup [optD zxl.enc r.1,.bool r.2]:=by
 have:HX:=⟨⟩;have:HN 20 [7,8]:=⟨⟩;have:HS 21:=⟨⟩;have:HS 54:=⟨⟩;have:HZ 7 0 [4] [7]:=⟨⟩;have:HS 10:=⟨⟩;have:HL 16 [1,4,5,6,9,12,23,24,25,32,33,34,38,39,40,48] (λv:List (List Int)×Int=>[(10,.vec 4<|xh v.1),(49,.d<|.int v.2)]) λ_ v=>[(4,.vec 22 1<|xn eB v.1)]:=⟨⟩;have:HL 13 [1,4,5,6,9,23,24,25,32,33,34,38,39] (λv:List (List Int)×Int=>[(10,.vec 4<|xh v.1),(40,.d<|.int v.2)]) λ_ v=>[(4,.vec 22 1<|xn eB v.1)]:=⟨⟩;have:HJ 29 [1,4,5,6,23,24,25,64,65,66] (λv:List Place×List Place=>[]) λH v=>[bx 0 [(7,.vec 1<|xh v.1),(8,.vec 2<|xh v.2)] H,(1,wE1 v.1),(2,wE1 v.2)]:=⟨⟩;have:HL 24 [1,4,5,6,23,24,25,64,65] (λv:List Place×List Place×Int=>[(66,.d<|.int v.2.2)]) λH v=>[bx 0 [(7,.vec 1<|xh v.1),(8,.vec 2<|xh v.2.1)] H,(1,wE1 v.1),(2,wE1 v.2.1)]:=⟨⟩;have:HL 9 [1,4,5,6,23,24,25,32,33] (λv:List (List Int)×Int=>[(7,.d<|eJ v.1),(34,.d<|.int v.2)]) λ_ _=>[]:=⟨⟩;have:HL 5 [1,4,23,24] (λv:List Place×List Place×Int=>[(25,.d<|.int v.2.2)]) λH v=>[bx 0 [(7,.vec 1<|xh v.1),(8,.vec 2<|xh v.2.1)] H,(1,wE1 v.1),(2,wE1 v.2.1)]:=⟨⟩;refine Pure.ot Tryz.func112 I Tryz.ntmps112 I λA w=>.sA 3 I<|.seq<|.S 1 I<|.xc h I (model_Valid_ok _ _) λx1 h=>.A 1 I<|.nil<|.zvG I h (λh=>?_) λh=>?_;·exact walk h
 ·refine .skip<|.S 1 I<|.p I (.build I Pl218 (.agg Zc218 (ds':=[_,_,_,_,_,_,_,.val<|.slice Y 0 0,.val<|.slice Y 0 0])<|.e<|.e<|.e<|.e<|.e<|.e<|.e<|.e .e1) I I)<|.box I I I I I (.ofD I)<|.zxt 0 7 2 221 I I<|.zxt 0 8 2 221 I I<|.A 1 I<|.nil<|.seq<|.S 2 I<|.e I<|.A 1 I<|.nil<|.block<|.L [1,4,23,24] h (λv=>[(25,.d<|.int v.2.2)]) (λv=>[(0,.box 218 [.d<|eB t0.zvu,.d<|eD t0.tables,.d<|eA t0.zvC,.d<|eE t0.constraints,.d<|eF t0.zvs,.d<|eG t0.zvq,.d<|eH t0.zvD,.vec 1<|xh v.1,.vec 2<|xh v.2.1]),(1,wE1 v.1),(2,wE1 v.2.1)]) I λ_⟨b1_452,b2_453,x454⟩h=>.sA 1 I<|.K [1,4,23,24,25,26] I<|.seq<|.zvG I h (λh=>?_) λh=>?_
  ·refine .skip<|.seq<|.block<|.S 1 I<|.X h I λx456 h=>.A 1 I<|.zwB I I I I (.agg Zc107 (ds':=[.str [],.int 0,eB [],.int 0,.int 0,.int 0])<|.e<|.e<|.o<|.e<|.e .e1) I<|.A 1 I<|.so I<|.nil<|.sr<|.p I (.zv7 [[]] I I E51 I .o1 (λ_=>I) I (enc:=eB))<|.A 1 I<|.nil<|.seq<|.S 2 I<|.e I<|.A 1 I<|.nil<|.block<|.L [1,4,5,6,23,24,25,32,33] h (λv=>[(7,.d<|eJ v.1),(34,.d<|.int v.2)]) (λv=>[]) I λ_⟨x585,x586⟩h=>.sA 1 I<|.K [1,4,5,6,7,23,24,25,32,33,34,35] I<|.seq<|.zvG I h (λh=>?_) λh=>?_
   ·refine .skip<|.seq<|.block<|.sr<|.X h I λx588 h=>.A 2 I<|.nil<|.S 1 I<|.zxP 10 1 22 I<|.nil<|.seq<|.S 1 I<|.e I<|.A 1 I<|.nil<|.block<|.L [1,4,5,6,9,23,24,25,32,33,34,38,39] h (λv=>[(10,.vec 4<|xh v.1),(40,.d<|.int v.2)]) (λv=>[(4,.vec 22 1<|xn eB v.1)]) I λ_⟨b4_629,x630⟩h=>.sA 1 I<|.K [1,4,5,6,9,10,23,24,25,32,33,34,38,39,40,41] I<|.seq<|.zvG I h (λh=>?_) λh=>?_
    ·refine .skip<|.seq<|.block<|.sr<|.X h I λx632 h=>.A 2 I<|.nil<|.S 3 I<|.X h I λx633 h=>.A 2 I<|.nil<|.block<|.L [1,4,5,6,9,12,23,24,25,32,33,34,38,39,40,48] h (λv=>[(10,.vec 4<|xh v.1),(49,.d<|.int v.2)]) (λv=>[(4,.vec 22 1<|xn eB v.1)]) I λ_⟨b4_644,x645⟩h=>.sA 1 I<|.K [1,4,5,6,9,10,12,23,24,25,32,33,34,38,39,40,48,49,50] I<|.seq<|.zvG I h (λh=>?_) λh=>?_;·refine .skip<|.seq<|.block<|.sA 2 I<|.region<|.A 2 I<|bK h λx647 q647 h=>.clone (enc:=xt) I I I I (zwe I) Tryz.func163 I I I I E22 I (λ_=>I) (λ_=>I) q647 I I<|.A 1 I<|.p I (.zwo [_] I I E22 I (λ_=>I) I (enc:=xt))<|bK h λx648 q648 h=>.app I I I I I I I I E22 I (λ_=>I) q648<|.zv9 [5] (.cons (t:=57) I (.vec (zw9 I) I<|by simp) .nil)<|.p I (.zwo [_] I I E51 I (λ_=>I) I (enc:=eB))<|bK h λx649 q649 h=>.app I I I I I I I I E51 I (λ_=>I) q649<|.A 1 I<|.nil<|.rA 2 I<|ndE h I
     exact walk h
    exact walk h
   exact walk h
  ·refine .exit<|.sA 3 I<|.ret ?_;cases h;exact ztC I I (.loc I<|.v<|.v<|.v<|.v<|.v<|.v<|.v<|.cons (.vec I<|by simp)<|.cons (.vec I<|by simp) .nil)<|.d _
instance symmetry_layout_valid_ok:Kd2 113 zbE (λt0=>.ref<|zxl.enc t0) wz xp:=⟨λn t0 t1 r h=>.ot Tryz.func113 I Tryz.ntmps113 I λ_ _=>walk h⟩
theorem zjm:Kx2 51 zdp xR wz .bool:=λn t0 t1 r h=>by
 refine .ot Tryz.func51 I Tryz.ntmps51 I λA w=>.sA 3 I<|.S 1 I<|.xc h I (zj1 _ _) λx1 h=>.A 5 I<|.nil<|.seq<|.plain 6 I<|.A 2 I<|gK h λc3 h=>gK h λc4 h=>.jA 3 ((zbE n (x1.1.getD J) t1).getD J) I (λb2=>?_) ?_;·refine .A 2 I<|.q I (.callLe I (zwe I) I (.cons (.ofEq<|zuh<|zwh<|impT c3 b2) .e1)<|symmetry_layout_valid_ok _ _ _ _<|zwh<|impT c4 b2)<|.nil I
 refine .nil<|.A 1 I<|.nil<|.K [4] I<|.ret<|rO h I
instance symmetry_Valid_i:Kd2 51 zdp xR wz xp:=⟨λn t0 t1 r h=>zjm n t0 t1 r h⟩
instance model_ranges_ok:Kd2 114 zgU xR xp<|slE 2 xy:=⟨λn t0 t1 r h=>.ot Tryz.func114 I Tryz.ntmps114 I λ_ _=>walk h⟩
instance model_Strict_ok:Kd1 52 zfm xR<|slE 2 xy:=⟨λn t0 r h=>.ot Tryz.func52 I Tryz.ntmps52 I λ_ _=>walk h⟩
instance condition_added_ok:Kd2 66 zS wR xt xt:=⟨λn t0 t1 r h=>.ot Tryz.func66 I Tryz.ntmps66 I λ_ _=>have:HL 2 [1,9,10] (λv:Int=>[(11,.d<|.int v)]) λ_ _=>[]:=⟨⟩;walk h⟩
instance condition_change_ok:Kd2 53 zJ wR xM xt:=⟨λn t0 t1 r h=>.ot Tryz.func53 I Tryz.ntmps53 I λ_ _=>have:HL 3 [2,9,10] (λv:Int×Int=>[(5,.d<|.int v.1),(11,.d<|.int v.2)]) λ_ _=>[]:=⟨⟩;walk h⟩
instance slices_Index_Lint_int_ok:Kd2 115 zaB (slE 1 xt) xt xt:=⟨λn t0 t1 r h=>.ot Tryz.func115 I Tryz.ntmps115 I λ_ _=>have:HL 2 [0,1,7] (λv:Int=>[(8,.d<|.int v)]) λ_ _=>[]:=⟨⟩;walk h⟩
instance slices_Contains_Lint_int_ok:Kd2 54 zaR (slE 1 xt) xt xp:=⟨λn t0 t1 r h=>.ot Tryz.func54 I Tryz.ntmps54 I λ_ _=>walk h⟩
instance condition_less_1_ok:Kd2 116 zeC xt (λt1=>.ref<|.int t1) xt:=⟨λn t0 t1 r h=>.ot Tryz.func116 I Tryz.ntmps116 I λ_ _=>walk h⟩
theorem zi0 (n:Nat)(t0:Int):Pure pg 57 [.int t0]<|.fn (.func 116) [] [.ref<|.int t0]:=by refine Pure.ot Tryz.func57 I Tryz.ntmps57 I λA w=>.sA 2 I<|.sr<|.p I (.makeFunc I I)<|.A 1 I<|.nil<|.ret<|zgt I<|.d _
instance condition_less_i:Kr1 57 xt λt=>.fn (.func 116) [] [.ref<|.int t]:=⟨λx=>zi0 0 x⟩
theorem zhk (n t0)(t1:Int->Option Int)(t2:Int->Option Int)(F1:D)(hF1:∀(q0:Int)(y:Int),t1 q0=O y->Dyn pg F1 [.int q0] (.int y))(F2:D)(hF2:∀(q0:Int)(y:Int),t2 q0=O y->Dyn pg F2 [.int q0] (.int y))(r)(h:zV n t0 t1 t2=O r):Pure pg 55 [xM t0,F1,F2]<|xM r:=by
 refine Pure.ot Tryz.func55 I Tryz.ntmps55 I λA w=>.S 1 I<|.zwB I I I I (.agg Zc55 (ds':=[eI [],.int 0])<|.o .e1) I<|.nil<|.S 3 I<|bK h λx1 q1 h=>.p I (.dyn I I I<|hF2 _ _ q1)<|.p I (.build I Pl55 (.agg Zc55 (ds':=[.val<|.slice Y 0 0,_])<|.e .e1) I I)<|.zwB I I I I (.agg Zc55 (ds':=[.val<|.slice Y 0 0,.int 0])<|.e .e1) I<|.zxt 1 0 2 109 I I<|.so I<|.zxt 1 0 2 109 I I<|.nil<|.seq<|.S 2 I<|.e I<|.A 1 I<|.nil<|.K [1,6,7,16,17,18] I<|.block<|.L [1,6,7,16,17] h (λv=>[(18,.d<|.int v.2)]) (λv=>[(1,.box 55 [.vec 3<|xh v.1,.d<|.int x1]),(3,.vec 109 2<|xn wQ v.1)]) I λ_⟨b3_12,x13⟩h=>.sA 1 I<|.K [1,6,7,16,17,18,19] I<|.seq<|.zvG I h (λh=>?_) λh=>?_;·refine .skip<|.seq<|.block<|.sr<|.X h I λx15 h=>.A 1 I<|.aS I<|.nil<|.dr 10<|.A 7 I<|bK h λx16 q16 h=>.p I (.dyn I I I<|hF1 _ _ q16)<|.p I (.B (wQ ⟨x15.cell,x16⟩) Zc109 I)<|.p I (.zwo [_] I I E53 I (λ_=>I) I (enc:=wQ))<|.nil<|bK h λx17 q17 h=>.app I I I I I I I I E53 I (λ_=>I) q17<|.A 1 I<|.store I I I I I I (.cons (.vec I<|by simp) .nil) C53 I (yt I)<|.nil<|.K [1,6,7,16,17,18] I<|.rA 2 I<|ndE h I
 ·refine .exit<|.sr<|.p I (.zxi I I I Y55 (yt I) I)<|.store I I I I I I (.cons (.vec I<|by simp)<|.cons (.d I) .nil) C55 I (yt I)<|.nil<|.ret ?_;cases h;exact zrV I I Y55<|.cons (.vec I<|by simp) .v1
instance condition_changed_i:Kf3 55 zV xM xt xt xM:=⟨λn t0 t1 F hF t2 G hG r h=>zhk n t0 t1 t2 F hF G hG r h⟩
instance condition_same_ok:Kd1 56 zbw xt xt:=⟨λn t0 r h=>.ot Tryz.func56 I Tryz.ntmps56 I λ_ _=>walk h⟩
instance condition_System_1_1_ok:Kd2 61 zav xt (λt1=>.ref<|.int t1) xt:=⟨λn t0 t1 r h=>.ot Tryz.func61 I Tryz.ntmps61 I λ_ _=>walk h⟩
instance condition_negated_ok:Kd1 60 za1 xt xt:=⟨λn t0 r h=>.ot Tryz.func60 I Tryz.ntmps60 I λ_ _=>walk h⟩
instance condition_graph_ok:Kf2 62 zH wu xt xt zvP.enc:=⟨λn t0 t1 F hF r h=>.ot Tryz.func62 I Tryz.ntmps62 I λ_ _=>have:HX:=⟨⟩;have:HN 11 [2]:=⟨⟩;have:HB 5 [2]:=⟨⟩;have:HC 0 1 2 1 3:=⟨⟩;have:HL 3 [1,2,4,5,16] (λv:List Int×Int=>[(17,.d<|.int v.2)]) λH v=>[bx 1 [(2,.vec 3<|xh v.1)] H,(3,.vec 3 1<|xn xt v.1)]:=⟨⟩;walk h⟩
instance condition_System_2_ok:Kd1 63 za7 xt xt:=⟨λn t0 r h=>.ot Tryz.func63 I Tryz.ntmps63 I λ_ _=>walk h⟩
instance condition_raised_ok:Kd2 64 zD wR wu<|slE 1 xt:=⟨λn t0 t1 r h=>.ot Tryz.func64 I Tryz.ntmps64 I λ_ _=>have:HS 5:=⟨⟩;have:HJ 7 [2,3,11,12] (λv:List Int=>[(5,.vec 0<|xh v)]) λ_ v=>[(0,.vec 3 1<|xn xt v)]:=⟨⟩;have:HL 3 [2,3,11] (λv:List Int×Int=>[(5,.vec 0<|xh v.1),(12,.d<|.int v.2)]) λ_ v=>[(0,.vec 3 1<|xn xt v.1)]:=⟨⟩;walk h⟩
instance condition_System_3_ok:Kd2 65 zR xt (λt1=>.ref<|wR t1) xt:=⟨λn t0 t1 r h=>.ot Tryz.func65 I Tryz.ntmps65 I λ_ _=>walk h⟩
instance condition_System_4_ok:Kd2 67 zai xt (λt1=>.ref<|wR t1) xt:=⟨λn t0 t1 r h=>.ot Tryz.func67 I Tryz.ntmps67 I λ_ _=>walk h⟩
instance condition_cases_1_ok:Kd4 117 za0 xt (λt1=>.ref<|wR t1) (λt2=>.ref<|wu t2) (λt3=>.ref<|wR t3) xt:=⟨λn t0 t1 t2 t3 r h=>.ot Tryz.func117 I Tryz.ntmps117 I λ_ _=>walk h⟩
instance digraph_open_ok:Kd2 165 zca xt (slE 1 xp) λr=>.tup [zwR.enc r.1,.bool r.2]:=⟨λn t0 t1 r h=>.ot Tryz.func165 I Tryz.ntmps165 I λ_ _=>walk h⟩
instance digraph_graph_has_ok:Kd3 211 za2 zwR.enc xt xt xp:=⟨λn t0 t1 t2 r h=>.ot Tryz.func211 I Tryz.ntmps211 I λ_ _=>walk h⟩
section
variable[Drw]
theorem zmk:Kx1 214 zc8 eB .int:=λn t0 r h=>.ot Tryz.func214 I Tryz.ntmps214 I λA w=>.sA 1 I<|.sA 1 I<|.seq<|.S 1 I<|.e I<|.A 1 I<|.nil<|.block<|.L [3,6,7] h (λv=>[(8,.d<|.int v)]) (λv=>[]) I λ_ x5 h=>.sA 1 I<|.seq<|.zvG I h (λh=>.skip<|.seq<|.block<|.sr<|.X h I λx7 h=>.A 2 I<|.nil<|.sA 3 I<|.zvG I h (λh=>.sA 2 I<|.ret<|rO h I) λh=>.skip<|.rA 2 I<|ndE h I) λh=>.exit<|.sA 2 I<|.ret<|rO h I
end
section
variable[Drw]
theorem zic:Kx2 168 zcu eB eB .int:=λn t0 t1 r h=>.ot Tryz.func168 I Tryz.ntmps168 I λA w=>.sA 1 I<|.S 1 I<|.e I<|.A 1 I<|.e I<|.xc h I (zfh _ _ _) λx1 h=>.A 2 I<|.xc h I (zdj _ _ _) λx2 h=>.p I (.zwo [_,_] I I E22 I (λ_=>I) I (enc:=xt))<|.xc h I (zmk _ _) λx3 h=>.A 1 I<|.nil<|.ret<|rO h I
end
end
