/- Part of the proof of one law of the seat. -/
import Derived.Test.YtipkniadbkndfaaGreatDoorSm05
set_option linter.all false
set_option maxRecDepth 100000
set_option maxHeartbeats 40000000
namespace Go.Proofs.YtipkniadbkndfaaGreatDoor
open Go Go.RowKit
open Option renaming some->O
open Decidable renaming decide->Z
open Bool renaming false->M
open Inhabited renaming default->J
open List renaming length->xh,map->xn
open D renaming bool->xp,int->xt,str->wL
open Range renaming enc->xy
open Model renaming enc->xR
open GMap renaming blk->xS
open Step renaming enc->wA
open Term renaming enc->wQ
open Go.Value renaming string->wS,int->wW
section
set_option maxRecDepth 100000
set_option maxHeartbeats 40000000
instance iEqS83:EqS 83 xy inferInstance:=⟨_,SE83,Range.vals,λ_=>I,λ_=>I,SQ83⟩
instance iEqS109:EqS 109 wQ inferInstance:=⟨_,SE109,Term.vals,λ_=>I,λ_=>I,SQ109⟩
instance iEqS149:EqS 149 wA inferInstance:=⟨_,SE149,Step.vals,λ_=>I,λ_=>I,SQ149⟩
instance iEqS243:EqS 243 zwg.enc inferInstance:=⟨_,SE243,zwg.vals,λ_=>I,λ_=>I,SQ243⟩
instance iHM278:HM 278 (λl:List UInt8=>wS ⟨l.toArray⟩) xp false:=⟨9,4,U278,KT9,.val Zv4⟩
instance iHM283:HM 283 (λn:Int=>wW .i64 n) xp false:=⟨3,4,U283,KT3,.val Zv4⟩
instance iCln73:Cln 73 80:=⟨_,Tryz.func73,I,I,I⟩
instance iCln58:Cln 58 74:=⟨_,Tryz.func58,I,I,I⟩
instance law23_example_ok:Kd0 23 zik xR:=⟨λn r h=>.ot Tryz.func23 I Tryz.ntmps23 I λ_ _=>walk h⟩
instance slices_IndexFunc_Lint_int_ok:Kf2 189 zQ (slE 1 xt) xt xp xt:=⟨λn t0 t1 F hF r h=>.ot Tryz.func189 I Tryz.ntmps189 I λ_ _=>have:HL 2 [0,1,7] (λv:Int=>[(8,.d<|.int v)]) λ_ _=>[]:=⟨⟩;walk h⟩
instance slices_ContainsFunc_Lint_int_ok:Kf2 149 zt (slE 1 xt) xt xp xp:=⟨λn t0 t1 F hF r h=>.ot Tryz.func149 I Tryz.ntmps149 I λ_ _=>walk h⟩
instance cells_within_ok:Kd3 235 zen xt xt xt xp:=⟨λn t0 t1 t2 r h=>.ot Tryz.func235 I Tryz.ntmps235 I λ_ _=>walk h⟩
instance cells_sized_1_ok:Kd1 271 zf7 xt xp:=⟨λn t0 r h=>.ot Tryz.func271 I Tryz.ntmps271 I λ_ _=>walk h⟩
instance cells_sized_ok:Kd1 233 zf6 (slE 1 xt) xp:=⟨λn t0 r h=>.ot Tryz.func233 I Tryz.ntmps233 I λ_ _=>walk h⟩
instance slices_Index_Lbool_bool_ok:Kd2 292 zag (slE 1 xp) xp xt:=⟨λn t0 t1 r h=>.ot Tryz.func292 I Tryz.ntmps292 I λ_ _=>have:HL 2 [0,1,7] (λv:Int=>[(8,.d<|.int v)]) λ_ _=>[]:=⟨⟩;walk h⟩
instance slices_Contains_Lbool_bool_ok:Kd2 270 zb5 (slE 1 xp) xp xp:=⟨λn t0 t1 r h=>.ot Tryz.func270 I Tryz.ntmps270 I λ_ _=>walk h⟩
instance cells_all_ok:Kd1 232 zgA (slE 1 xp) xp:=⟨λn t0 r h=>.ot Tryz.func232 I Tryz.ntmps232 I λ_ _=>walk h⟩
theorem zg3 (n t0)(t1:Int->Option Bool)(F1:D)(hF1:∀(q0:Int)(y:Bool),t1 q0=O y->Dyn pg F1 [.val<|.int .i32 q0] (.bool y))(r)(h:zdZ n t0 t1=O r):Pure pg 312 [.str t0,F1]<|eA r:=by
 refine Pure.ot Tryz.func312 I Tryz.ntmps312 I λA w=>.sr<|.p I (.nilS 1 (α:=List UInt8) wL I)<|.nil<|.seq<|.region ?_;cases h
instance strings_FieldsFunc_i:Kf2 312 zdZ (λt0=>.str t0) (λq0=>.val<|.int .i32 q0) (λy=>.bool y) λr=>eA r:=⟨λn t0 t1 F hF r h=>zg3 n t0 t1 F hF r h⟩
theorem ziR (n t0 r)(h:zff n t0=O r):Pure pg 313 [.val<|.int .i32 t0]<|.bool r:=by
 refine Pure.ot Tryz.func313 I Tryz.ntmps313 I λA w=>.sA 1 I<|.seq<|.S 1 I<|.p I (.conv I U21 U296 I)<|.A 1 I<|.nil<|.zvG I h (λh=>?_) λh=>?_
 ·refine .seq<|.sA 1 I<|.block<|.xf [] h (λv=>[(7,.d<|.bool v)]) (λv=>[]) I (λk_2 h=>?_) λx1 h=>?_
  ·refine .sA 2 I<|.zvG I h (λh=>?_) λh=>?_;·refine .skip<|ndE h I
   ·refine .sA 2 I<|.zvG I h (λh=>?_) λh=>?_;·refine .skip<|ndE h I
    ·refine .sA 2 I<|.zvG I h (λh=>?_) λh=>?_;·refine .skip<|ndE h I
     ·refine .sA 2 I<|.zvG I h (λh=>?_) λh=>?_;·refine .skip<|ndE h I
      ·refine .sA 2 I<|.zvG I h (λh=>?_) λh=>?_;·refine .skip<|ndE h I
       ·refine .sA 2 I<|.K [6,7] I<|.zvG I h (λh=>?_) λh=>?_;·refine .skip<|ndE h I
        ·refine .sA 2 I<|.zvG I h (λh=>?_) λh=>?_;·refine .skip<|ndE h I
         ·refine .rA 2 I<|ndE h I
  ·refine .zvG I h (λh=>?_) λh=>?_;·refine .sA 1 I<|.K [2] I<|.ret<|rO h I
   ·refine .skip<|.K [] I<|.sA 1 I<|.ret<|rO h I
 ·refine .skip<|.seq<|.region ?_;cases h
instance unicode_IsSpace_i:Kd1 313 zff (λt0=>.val<|.int .i32 t0) xp:=⟨λn t0 r h=>ziR n t0 r h⟩
theorem zjl (n t0 r)(h:zbe n t0=O r):Pure pg 308 [.str t0]<|eA r:=by
 have:HL 27 [0,9,10] (λv:Int=>[(12,.d<|.int v)]) λ_ _=>[]:=⟨⟩;have:HJ 32 [] (λv:List<|List UInt8=>[(9,.vec 0<|xh v)]) λ_ v=>[(0,.vec 9 1<|xn wL v)]:=⟨⟩;have:HL 21 [0] (λv:List (List UInt8)×Int×Int×Int=>[(9,.vec 0<|xh v.1),(10,.d<|.int v.2.1),(11,.d<|.int v.2.2.1),(12,.d<|.int v.2.2.2)]) λ_ v=>[(0,.vec 9 1<|xn wL v.1)]:=⟨⟩;have:HL 18 [0,9,10] (λv:Int=>[(12,.d<|.int v)]) λ_ _=>[]:=⟨⟩;have:HL 5 [0] (λv:Int×Int×Int×Int=>[(3,.d<|.int v.1),(4,.d<|.int v.2.1),(5,.d<|.val<|.int .u8 v.2.2.1),(6,.d<|.int v.2.2.2)]) λ_ _=>[]:=⟨⟩;refine Pure.ot Tryz.func308 I Tryz.ntmps308 I λA w=>.sr<|.p I (.nilS 1 (α:=List UInt8) wL I)<|.nil<|.sA 1 I<|.sA 1 I<|.sA 1 I<|.seq<|.sA 1 I<|.block<|.L [0] h (λv=>[(3,.d<|.int v.1),(4,.d<|.int v.2.1),(5,.d<|.val<|.int .u8 v.2.2.1),(6,.d<|.int v.2.2.2)]) (λv=>[]) I λ_⟨x13,x14,x15,x16⟩h=>.seq<|.S 2 I<|.p I (.zxI I U9 I)<|.A 1 I<|.nil<|.K [0,3,4,5,6,16] I<|.zvG I h (λh=>?_) λh=>?_;·refine .skip<|.seq<|.block<|.S 2 I<|bK h λx18 q18 h=>.p I (.sidx I I I U9 q18)<|.A 1 I<|.nil<|.S 2 I<|.p I (.bor I I I)<|.A 1 I<|.nil<|.S 1 I<|bK h λx19 q19 h=>.p I (.idxG (l:=tab0) I I I gm0 U336 S5 tl0 q19)<|.A 1 I<|.p I (.conv I U5 U3 I)<|.A 1 I<|.nil<|.S 3 I<|.p I (.bnot I I)<|.p I (.band I I I)<|.A 2 I<|.nil<|.K [0,3,5,6,8] I<|.rA 2 I<|.rA 3 I<|ndE h I
 ·refine .exit<|.seq<|.sA 2 I<|.zvG I h (λh=>?_) λh=>?_;·exact walk h
  ·refine .skip<|.S 1 I<|bK h λx21 q21 h=>.zxX (enc:=wL) (z:=([]:List UInt8)) I I I I E24 I I I (.val Zv9) q21<|.A 1 I<|.nil<|.sA 1 I<|.sA 1 I<|.sA 1 I<|.seq<|.block<|.L [0,9,10] h (λv=>[(12,.d<|.int v)]) (λv=>[]) I λ_ x30 h=>.seq<|.seq<|.plain 12 I<|.A 2 I<|.p I (.zxI I U9 I)<|.A 2 I<|gK h λc33 h=>gK h λc34 h=>.jA 6 ((idx tab0<|(sidx t0 x30).getD J).getD J !=0) I (λb32=>?_) ?_;·refine .A 2 I<|.q I (.sidx I I I U9<|zwh<|impT c33 b32)<|.q I (.idxG (l:=tab0) I I I gm0 U336 S5 tl0<|zwh<|impT c34 b32)<|.A 2 I<|.nil I
   refine .nil<|.nil<|.K [0,9,10,12,53] I<|.zvG I h (λh=>?_) λh=>?_;·exact walk h
   ·refine .exit<|.sA 2 I<|.seq<|.block<|.L [0] h (λv=>[(9,.vec 0<|xh v.1),(10,.d<|.int v.2.1),(11,.d<|.int v.2.2.1),(12,.d<|.int v.2.2.2)]) (λv=>[(0,.vec 9 1<|xn wL v.1)]) I λ_⟨b0_79,x80,x81,x82⟩h=>.seq<|.S 2 I<|.p I (.zxI I U9 I)<|.A 1 I<|.nil<|.K [0,9,10,11,12,60] I<|.zvG I h (λh=>?_) λh=>?_
    ·refine .skip<|.block<|.seq<|.S 2 I<|bK h λx84 q84 h=>.p I (.sidx I I I U9 q84)<|bK h λx85 q85 h=>.p I (.idxG (l:=tab0) I I I gm0 U336 S5 tl0 q85)<|.A 2 I<|.nil<|.zvG I h (λh=>?_) λh=>?_;·exact walk h
     ·refine .skip<|.S 5 I<|bK h λx86 q86 h=>.p I (.zyI I I I I U9 q86)<|bK h λx87 q87 h=>.p I (.idxV I I I I I U24 S9 q87)<|bK h λb0_88 hb0_88 h=>.zwQ (enc:=wL) I I I I I I I I I C9 hb0_88<|.zxj 9 I (zcp hb0_88)<|.zxj 69 I (zcp hb0_88)<|.nil<|.sA 3 I<|.K [0,9,10,12] I<|.sA 3 I<|.seq<|.block<|.L [0,9,10] h (λv=>[(12,.d<|.int v)]) (λv=>[]) I λ_ x97 h=>.seq<|.seq<|.plain 12 I<|.A 2 I<|.p I (.zxI I U9 I)<|.A 2 I<|gK h λc100 h=>gK h λc101 h=>.jA 6 ((idx tab0<|(sidx t0 x97).getD J).getD J !=0) I (λb99=>?_) ?_;·refine .A 2 I<|.q I (.sidx I I I U9<|zwh<|impT c100 b99)<|.q I (.idxG (l:=tab0) I I I gm0 U336 S5 tl0<|zwh<|impT c101 b99)<|.A 2 I<|.nil I
      exact walk h
    exact walk h
instance strings_Fields_i:Kd1 308 zbe wL<|slE 1 wL:=⟨λn t0 r h=>zjl n t0 r h⟩
instance lexer_keywords_ok:Kd0 298 zbU λr=>GMap.dat (λl:List UInt8=>wS ⟨l.toArray⟩) xp r:=⟨λn r h=>.ot Tryz.func298 I Tryz.ntmps298 I λ_ _=>have:HL 3 [1,5,6] (λv:GMap (List UInt8) Bool×Int=>[(7,.d<|.int v.2)]) λ_ v=>[(0,xS (λl:List UInt8=>wS ⟨l.toArray⟩) xp v.1)]:=⟨⟩;walk h⟩
instance lexer_white_ok:Kd1 306 zcl (λt0=>.val<|.int .u8 t0) xp:=⟨λn t0 r h=>.ot Tryz.func306 I Tryz.ntmps306 I λ_ _=>walk h⟩
instance lexer_run_ok:Kf2 302 zc1 wL (λq0=>.val<|.int .u8 q0) xp xt:=⟨λn t0 t1 F hF r h=>.ot Tryz.func302 I Tryz.ntmps302 I λ_ _=>have:HL 2 [0,1] (λv:Int=>[(5,.d<|.int v)]) λ_ _=>[]:=⟨⟩;walk h⟩
instance lexer_skip_1_ok:Kd1 309 zgP (λt0=>.val<|.int .u8 t0) xp:=⟨λn t0 r h=>.ot Tryz.func309 I Tryz.ntmps309 I λ_ _=>walk h⟩
instance lexer_skip_ok:Kd1 300 zda wL xt:=⟨λn t0 r h=>.ot Tryz.func300 I Tryz.ntmps300 I λ_ _=>have:HL 2 [0] (λv:Int=>[(3,.d<|.int v)]) λ_ _=>[]:=⟨⟩;walk h⟩
instance lexer_letter_ok:Kd1 301 zc0 (λt0=>.val<|.int .u8 t0) xp:=⟨λn t0 r h=>.ot Tryz.func301 I Tryz.ntmps301 I λ_ _=>walk h⟩
instance lexer_digit_ok:Kd1 304 zbY (λt0=>.val<|.int .u8 t0) xp:=⟨λn t0 r h=>.ot Tryz.func304 I Tryz.ntmps304 I λ_ _=>walk h⟩
instance lexer_part_ok:Kd1 303 zjf (λt0=>.val<|.int .u8 t0) xp:=⟨λn t0 r h=>.ot Tryz.func303 I Tryz.ntmps303 I λ_ _=>walk h⟩
instance internal_stringslite_HasPrefix_ok:Kd2 314 zbB wL wL xp:=⟨λn t0 t1 r h=>.ot Tryz.func314 I Tryz.ntmps314 I λ_ _=>walk h⟩
instance strings_HasPrefix_ok:Kd2 310 zdf wL wL xp:=⟨λn t0 t1 r h=>.ot Tryz.func310 I Tryz.ntmps310 I λ_ _=>walk h⟩
theorem zdO (n t0 t1 r)(h:za8 n t0 t1=O r):Pure pg 315 [.str t0,.val<|.int .u8 t1]<|.int r:=by refine Pure.ot Tryz.func315 I Tryz.ntmps315 I λA w=>.sA 1 I<|.S 2 I<|.p I (.idxByte I IB317 I I)<|.A 1 I<|.nil<|.ret<|rO h I
instance internal_stringslite_IndexByte_i:Kd2 315 za8 wL (λt1=>.val<|.int .u8 t1) xt:=⟨λn t0 t1 r h=>zdO n t0 t1 r h⟩
instance strings_IndexByte_ok:Kd2 311 zcz wL (λt1=>.val<|.int .u8 t1) xt:=⟨λn t0 t1 r h=>.ot Tryz.func311 I Tryz.ntmps311 I λ_ _=>walk h⟩
theorem ze1:Kx1 305 zbu .str .int:=λn t0 r h=>by
 refine .ot Tryz.func305 I Tryz.ntmps305 I λA w=>.sA 1 I<|.seq<|.sr<|.p I (.zwo [_,_,_,_,_] I I E24 I (λ_=>I) I (enc:=wL))<|.e I<|.A 1 I<|.nil<|.block<|.L [0,5,6] h (λv=>[(7,.d<|.int v)]) (λv=>[]) I λ_ x7 h=>.sA 1 I<|.seq<|.zvG I h (λh=>?_) λh=>?_
 ·refine .skip<|.seq<|.block<|.sr<|.X h I λx9 h=>.A 2 I<|.nil<|.S 2 I<|.xc h I (strings_HasPrefix_ok _ _ _) λx10 h=>.nil<|.zvG I h (λh=>?_) λh=>?_;·refine .sA 1 I<|.ret<|rO h I
  ·refine .skip<|.rA 2 I<|ndE h I
 ·refine .exit<|.seq<|.seq<|.plain 8 I<|.A 1 I<|.p I (.zAi I I I)<|.A 1 I<|gK h λc12 h=>gK h λc13 h=>.jA 4 (Z<|0<=(zcz n [60,62,61,43,45,42,40,41,123,125,44,58,59]<|(sidx t0 0).getD J).getD J) I (λb11=>?_) ?_;·refine .A 1 I<|.q I (.sidx I I I U9<|zwh<|impT c12 b11)<|.q I (.call I (zwe I) I<|strings_IndexByte_ok _ _ _ _<|zwh<|impT c13 b11)<|.A 1 I<|.nil I
  refine .nil<|.nil<|.zvG I h (λh=>?_) λh=>?_;·refine .sA 1 I<|.ret<|rO h I
  ·refine .skip<|.sA 1 I<|.ret<|rO h I
instance lexer_symbol_i:Kd1 305 zbu wL xt:=⟨λn t0 r h=>ze1 n t0 r h⟩
instance lexer_begins_ok:Kd1 307 zdF wL xp:=⟨λn t0 r h=>.ot Tryz.func307 I Tryz.ntmps307 I λ_ _=>walk h⟩
theorem zip (n:Nat)(t1:List UInt8)(t2:GMap (List UInt8) Bool)(F0:D)(C:Ctx)(hC:C.n=93)(hG:C.gn=0)(Q0:Exit->St->Prop)(r:Token)(h:zaH n t1 t2=O r)(hY:∀(Q:Exit->St->Prop)(T:List<|Nat×V)(H:List Blk)(j:Nat),look 0 T=O (.d F0)->look 5 T=O (.loc j 0)->H[j]?=O (.box 271<|V.zvR<|.d<|Token.enc r)->Tri pg C tokX Q ⟨T,H⟩):Tri pg C (zh8 pg 299) Q0 ⟨params 0 [F0,.ref<|.str t1,.ref<|GMap.dat (λl:List UInt8=>wS ⟨l.toArray⟩) xp t2],[]⟩:=by
 obtain⟨A0,own0,w0,n0,esc,gh,gn⟩:=C;simp only at hC hG;subst hC;subst hG;rw[zcV Tryz.func299 I];refine .sA 1 I<|.block<|.L [0,1,2,4] h (λv=>[]) (λv=>[]) I λ_ v h=>.block<|.S 4 I<|bK h λx45 q45 h=>.p I (.zyH I I I U9 q45)<|.xc h I (lexer_skip_ok _ _) λx46 h=>.A 1 I<|.p I (.B (Token.enc ⟨0,0,zvp 0 x46,0⟩) Zc271 I)<|.zwB I I I I (.agg Zc271 (ds':=[.int 0,.int 0,.int 0,.int 0])<|.e<|.e<|.e .e1) I<|.so I<|.nil<|.K [0,1,2,5] I<|.S 3 I<|bK h λx47 q47 h=>.p I (.zyH I I I U9 q47)<|.A 1 I<|.nil<|.sA 1 I<|.xf [0,1,2,5] h (λv=>[(7,.d<|.int v.2)]) (λv=>[(0,.box 271 [.d<|.int v.1,.d<|.int 0,.d<|.int<|zvp 0 x46,.d<|.int 0])]) I (λk_50 h=>?_) λv h=>?_
 ·refine .block<|.S 1 I<|.p I (.zzo I I I)<|.A 1 I<|.nil<|.zvG I h (λh=>?_) λh=>?_;·refine .skip<|ndE h I
  ·refine .S 1 I<|bK h λx51 q51 h=>.p I (.sidx I I I U9 q51)<|.xc h I (lexer_letter_ok _ _) λx52 h=>.A 1 I<|.nil<|.zvG I h (λh=>?_) λh=>?_
   ·refine .S 1 I<|.xc h I (lexer_run_ok _ _ _ _ λq0 y hq=>⟨_,_,I,K303,lexer_part_ok _ q0 _ hq⟩) λx53 h=>.A 2 I<|.so I<|.nil<|.K [0,1,2,5,6,7] I<|.seq<|.dr 5<|.A 3 I<|bK h λx54 q54 h=>.p I (.zzV I I I U9 q54)<|.p I (.zz7 (ke:=λl:List UInt8=>wS ⟨l.toArray⟩) (ve:=xp) I U278 KT9 I I (z:=(M:Bool))<|.val Zv4)<|.nil<|.nil<|.zvG I h (λh=>?_) λh=>?_;·refine .region<|.A 1 I<|.so I<|.nil<|ndE h I
    ·refine .skip<|ndE h I
   ·refine .S 1 I<|bK h λx55 q55 h=>.p I (.sidx I I I U9 q55)<|.xc h I (lexer_digit_ok _ _) λx56 h=>.A 1 I<|.nil<|.K [0,1,2,5,6,63] I<|.zvG I h (λh=>?_) λh=>?_;·refine .region<|.A 1 I<|.xc h I (lexer_run_ok _ _ _ _ λq0 y hq=>⟨_,_,I,K304,lexer_digit_ok _ q0 _ hq⟩) λx57 h=>.A 2 I<|.so I<|.nil<|ndE h I
    ·refine .S 1 I<|.xc h I (ze1 _ _) λx58 h=>.A 2 I<|.nil<|.zvG I h (λh=>?_) λh=>?_;·refine .region<|.A 1 I<|.xc h I (ze1 _ _) λx59 h=>.A 2 I<|.so I<|.nil<|ndE h I
     ·refine .S 1 I<|.so I<|.nil<|.sA 1 I<|.block<|.L [0,1,2,5,6] h (λv=>[(7,.d<|.int v)]) (λv=>[]) I λ_ x78 h=>.seq<|.seq<|.plain 24 I<|.A 2 I<|.p I (.zxI I U9 I)<|.A 2 I<|gK h λc81 h=>gK h λc82 h=>.jA 5 (!(zcl n<|(sidx x47 x78).getD J).getD J) I (λb80=>?_) ?_;·refine .A 2 I<|.q I (.sidx I I I U9<|zwh<|impT c81 b80)<|.q I (.call I (zwe I) I<|lexer_white_ok _ _ _<|zwh<|impT c82 b80)<|.A 1 I<|.nil I
      refine .A 1 I<|gK h λc84 h=>.jA 4 ((sidx x47 x78).getD J !=35) I (λb83=>?_) ?_;·refine .A 2 I<|.q I (.sidx I I I U9<|zwh<|impT c84 b83)<|.A 1 I<|.nil I
      refine .A 1 I<|gK h λc86 h=>gK h λc87 h=>.jA 5 (!(zdF n<|(cut x47 x78 (x47.length:Int)).getD J).getD J) I (λb85=>?_) ?_;·refine .A 2 I<|.q I (.zyH I I I U9<|zwh<|impT c86 b85)<|.q I (.call I (zwe I) I<|lexer_begins_ok _ _ _<|zwh<|impT c87 b85)<|.A 1 I<|.nil I
      refine .nil<|.nil<|.K [0,1,2,5,6,7,44] I<|.zvG I h (λh=>?_) λh=>?_;·refine .skip<|.seq<|.block<|.skip<|.rA 3 I<|ndE h I
      ·refine .exit<|ndE h I
 ·obtain⟨c0_0_48,x49⟩:=v;refine .S 5 I<|.so I<|.nil<|.K [0,1,2,5] I<|.sA 3 I ?_;cases h;refine hY _ _ _ 0 ?_ ?_ ?_;all_goals rfl
end
