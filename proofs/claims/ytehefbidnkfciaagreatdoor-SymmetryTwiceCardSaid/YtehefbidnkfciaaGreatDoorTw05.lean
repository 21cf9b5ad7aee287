/- Part of the proof of one law of the seat. -/
import Derived.Test.YtehefbidnkfciaaGreatDoorTw04
set_option linter.unusedVariables false
set_option linter.unusedSectionVars false
set_option linter.unusedSimpArgs false
set_option maxHeartbeats 4000000
namespace Go.Proofs.YtehefbidnkfciaaGreatDoor
open Go Go.RowKit
abbrev yw:=@_root_.List.take_succ_eq_append_getElem
abbrev yC:=@_root_.Bool.or_true
abbrev yD:=@_root_.Bool.not_eq_true
abbrev yT:=@_root_.Bool.false_and
abbrev y0:=@_root_.List.length_replicate
abbrev uj:=@_root_.Bool.not_false
abbrev um:=@_root_.Bool.or_eq_false_iff
abbrev uG:=@_root_.bne_self_eq_false
abbrev uM:=@_root_.Bool.true_or
abbrev uP:=@_root_.Bool.and_self
abbrev uQ:=@_root_.List.any_cons
theorem symmetry_Representative_ok (n t0 t1 r) (h:symmetry_Representative n t0 t1=some r):Pure pg 16 [Model.enc t0,Question.enc t1] (.tup [Question.enc r.1,.sl 3 (List.map Swap.enc r.2)]):=by
 refine Pure.ot Tryz.func16 I Tryz.ntmps16 I λA w=>.S 2 I<|.allocZ I I I I (.agg Zc34 (ds':=[.int 0,.int 0,.bool false,.int 0]) (.e (.e (.e .e1)))) I<|.p I (.nilS 3 (α:=Swap) Swap.enc I)<|.nil<|.S 1 I<|.Z h I (symmetry_open_ok _ _) λx1 h=>.A 1 I<|.p I (.extract I I I)<|.p I (.extract I I I)<|.A 2 I<|.nil<|.seq<|.seq<|.plain 8 I<|.A 3 I<|gK h λc3 h=>gK h λc4 h=>.jO 4 (!((symmetry_layout_valid n ((x1.1).getD default) t1).getD default)) I (λb2=>?_) ?_
 ·refine .A 2 I<|.q I (.callLe I (kC I) I (.cons (.ofEq (optD_of (someD (impF c3 b2)))) .e1) (symmetry_layout_valid_ok _ _ _ _ (someD (impF c4 b2))))<|.A 1 I<|.nil I
 refine .nil<|.nil<|.K [3,4,6,21] I<|.condS I h (λh=>?_) λh=>?_
 ·refine .sr<|.p I (.castD (Question.enc (⟨0,0,(⟨false,0⟩:Target)⟩:Question)) I (.build I Pl34 (.agg Zc34 (ds':=[_,_,_,_]) (.e (.e (.e .e1)))) I I))<|.store I I I I I I (.ofD I) C34 I (ye I)<|.p I (.nilS 3 (α:=Swap) Swap.enc I)<|.nil<|.ret ?_
  cases h
  exact retCellTmp I I Y34 (.v (.v (.v .v1))) I (.d _)
 ·refine .skip<|.S 2 I<|bK h λp_5 hp_5 h=>bK h λx6 q6 h=>.p I (.callLe I (kC I) I (.cons (.ofEq (optD_of hp_5)) .e1) (symmetry_layout_reach_ok _ _ _ _ q6))<|.p I (.call I (kC I) I (maps_Keys_map_api_Question_LSwap_api_Question_LSwap_fn n x6))<|bK h λx7 q7 h=>keysMin_tri I I I I I I I I I I q7<|.allocStore I I I I I I I I (by simp) I I Z34<|.nil<|.seq<|bK h λp_8 hp_8 h=>bK h λx9 q9 h=>.drawA 8 Hm I<|.first 1 I (by decide +kernel) (by decide +kernel) (by decide +kernel) I (.m I (.nil ⟨I,I⟩))<|.via 1 #[true,true,true,true,true,true,true,false] ⟨[(4,.loc 0 0),(34,.d (.sl 3 (List.map Swap.enc ((x9.get? t1).getD []))))],[.box 34 [.d (.int x7.e),.d (.int x7.f),.d (.bool x7.target.hold),.d (.int x7.target.index)],.dead]⟩ ?_ λsA0=>?_
  ·refine .step 7 [] (by decide +kernel) (.cons (i:=7) I (.z I (.nil ⟨I,I⟩)) ?_ .nil)
   refine .done (by decide +kernel)<|.K [4,5] I<|.ret ?_
   cases h
   exact retCellTmp I I Y34 (.v (.v (.v .v1))) I (.d _)
  refine .via 2 #[true,true,true,true,true,true,false,false] ⟨[(4,.loc 0 0),(29,.d (Question.enc x7)),(34,.d (.sl 3 (List.map Swap.enc ((x9.get? t1).getD []))))],[.box 34 [.d (.int 0),.d (.int 0),.d (.bool false),.d (.int 0)],.dead]⟩ ?_ λsA1=>?_
  ·refine .step 6 [] (by decide +kernel) (.cons (i:=6) I (.store I I I I I I (.ofD I) C34 I (ye I) (.nil ⟨I,I⟩)) ?_ .nil)
   exact .keepT [4,34] (.c2 I .nil) (.to #[true,true,true,true,true,true,true,false] (by decide +kernel) sA0)
  refine .via 2 #[true,true,true,true,true,false,true,false] ⟨[(4,.loc 0 0),(32,.d (GMap.dat (λq:Question=>Value.agg (Question.vals q).toArray) (λl=>D.sl 3 (List.map Swap.enc l)) x9)),(33,.d (Question.enc t1))],[.box 34 [.d (.int x7.e),.d (.int x7.f),.d (.bool x7.target.hold),.d (.int x7.target.index)],.dead]⟩ ?_ λsA2=>?_
  ·refine .step 5 [] (by decide +kernel) (.cons (i:=5) I (.p I (.mapGetD (ke:=(λq:Question=>Value.agg (Question.vals q).toArray)) (ve:=(λl=>D.sl 3 (List.map Swap.enc l))) I U95 KT34 I I (z:=([]:List Swap)) (.nil Zv42) (hkd:=.struct (Question.vals t1))) (.nil ⟨I,I⟩)) ?_ .nil)
   exact .keepT [4,34] (.c2 I .nil) (.to #[true,true,true,true,true,true,true,false] (by decide +kernel) sA0)
  refine .via 3 #[true,true,true,true,true,false,false,false] ⟨[(4,.loc 0 0),(29,.d (Question.enc x7)),(32,.d (GMap.dat (λq:Question=>Value.agg (Question.vals q).toArray) (λl=>D.sl 3 (List.map Swap.enc l)) x9)),(33,.d (Question.enc t1))],[.box 34 [.d (.int 0),.d (.int 0),.d (.bool false),.d (.int 0)],.dead]⟩ ?_ λsA3=>?_
  ·refine .step 5 [6] (by decide +kernel) (.cons (i:=5) I (.p I (.mapGetD (ke:=(λq:Question=>Value.agg (Question.vals q).toArray)) (ve:=(λl=>D.sl 3 (List.map Swap.enc l))) I U95 KT34 I I (z:=([]:List Swap)) (.nil Zv42) (hkd:=.struct (Question.vals t1))) (.nil ⟨I,I⟩)) ?_ (.cons (i:=6) I (.store I I I I I I (.ofD I) C34 I (ye I) (.nil ⟨I,I⟩)) ?_ .nil))
   ·exact .keepT [4,29,34] (.c2 I<|.c I .nil) (.to #[true,true,true,true,true,true,false,false] (by decide +kernel) sA1)
   ·exact .keepT [4,32,33] (.c2 I<|.c I .nil) (.to #[true,true,true,true,true,false,true,false] (by decide +kernel) sA2)
  refine .via 3 #[true,true,true,true,false,false,true,false] ⟨[(3,.d (.ref (Question.enc t1))),(4,.loc 0 0),(32,.d (GMap.dat (λq:Question=>Value.agg (Question.vals q).toArray) (λl=>D.sl 3 (List.map Swap.enc l)) x9))],[.box 34 [.d (.int x7.e),.d (.int x7.f),.d (.bool x7.target.hold),.d (.int x7.target.index)],.dead]⟩ ?_ λsA4=>?_
  ·refine .step 4 [] (by decide +kernel) (.cons (i:=4) I (.p I (.ld Y34 I) (.nil ⟨I,I⟩)) ?_ .nil)
   exact .keepT [4,32,33] (.c2 I<|.c I .nil) (.to #[true,true,true,true,true,false,true,false] (by decide +kernel) sA2)
  refine .via 3 #[false,true,true,true,true,true,false,false] ⟨[(4,.loc 0 0),(8,.d (.ref (Question.enc x7))),(34,.d (.sl 3 (List.map Swap.enc ((x9.get? t1).getD []))))],[.box 34 [.d (.int 0),.d (.int 0),.d (.bool false),.d (.int 0)],.dead]⟩ ?_ λsA5=>?_
  ·refine .step 0 [] (by decide +kernel) (.cons (i:=0) I (.p I (.ld Y34 I) (.nil ⟨I,I⟩)) ?_ .nil)
   exact .keepT [4,29,34] (.c2 I<|.c I .nil) (.to #[true,true,true,true,true,true,false,false] (by decide +kernel) sA1)
  refine .via 4 #[true,true,true,true,false,false,false,false] ⟨[(3,.d (.ref (Question.enc t1))),(4,.loc 0 0),(29,.d (Question.enc x7)),(32,.d (GMap.dat (λq:Question=>Value.agg (Question.vals q).toArray) (λl=>D.sl 3 (List.map Swap.enc l)) x9))],[.box 34 [.d (.int 0),.d (.int 0),.d (.bool false),.d (.int 0)],.dead]⟩ ?_ λsA6=>?_
  ·refine .step 4 [6] (by decide +kernel) (.cons (i:=4) I (.p I (.ld Y34 I) (.nil ⟨I,I⟩)) ?_ (.cons (i:=6) I (.store I I I I I I (.ofD I) C34 I (ye I) (.nil ⟨I,I⟩)) ?_ .nil))
   ·exact .keepT [4,29,32,33] (.c4 I .nil) (.to #[true,true,true,true,true,false,false,false] (by decide +kernel) sA3)
   ·exact .keepT [3,4,32] (.c2 I<|.c I .nil) (.to #[true,true,true,true,false,false,true,false] (by decide +kernel) sA4)
  refine .via 4 #[true,true,true,false,true,false,false,false] ⟨[(4,.loc 0 0),(29,.d (Question.enc x7)),(30,.d (optD Layout.enc x1.1)),(31,.d (Question.enc x7)),(33,.d (Question.enc t1))],[.box 34 [.d (.int 0),.d (.int 0),.d (.bool false),.d (.int 0)],.dead]⟩ ?_ λsA7=>?_
  ·refine .step 3 [] (by decide +kernel) (.cons (i:=3) I (.p I (.callLe I (kC I) I (.cons (.ofEq (optD_of hp_8)) .e1) (symmetry_layout_reach_ok _ _ _ _ q9)) (.nil ⟨I,I⟩)) ?_ .nil)
   exact .keepT [4,29,32,33] (.c4 I .nil) (.to #[true,true,true,true,true,false,false,false] (by decide +kernel) sA3)
  refine .via 4 #[false,true,true,true,true,false,false,false] ⟨[(4,.loc 0 0),(8,.d (.ref (Question.enc x7))),(32,.d (GMap.dat (λq:Question=>Value.agg (Question.vals q).toArray) (λl=>D.sl 3 (List.map Swap.enc l)) x9)),(33,.d (Question.enc t1))],[.box 34 [.d (.int 0),.d (.int 0),.d (.bool false),.d (.int 0)],.dead]⟩ ?_ λsA8=>?_
  ·refine .step 0 [5] (by decide +kernel) (.cons (i:=0) I (.p I (.ld Y34 I) (.nil ⟨I,I⟩)) ?_ (.cons (i:=5) I (.p I (.mapGetD (ke:=(λq:Question=>Value.agg (Question.vals q).toArray)) (ve:=(λl=>D.sl 3 (List.map Swap.enc l))) I U95 KT34 I I (z:=([]:List Swap)) (.nil Zv42) (hkd:=.struct (Question.vals t1))) (.nil ⟨I,I⟩)) ?_ .nil))
   ·exact .keepT [4,29,32,33] (.c4 I .nil) (.to #[true,true,true,true,true,false,false,false] (by decide +kernel) sA3)
   ·exact .keepT [4,8,34] (.c2 I<|.c I .nil) (.to #[false,true,true,true,true,true,false,false] (by decide +kernel) sA5)
  refine .via 5 #[true,true,true,false,false,false,false,false] ⟨[(3,.d (.ref (Question.enc t1))),(4,.loc 0 0),(29,.d (Question.enc x7)),(30,.d (optD Layout.enc x1.1)),(31,.d (Question.enc x7))],[.box 34 [.d (.int 0),.d (.int 0),.d (.bool false),.d (.int 0)],.dead]⟩ ?_ λsA9=>?_
  ·refine .step 3 [4] (by decide +kernel) (.cons (i:=3) I (.p I (.callLe I (kC I) I (.cons (.ofEq (optD_of hp_8)) .e1) (symmetry_layout_reach_ok _ _ _ _ q9)) (.nil ⟨I,I⟩)) ?_ (.cons (i:=4) I (.p I (.ld Y34 I) (.nil ⟨I,I⟩)) ?_ .nil))
   ·exact .keepT [3,4,29,32] (.c4 I .nil) (.to #[true,true,true,true,false,false,false,false] (by decide +kernel) sA6)
   ·exact .keepT [4,29,30,31,33] (.c4 I<|.c I .nil) (.to #[true,true,true,false,true,false,false,false] (by decide +kernel) sA7)
  refine .via 5 #[true,true,false,false,true,false,false,false] ⟨[(4,.loc 0 0),(8,.d (.ref (Question.enc x7))),(29,.d (Question.enc x7)),(30,.d (optD Layout.enc x1.1)),(33,.d (Question.enc t1))],[.box 34 [.d (.int 0),.d (.int 0),.d (.bool false),.d (.int 0)],.dead]⟩ ?_ λsA10=>?_
  ·refine .step 2 [] (by decide +kernel) (.cons (i:=2) I (.p I (.ld Y34 I) (.nil ⟨I,I⟩)) ?_ .nil)
   exact .keepT [4,29,30,31,33] (.c4 I<|.c I .nil) (.to #[true,true,true,false,true,false,false,false] (by decide +kernel) sA7)
  refine .via 5 #[false,true,true,true,false,false,false,false] ⟨[(3,.d (.ref (Question.enc t1))),(4,.loc 0 0),(8,.d (.ref (Question.enc x7))),(32,.d (GMap.dat (λq:Question=>Value.agg (Question.vals q).toArray) (λl=>D.sl 3 (List.map Swap.enc l)) x9))],[.box 34 [.d (.int 0),.d (.int 0),.d (.bool false),.d (.int 0)],.dead]⟩ ?_ λsA11=>?_
  ·refine .step 0 [4] (by decide +kernel) (.cons (i:=0) I (.p I (.ld Y34 I) (.nil ⟨I,I⟩)) ?_ (.cons (i:=4) I (.p I (.ld Y34 I) (.nil ⟨I,I⟩)) ?_ .nil))
   ·exact .keepT [3,4,29,32] (.c4 I .nil) (.to #[true,true,true,true,false,false,false,false] (by decide +kernel) sA6)
   ·exact .keepT [4,8,32,33] (.c4 I .nil) (.to #[false,true,true,true,true,false,false,false] (by decide +kernel) sA8)
  refine .via 5 #[false,true,true,false,true,false,false,false] ⟨[(4,.loc 0 0),(8,.d (.ref (Question.enc x7))),(30,.d (optD Layout.enc x1.1)),(31,.d (Question.enc x7)),(33,.d (Question.enc t1))],[.box 34 [.d (.int 0),.d (.int 0),.d (.bool false),.d (.int 0)],.dead]⟩ ?_ λsA12=>?_
  ·refine .step 0 [3] (by decide +kernel) (.cons (i:=0) I (.p I (.ld Y34 I) (.nil ⟨I,I⟩)) ?_ (.cons (i:=3) I (.p I (.callLe I (kC I) I (.cons (.ofEq (optD_of hp_8)) .e1) (symmetry_layout_reach_ok _ _ _ _ q9)) (.nil ⟨I,I⟩)) ?_ .nil))
   ·exact .keepT [4,29,30,31,33] (.c4 I<|.c I .nil) (.to #[true,true,true,false,true,false,false,false] (by decide +kernel) sA7)
   ·exact .keepT [4,8,32,33] (.c4 I .nil) (.to #[false,true,true,true,true,false,false,false] (by decide +kernel) sA8)
  refine .via 6 #[true,true,false,false,false,false,false,false] ⟨[(3,.d (.ref (Question.enc t1))),(4,.loc 0 0),(8,.d (.ref (Question.enc x7))),(29,.d (Question.enc x7)),(30,.d (optD Layout.enc x1.1))],[.box 34 [.d (.int 0),.d (.int 0),.d (.bool false),.d (.int 0)],.dead]⟩ ?_ λsA13=>?_
  ·refine .step 2 [4] (by decide +kernel) (.cons (i:=2) I (.p I (.ld Y34 I) (.nil ⟨I,I⟩)) ?_ (.cons (i:=4) I (.p I (.ld Y34 I) (.nil ⟨I,I⟩)) ?_ .nil))
   ·exact .keepT [3,4,29,30,31] (.c4 I<|.c I .nil) (.to #[true,true,true,false,false,false,false,false] (by decide +kernel) sA9)
   ·exact .keepT [4,8,29,30,33] (.c4 I<|.c I .nil) (.to #[true,true,false,false,true,false,false,false] (by decide +kernel) sA10)
  refine .via 6 #[false,true,true,false,false,false,false,false] ⟨[(3,.d (.ref (Question.enc t1))),(4,.loc 0 0),(8,.d (.ref (Question.enc x7))),(30,.d (optD Layout.enc x1.1)),(31,.d (Question.enc x7))],[.box 34 [.d (.int 0),.d (.int 0),.d (.bool false),.d (.int 0)],.dead]⟩ ?_ λsA14=>?_
  ·refine .step 0 [3,4] (by decide +kernel) (.cons (i:=0) I (.p I (.ld Y34 I) (.nil ⟨I,I⟩)) ?_ (.cons (i:=3) I (.p I (.callLe I (kC I) I (.cons (.ofEq (optD_of hp_8)) .e1) (symmetry_layout_reach_ok _ _ _ _ q9)) (.nil ⟨I,I⟩)) ?_ (.cons (i:=4) I (.p I (.ld Y34 I) (.nil ⟨I,I⟩)) ?_ .nil)))
   ·exact .keepT [3,4,29,30,31] (.c4 I<|.c I .nil) (.to #[true,true,true,false,false,false,false,false] (by decide +kernel) sA9)
   ·exact .keepT [3,4,8,32] (.c4 I .nil) (.to #[false,true,true,true,false,false,false,false] (by decide +kernel) sA11)
   ·exact .keepT [4,8,30,31,33] (.c4 I<|.c I .nil) (.to #[false,true,true,false,true,false,false,false] (by decide +kernel) sA12)
  refine .via 6 #[false,true,false,false,true,false,false,false] ⟨[(4,.loc 0 0),(8,.d (.ref (Question.enc x7))),(30,.d (optD Layout.enc x1.1)),(33,.d (Question.enc t1))],[.box 34 [.d (.int 0),.d (.int 0),.d (.bool false),.d (.int 0)],.dead]⟩ ?_ λsA15=>?_
  ·refine .step 0 [2] (by decide +kernel) (.cons (i:=0) I (.p I (.ld Y34 I) (.nil ⟨I,I⟩)) ?_ (.cons (i:=2) I (.p I (.ld Y34 I) (.nil ⟨I,I⟩)) ?_ .nil))
   ·exact .keepT [4,8,29,30,33] (.c4 I<|.c I .nil) (.to #[true,true,false,false,true,false,false,false] (by decide +kernel) sA10)
   ·exact .keepT [4,8,30,31,33] (.c4 I<|.c I .nil) (.to #[false,true,true,false,true,false,false,false] (by decide +kernel) sA12)
  refine .step 0 [2,4] (by decide +kernel) (.cons (i:=0) I (.p I (.ld Y34 I) (.nil ⟨I,I⟩)) ?_ (.cons (i:=2) I (.p I (.ld Y34 I) (.nil ⟨I,I⟩)) ?_ (.cons (i:=4) I (.p I (.ld Y34 I) (.nil ⟨I,I⟩)) ?_ .nil)))
  ·exact .keepT [3,4,8,29,30] (.c4 I<|.c I .nil) (.to #[true,true,false,false,false,false,false,false] (by decide +kernel) sA13)
  ·exact .keepT [3,4,8,30,31] (.c4 I<|.c I .nil) (.to #[false,true,true,false,false,false,false,false] (by decide +kernel) sA14)
  ·exact .keepT [4,8,30,33] (.c4 I .nil) (.to #[false,true,false,false,true,false,false,false] (by decide +kernel) sA15)
theorem symmetry_layout_fits_ok (n t0 t1 r) (h:symmetry_layout_fits n t0 t1=some r):Pure pg 94 [.ref (Layout.enc t0),Swap.enc t1] (.bool r):=by
 refine Pure.ot Tryz.func94 I Tryz.ntmps94 I λA w=>.sA 2 I<|.seq<|.draw 41 Hm (by kernel_rfl) (by kernel_rfl)<|.A 4 I<|.jA 9 (decide (t1.sort<(t0.m.sorts.length:Int))) I (λb1=>?_) ?_
 ·refine .A 3 I<|.q I (.nilCheck_ref I I)<|.q I (.fa I (G113_0 _))<|.A 2 I<|.q I (.len I U22 I)<|.A 1 I<|.nil I
 refine .A 1 I<|.jA 3 (decide (0≤t1.a)) I (λb2=>?_) ?_
 ·refine .A 3 I<|.nil I
 refine .A 1 I<|.jA 5 (decide (t1.a<t1.b)) I (λb3=>?_) ?_
 ·refine .A 2 I<|.q I (.fa I (G41_2 _))<|.A 2 I<|.nil I
 refine .A 1 I<|gK h λc5 h=>.jA 12 (decide (t1.b<((idx t0.m.sorts t1.sort).getD default))) I (λb4=>?_) ?_
 ·refine .q I (.fa I (G41_2 _))<|.A 2 I<|.q I (.nilCheck_ref I I)<|.q I (.fa I (G113_0 _))<|.A 4 I<|.q I (.ix I U22 S3 (someD (impT c5 b4)))<|.A 2 I<|.nil I
 refine .A 1 I<|.nil<|.nil<|.K [4] I<|.ret (rO h I)
theorem symmetry_with_ok (n t0 t1 r) (h:symmetry_with n t0 t1=some r):Pure pg 56 [Model.enc t0,Swap.enc t1] (.tup [optD Swapping.enc r.1,.bool r.2]):=by
 refine Pure.ot Tryz.func56 I Tryz.ntmps56 I λA w=>.sA 4 I<|.S 1 I<|.Z h I (symmetry_open_ok _ _) λx1 h=>.A 1 I<|.p I (.extract I I I)<|.p I (.extract I I I)<|.A 2 I<|.nil<|.seq<|.seq<|.plain 8 I<|.A 3 I<|gK h λc3 h=>gK h λc4 h=>.jO 4 (!((symmetry_layout_fits n ((x1.1).getD default) t1).getD default)) I (λb2=>?_) ?_
 ·refine .A 2 I<|.q I (.callLe I (kC I) I (.cons (.ofEq (optD_of (someD (impF c3 b2)))) .e1) (symmetry_layout_fits_ok _ _ _ _ (someD (impF c4 b2))))<|.A 1 I<|.nil I
 refine .nil<|.nil<|.K [3,6,20] I<|.condS I h (λh=>?_) λh=>?_
 ·refine .sA 2 I<|.ret ?_
  cases h
  exact retTwo I I (.d _) (.d _)
 ·refine .skip<|.S 2 I<|bK h λp_5 hp_5 h=>.eqD 21 I (optD_of hp_5)<|.p I (.castD (Swapping.enc (⟨p_5,t1⟩:Swapping)) I (.build I Pl107 (.agg Zc107 (ds':=[_,_,_,_]) (.e (.e (.e .e1)))) I I))<|.A 3 I<|.nil<|.ret ?_
  cases h
  exact retTwo I I (.d _) (.d _)
theorem symmetry_State_ok (n t0 t1 t2 r) (h:symmetry_State n t0 t1 t2=some r):Pure pg 27 [Model.enc t0,Swap.enc t1,eA t2] (.tup [eA r.1,.bool r.2]):=by
 refine Pure.ot Tryz.func27 I Tryz.ntmps27 I λA w=>.S 2 I<|.p I (.nilS 1 (α:=Int) D.int I)<|.A 1 I<|.nil<|.S 2 I<|.Z h I (symmetry_with_ok _ _ _) λx1 h=>.A 1 I<|.p I (.extract I I I)<|.p I (.extract I I I)<|.A 2 I<|.nil<|.seq<|.seq<|.plain 15 I<|.A 3 I<|gK h λc3 h=>.jO 11 ((t2.length:Int) != (((((x1.1).getD default).layout).strict).length:Int)) I (λb2=>?_) ?_
 ·refine .A 1 I<|.q I (.len I U22 I)<|.A 1 I<|.q I (.nilCheck_opt I I (optD_of (someD (impF c3 b2))))<|.q I (.fa I (G107_0 _))<|.A 1 I<|.q I (.nilCheck_ref I I)<|.q I (.fa I (G113_1 _))<|.A 1 I<|.q I (.len I U111 I)<|.A 1 I<|.nil I
 refine .nil<|.nil<|.K [2,8,33] I<|.condS I h (λh=>?_) λh=>?_
 ·refine .sr<|.p I (.nilS 1 (α:=Int) D.int I)<|.A 1 I<|.nil<|.ret ?_
  cases h
  exact retTwo I I (.d _) (.d _)
 ·refine .skip<|.S 1 I<|.p I (.len I U22 I)<|bK h λx4 q4 h=>.makeVec (enc:=D.int) (z:=(0:Int)) I I I I E22 I I I (.val Zv3) q4<|.A 1 I<|.nil<|.seq<|.S 1 I<|.p I (.len I U22 I)<|.A 1 I<|.nil<|.block<|.L [8,37,38] h (λv=>[(10,.vec 0 (List.length v.1)),(39,.d (.int v.2))]) (λv=>[(0,.vec 3 1 (List.map D.int v.1))]) I λ_ ⟨b0_21,x22⟩ h=>.sA 1 I<|.K [8,10,37,38,39,40] I<|.seq<|.condS I h (λh=>?_) λh=>?_
  ·refine .skip<|.seq<|.block<|.S 1 I<|.X h I λx24 h=>.A 3 I<|.nil<|.region<|.A 3 I<|bK h λp_25 hp_25 h=>.p I (.nilCheck_opt I I (optD_of hp_25))<|.p I (.fa I (G107_0 _))<|.A 1 I<|.p I (.nilCheck_ref I I)<|.p I (.fa I (G113_1 _))<|.A 2 I<|bK h λp_26 hp_26 h=>bK h λx27 q27 h=>.p I (.callLe I (kC I) I (.cons (.ofEq (optD_of hp_26)) (.e .e1)) (symmetry_swapping_cell_ok _ _ _ _ _ q27))<|.A 1 I<|bK h λx28 q28 h=>.p I (.idxV I I I I I U22 S3 q28)<|bK h λb0_29 hb0_29 h=>.storeEl (enc:=D.int) I I I I I I I I I C3 hb0_29<|.relen 10 I (sto_len hb0_29)<|.relen 44 I (sto_len hb0_29)<|.nil<|.K [8,10,37,38,39] I<|.rA 2 I (ndE h I)
  ·refine .exit<|.sA 3 I<|.ret ?_
   cases h
   exact retTwo I I (.vec I (by simp)) (.d _)
theorem symmetry_Cell_ok (n t0 t1 t2 r) (h:symmetry_Cell n t0 t1 t2=some r):Pure pg 34 [Model.enc t0,Swap.enc t1,.int t2] (.tup [.int r.1,.bool r.2]):=by
 refine Pure.ot Tryz.func34 I Tryz.ntmps34 I λA w=>.sA 4 I<|.S 2 I<|.Z h I (symmetry_with_ok _ _ _) λx1 h=>.A 1 I<|.p I (.extract I I I)<|.p I (.extract I I I)<|.A 2 I<|.nil<|.seq<|.seq<|.plain 18 I<|.A 3 I<|.jO 2 (decide (t2<0)) I (λb2=>?_) ?_
 ·refine .A 2 I<|.nil I
 refine .A 1 I<|gK h λc4 h=>.jO 10 (decide ((((((x1.1).getD default).layout).strict).length:Int)≤t2)) I (λb3=>?_) ?_
 ·refine .A 2 I<|.q I (.nilCheck_opt I I (optD_of (someD (impF c4 b3))))<|.q I (.fa I (G107_0 _))<|.A 1 I<|.q I (.nilCheck_ref I I)<|.q I (.fa I (G113_1 _))<|.A 1 I<|.q I (.len I U111 I)<|.A 1 I<|.nil I
 refine .nil<|.nil<|.K [2,8,33] I<|.condS I h (λh=>?_) λh=>?_
 ·refine .sA 2 I<|.ret ?_
  cases h
  exact retTwo I I (.d _) (.d _)
 ·refine .skip<|.S 2 I<|bK h λp_5 hp_5 h=>.p I (.nilCheck_opt I I (optD_of hp_5))<|.p I (.fa I (G107_0 _))<|.A 1 I<|.p I (.nilCheck_ref I I)<|.p I (.fa I (G113_1 _))<|.A 2 I<|bK h λp_6 hp_6 h=>bK h λx7 q7 h=>.p I (.callLe I (kC I) I (.cons (.ofEq (optD_of hp_6)) (.e .e1)) (symmetry_swapping_cell_ok _ _ _ _ _ q7))<|.A 2 I<|.nil<|.ret ?_
  cases h
  exact retTwo I I (.d _) (.d _)
theorem symmetry_Swaps_ok (n t0 r) (h:symmetry_Swaps n t0=some r):Pure pg 21 [Model.enc t0] (.sl 3 (List.map Swap.enc r)):=by
 refine Pure.ot Tryz.func21 I Tryz.ntmps21 I λA w=>.S 1 I<|.p I (.nilS 3 (α:=Swap) Swap.enc I)<|.nil<|.S 1 I<|.Z h I (symmetry_open_ok _ _) λx1 h=>.A 1 I<|.p I (.extract I I I)<|.p I (.extract I I I)<|.A 2 I<|.nil<|.seq<|.sA 2 I<|.condS I h (λh=>?_) λh=>?_
 ·refine .sr<|.p I (.nilS 3 (α:=Swap) Swap.enc I)<|.nil<|.ret ?_
  cases h
  exact retOne I (.d _)
 ·refine .skip<|.S 1 I<|.nilVec 5 3 41 I<|.nil<|.seq<|.S 1 I<|bK h λp_2 hp_2 h=>bK h λx3 q3 h=>.p I (.callLe I (kC I) I (.cons (.ofEq (optD_of hp_2)) .nil) (symmetry_layout_symmetries_ok _ _ _ q3))<|.p I (.len I U104 I)<|.A 1 I<|.nil<|.K [5,16,17,18] I<|.block<|.L [16,17] h (λv=>[(5,.vec 0 (List.length v.1)),(18,.d (.int v.2))]) (λv=>[(0,.vec 41 3 (List.map Swap.enc v.1))]) I λ_ ⟨b0_12,x13⟩ h=>.sA 1 I<|.K [5,16,17,18,19] I<|.seq<|.condS I h (λh=>?_) λh=>?_
  ·refine .skip<|.seq<|.block<|.sr<|.X h I λx15 h=>.A 2 I<|.nil<|.region<|.A 2 I<|.p I (.nilCheck_ref I I)<|.p I (.fa I (G107_1 _))<|.A 1 I<|.p I (.buildSl [_] I I E42 I (λ_=>I) I (enc:=Swap.enc))<|bK h λx16 q16 h=>.app I I I I I I I I E42 I (λ_=>I) q16<|.A 1 I<|.nil<|.rA 2 I (ndE h I)
  ·refine .exit<|.sA 2 I<|.ret ?_
   cases h
   exact retOne I (.vec I (by simp))
theorem symmetry_Orbit_ok (n t0 t1 r) (h:symmetry_Orbit n t0 t1=some r):Pure pg 24 [Model.enc t0,Question.enc t1] (eP r):=by
 refine Pure.ot Tryz.func24 I Tryz.ntmps24 I λA w=>.S 2 I<|.p I (.nilS 4 (α:=Question) Question.enc I)<|.nil<|.S 1 I<|.Z h I (symmetry_open_ok _ _) λx1 h=>.A 1 I<|.p I (.extract I I I)<|.p I (.extract I I I)<|.A 2 I<|.nil<|.seq<|.seq<|.plain 8 I<|.A 3 I<|gK h λc3 h=>gK h λc4 h=>.jO 4 (!((symmetry_layout_valid n ((x1.1).getD default) t1).getD default)) I (λb2=>?_) ?_
 ·refine .A 2 I<|.q I (.callLe I (kC I) I (.cons (.ofEq (optD_of (someD (impF c3 b2)))) .e1) (symmetry_layout_valid_ok _ _ _ _ (someD (impF c4 b2))))<|.A 1 I<|.nil I
 refine .nil<|.nil<|.K [3,5,19] I<|.condS I h (λh=>?_) λh=>?_
 ·refine .sr<|.p I (.nilS 4 (α:=Question) Question.enc I)<|.nil<|.ret ?_
  cases h
  exact retOne I (.d _)
 ·refine .skip<|.S 2 I<|bK h λp_5 hp_5 h=>bK h λx6 q6 h=>.p I (.callLe I (kC I) I (.cons (.ofEq (optD_of hp_5)) .e1) (symmetry_layout_reach_ok _ _ _ _ q6))<|.p I (.call I (kC I) I (maps_Keys_map_api_Question_LSwap_api_Question_LSwap_fn n x6))<|.Z h I (keysSorted_ok _ _) λx7 h=>.A 1 I<|.nil<|.ret ?_
  cases h
  exact retOne I (.d _)
theorem slices_Equal_LSwap_api_Swap_ok (n t0 t1 r) (h:slices_Equal_LSwap_api_Swap n t0 t1=some r):Pure pg 20 [.sl 3 (List.map Swap.enc t0),.sl 3 (List.map Swap.enc t1)] (.bool r):=by
 refine Pure.ot Tryz.func20 I Tryz.ntmps20 I λA w=>.sA 1 I<|.seq<|.S 1 I<|.p I (.len I U42 I)<|.A 1 I<|.p I (.len I U42 I)<|.A 1 I<|.nil<|.condS I h (λh=>?_) λh=>?_
 ·refine .sA 1 I<|.ret (rO h I)
 ·refine .skip<|.seq<|.S 1 I<|.p I (.len I U42 I)<|.A 1 I<|.nil<|.block<|.L [0,1,12] h (λv=>[(13,.d (.int v))]) (λv=>[]) I λ_ x7 h=>.sA 1 I<|.seq<|.condS I h (λh=>?_) λh=>?_
  ·refine .skip<|.seq<|.block<|.sA 2 I<|.seq<|.draw 9 Hm (by kernel_rfl) (by kernel_rfl)<|.A 2 I<|.X h I λx9 h=>.A 3 I<|.X h I λx10 h=>.A 1 I<|.p I (.sneq I SE41 I I (xs:=Swap.vals _) (ys:=Swap.vals _) I I I I (SQ41 _ _))<|.nil<|.nil<|.condS I h (λh=>?_) λh=>?_
   ·refine .sA 1 I<|.ret (rO h I)
   ·refine .skip<|.rA 2 I (ndE h I)
  ·refine .exit<|.sA 1 I<|.ret (rO h I)
theorem symmetry_Valid_ok (n t0 t1 r) (h:symmetry_Valid n t0 t1=some r):Pure pg 14 [Model.enc t0,Question.enc t1] (.bool r):=by
 refine Pure.ot Tryz.func14 I Tryz.ntmps14 I λA w=>.sA 3 I<|.S 1 I<|.Z h I (symmetry_open_ok _ _) λx1 h=>.A 1 I<|.p I (.extract I I I)<|.p I (.extract I I I)<|.A 2 I<|.nil<|.seq<|.plain 6 I<|.A 2 I<|gK h λc3 h=>gK h λc4 h=>.jA 3 (((symmetry_layout_valid n ((x1.1).getD default) t1).getD default)) I (λb2=>?_) ?_
 ·refine .A 2 I<|.q I (.callLe I (kC I) I (.cons (.ofEq (optD_of (someD (impT c3 b2)))) .e1) (symmetry_layout_valid_ok _ _ _ _ (someD (impT c4 b2))))<|.nil I
 refine .nil<|.A 1 I<|.nil<|.K [4] I<|.ret (rO h I)
theorem symmetry_Less_ok (n t0 t1 r) (h:symmetry_Less n t0 t1=some r):Pure pg 11 [Question.enc t0,Question.enc t1] (.bool r):=by
 refine Pure.ot Tryz.func11 I Tryz.ntmps11 I λA w=>.sA 3 I<|.S 2 I<|.Z h I (symmetry_compare_ok _ _ _) λx1 h=>.A 2 I<|.nil<|.ret (rO h I)
theorem symmetry_Holds_ok (n t0 t1 r) (h:symmetry_Holds n t0 t1=some r):Pure pg 18 [Model.enc t0,Swap.enc t1] (.bool r):=by
 refine Pure.ot Tryz.func18 I Tryz.ntmps18 I λA w=>.sA 3 I<|.S 2 I<|.Z h I (symmetry_with_ok _ _ _) λx1 h=>.A 1 I<|.p I (.extract I I I)<|.p I (.extract I I I)<|.A 2 I<|.nil<|.seq<|.plain 5 I<|.A 2 I<|gK h λc3 h=>gK h λc4 h=>.jA 2 (((symmetry_swapping_holds n ((x1.1).getD default)).getD default)) I (λb2=>?_) ?_
 ·refine .A 1 I<|.q I (.callLe I (kC I) I (.cons (.ofEq (optD_of (someD (impT c3 b2)))) .nil) (symmetry_swapping_holds_ok _ _ _ (someD (impT c4 b2))))<|.nil I
 refine .nil<|.A 1 I<|.nil<|.K [4] I<|.ret (rO h I)
theorem law16_awake_ok (n r) (h:law16_awake n=some r):Pure pg 10 [] (.bool r):=by
 refine Pure.ot Tryz.func10 I Tryz.ntmps10 I λA w=>.sA 1 I<|.sr<|.Z h I (law16_example_ok _ ) λx1 h=>.allocStore I I I I I I I I (by simp) I I Z30<|.nil<|.sr<|.p I (.castD (Target.enc (⟨false,3⟩:Target)) I (.build I Pl32 (.agg Zc32 (ds':=[_,_]) (.e .e1)) I I))<|.p I (.castD (Question.enc (⟨1,1,(⟨false,3⟩:Target)⟩:Question)) I (.build I Pl34 (.agg Zc34 (ds':=[_,_,_,_]) (.e (.e (.e .e1)))) I I))<|.allocStore I I I I I I I I (by simp) I I Z34<|.nil<|.S 2 I<|.Z h I (symmetry_Representative_ok _ _ _) λx2 h=>.A 1 I<|.p I (.extract I I I)<|.p I (.extract I I I)<|.allocStore I I I I I I I I (by simp) I I Z34<|.A 1 I<|.nil<|.K [1,2,3,4] I<|.S 1 I<|.p I (.castD (Swap.enc (⟨0,0,2⟩:Swap)) I (.build I Pl41 (.agg Zc41 (ds':=[_,_,_]) (.e (.e .e1))) I I))<|.p I (.buildSl [_,_,_] I I E22 I (λ_=>I) I (enc:=D.int))<|.Z h I (symmetry_State_ok _ _ _ _) λx3 h=>.A 1 I<|.p I (.extract I I I)<|.p I (.extract I I I)<|.A 2 I<|.nil<|.S 1 I<|.p I (.castD (Swap.enc (⟨0,0,2⟩:Swap)) I (.build I Pl41 (.agg Zc41 (ds':=[_,_,_]) (.e (.e .e1))) I I))<|.Z h I (symmetry_Cell_ok _ _ _ _) λx4 h=>.A 1 I<|.p I (.extract I I I)<|.p I (.extract I I I)<|.A 2 I<|.nil ?_
 refine .K [1,2,3,4,5,6,7,8] I<|.seq<|.draw 56 Hm (by kernel_rfl) (by kernel_rfl)<|.A 1 I<|.Z h I (symmetry_Swaps_ok _ _) λx5 h=>.p I (.len I U42 I)<|.A 2 I<|gK h λc7 h=>.jA 5 ((((symmetry_Orbit n x1 (⟨1,1,(⟨false,3⟩:Target)⟩:Question)).getD default).length:Int)==3) I (λb6=>?_) ?_
 ·refine .A 2 I<|.q I (.call I (kC I) I (symmetry_Orbit_ok _ _ _ _ (someD (impT c7 b6))))<|.q I (.len I U49 I)<|.A 1 I<|.nil I
 refine .A 1 I<|.jA 4 (decide ((x2.1:Question)=(⟨0,0,(⟨false,1⟩:Target)⟩:Question))) I (λb8=>?_) ?_
 ·refine .A 1 I<|.q I (.castD (Target.enc (⟨false,1⟩:Target)) I (.build I Pl32 (.agg Zc32 (ds':=[_,_]) (.e .e1)) I I))<|.q I (.castD (Question.enc (⟨0,0,(⟨false,1⟩:Target)⟩:Question)) I (.build I Pl34 (.agg Zc34 (ds':=[_,_,_,_]) (.e (.e (.e .e1)))) I I))<|.q I (.seql I SE34 I I (xs:=Question.vals _) (ys:=Question.vals _) I I I I (SQ34 _ _))<|.nil I
 refine .A 1 I<|gK h λc10 h=>.jA 4 (((slices_Equal_LSwap_api_Swap n x2.2 [(⟨0,0,1⟩:Swap)]).getD default)) I (λb9=>?_) ?_
 ·refine .A 1 I<|.q I (.castD (Swap.enc (⟨0,0,1⟩:Swap)) I (.build I Pl41 (.agg Zc41 (ds':=[_,_,_]) (.e (.e .e1))) I I))<|.q I (.buildSl [_] I I E42 I (λ_=>I) I (enc:=Swap.enc))<|.q I (.call I (kC I) I (slices_Equal_LSwap_api_Swap_ok _ _ _ _ (someD (impT c10 b9))))<|.nil I
 refine .A 1 I<|.jA 1 (x3.2) I (λb11=>?_) ?_
 ·refine .A 1 I<|.nil I
 refine .A 1 I<|gK h λc13 h=>.jA 3 (((slices_Equal_Lint_int n x3.1 [0,0,1]).getD default)) I (λb12=>?_) ?_
 ·refine .A 1 I<|.q I (.buildSl [_,_,_] I I E22 I (λ_=>I) I (enc:=D.int))<|.q I (.call I (kC I) I (slices_Equal_Lint_int_ok _ _ _ _ (someD (impT c13 b12))))<|.nil I
 refine .A 1 I<|.jA 1 (x4.2) I (λb14=>?_) ?_
 ·refine .A 1 I<|.nil I
 refine .A 1 I<|.jA 2 (x4.1==2) I (λb15=>?_) ?_
 ·refine .A 2 I<|.nil I
 refine .A 1 I<|gK h λc17 h=>.jA 3 (((symmetry_Valid n x1 (⟨1,1,(⟨false,3⟩:Target)⟩:Question)).getD default)) I (λb16=>?_) ?_
 ·refine .A 2 I<|.q I (.call I (kC I) I (symmetry_Valid_ok _ _ _ _ (someD (impT c17 b16))))<|.nil I
 refine .A 1 I<|gK h λc19 h=>.jA 3 (((symmetry_Less n x2.1 (⟨1,1,(⟨false,3⟩:Target)⟩:Question)).getD default)) I (λb18=>?_) ?_
 ·refine .A 2 I<|.q I (.call I (kC I) I (symmetry_Less_ok _ _ _ _ (someD (impT c19 b18))))<|.nil I
 refine .A 1 I<|gK h λc21 h=>gK h λc22 h=>.jA 5 (((symmetry_Holds n x1 ((idx x2.2 0).getD default)).getD default)) I (λb20=>?_) ?_
 ·refine .A 2 I<|.q I (.ix I U42 S41 (someD (impT c21 b20)))<|.A 1 I<|.q I (.call I (kC I) I (symmetry_Holds_ok _ _ _ _ (someD (impT c22 b20))))<|.nil I
 refine .A 1 I<|.nil<|.nil<|.K [0] I<|.ret (rO h I)
theorem ref09_Few_ok (n t0 t1 r) (h:ref09_Few n t0 t1=some r):Pure pg 86 [eA t0,eB t1] (.bool r):=by
 refine Pure.ot Tryz.func86 I Tryz.ntmps86 I λA w=>.sA 1 I<|.seq<|.sA 1 I<|.block<|.L [0,1] h (λv=>[(5,.d (.int v))]) (λv=>[]) I λ_ x9 h=>.seq<|.S 2 I<|.p I (.len I U23 I)<|.A 1 I<|.nil<|.K [0,1,5,9] I<|.condS I h (λh=>?_) λh=>?_
 ·refine .skip<|.seq<|.block<|.seq<|.plain 16 I<|.A 2 I<|.X h I λx11 h=>.p I (.fa I (G118_0 _))<|.A 1 I<|.p I (.len_str I U9 I)<|.A 2 I<|gK h λc13 h=>.jO 7 (decide (12<((((idx t1 x9).getD default).columns).length:Int))) I (λb12=>?_) ?_
  ·refine .A 2 I<|.q I (.ix I U23 S118 (someD (impF c13 b12)))<|.q I (.fa I (G118_2 _))<|.A 1 I<|.q I (.len I U22 I)<|.A 1 I<|.nil I
  refine .nil<|.nil<|.K [0,1,5,27] I<|.condS I h (λh=>?_) λh=>?_
  ·refine .sA 1 I<|.ret (rO h I)
  ·refine .skip<|.rA 3 I (ndE h I)
 ·refine .exit<|.seq<|.plain 8 I<|.A 1 I<|.p I (.len I U22 I)<|.A 2 I<|.jA 3 (decide ((t1.length:Int)≤20)) I (λb14=>?_) ?_
  ·refine .A 1 I<|.q I (.len I U23 I)<|.A 1 I<|.nil I
  refine .nil<|.A 1 I<|.nil<|.ret (rO h I)
theorem ref13_Bounded_ok (n t0 r) (h:ref13_Bounded n t0=some r):Pure pg 47 [Model.enc t0] (.bool r):=by
 refine Pure.ot Tryz.func47 I Tryz.ntmps47 I λA w=>.sA 2 I<|.seq<|.seq<|.plain 48 I<|.A 2 I<|.p I (.len I U22 I)<|.A 2 I<|.jO 4 (decide (6<(t0.tables.length:Int))) I (λb1=>?_) ?_
 ·refine .A 2 I<|.q I (.len I U23 I)<|.A 1 I<|.nil I
 refine .A 1 I<|.jO 4 (decide (20<(t0.families.length:Int))) I (λb2=>?_) ?_
 ·refine .A 2 I<|.q I (.len I U24 I)<|.A 1 I<|.nil I
 refine .A 1 I<|.jO 4 (decide (60<(t0.constraints.length:Int))) I (λb3=>?_) ?_
 ·refine .A 2 I<|.q I (.len I U25 I)<|.A 1 I<|.nil I
 refine .A 1 I<|.jO 4 (decide (8<(t0.operations.length:Int))) I (λb4=>?_) ?_
 ·refine .A 2 I<|.q I (.len I U26 I)<|.A 1 I<|.nil I
 refine .A 1 I<|.jO 4 (decide (30<(t0.actions.length:Int))) I (λb5=>?_) ?_
 ·refine .A 2 I<|.q I (.len I U27 I)<|.A 1 I<|.nil I
 refine .A 1 I<|.jO 4 (decide (12<(t0.hides.length:Int))) I (λb6=>?_) ?_
 ·refine .A 2 I<|.q I (.len I U28 I)<|.A 1 I<|.nil I
 refine .A 1 I<|gK h λc8 h=>.jO 6 (!((ref09_Few n t0.sorts t0.tables).getD default)) I (λb7=>?_) ?_
 ·refine .A 4 I<|.q I (.call I (kC I) I (ref09_Few_ok _ _ _ _ (someD (impF c8 b7))))<|.A 1 I<|.nil I
 refine .nil<|.nil<|.K [1,56] I<|.condS I h (λh=>?_) λh=>?_
 ·refine .sA 1 I<|.ret (rO h I)
 ·refine .skip<|.seq<|.sA 1 I<|.block<|.L [1] h (λv=>[(3,.d (.int v))]) (λv=>[]) I λ_ x13 h=>.seq<|.S 3 I<|.p I (.len I U24 I)<|.A 1 I<|.nil<|.K [1,3,61] I<|.condS I h (λh=>?_) λh=>?_
  ·refine .skip<|.seq<|.block<|.S 3 I<|.X h I λx15 h=>.A 1 I<|.p I (.len_str I U9 I)<|.A 1 I<|.nil<|.condS I h (λh=>?_) λh=>?_
   ·refine .sA 1 I<|.ret (rO h I)
   ·refine .skip<|.rA 3 I (ndE h I)
  ·refine .exit<|.seq<|.sA 1 I<|.block<|.L [1] h (λv=>[(4,.d (.int v))]) (λv=>[]) I λ_ x20 h=>.seq<|.S 3 I<|.p I (.len I U25 I)<|.A 1 I<|.nil<|.K [1,4,75] I<|.condS I h (λh=>?_) λh=>?_
   ·refine .skip<|.seq<|.block<|.S 3 I<|.X h I λx22 h=>.p I (.fa I (G135_2 _))<|.p I (.fa I (G72_0 _))<|.A 1 I<|.p I (.len I U70 I)<|.A 1 I<|.nil<|.condS I h (λh=>?_) λh=>?_
    ·refine .sA 1 I<|.ret (rO h I)
    ·refine .skip<|.rA 3 I (ndE h I)
   ·refine .exit<|.seq<|.sA 1 I<|.block<|.L [1] h (λv=>[(5,.d (.int v))]) (λv=>[]) I λ_ x31 h=>.seq<|.S 3 I<|.p I (.len I U26 I)<|.A 1 I<|.nil<|.K [1,5,91] I<|.condS I h (λh=>?_) λh=>?_
    ·refine .skip<|.seq<|.block<|.seq<|.plain 18 I<|.A 3 I<|.X h I λx33 h=>.p I (.fa I (G133_0 _))<|.A 1 I<|.p I (.len_str I U9 I)<|.A 2 I<|gK h λc35 h=>.jO 8 (decide (6<((((idx t0.operations x31).getD default).sorts).length:Int))) I (λb34=>?_) ?_
     ·refine .A 3 I<|.q I (.ix I U26 S133 (someD (impF c35 b34)))<|.q I (.fa I (G133_2 _))<|.A 1 I<|.q I (.len I U22 I)<|.A 1 I<|.nil I
     refine .nil<|.nil<|.K [1,5,111] I<|.condS I h (λh=>?_) λh=>?_
     ·refine .sA 1 I<|.ret (rO h I)
     ·refine .skip<|.rA 3 I (ndE h I)
    ·refine .exit<|.seq<|.sA 1 I<|.block<|.L [1] h (λv=>[(6,.d (.int v))]) (λv=>[]) I λ_ x62 h=>.seq<|.S 3 I<|.p I (.len I U27 I)<|.A 1 I<|.nil<|.K [1,6,116] I<|.condS I h (λh=>?_) λh=>?_
     ·refine .skip<|.seq<|.block<|.S 3 I<|.X h I λx64 h=>.p I (.fa I (G65_2 _))<|.A 1 I<|.allocStore I I I I I I I I (by simp) I I Z63<|.nil<|.seq<|.seq<|.plain 26 I<|.A 3 I<|.X h I λx65 h=>.p I (.fa I (G65_1 _))<|.A 1 I<|.p I (.len I U22 I)<|.A 2 I<|.jO 4 (decide (20<(x64.effect.delta.length:Int))) I (λb66=>?_) ?_
      ·refine .q I (.fa I (G63_0 _))<|.A 1 I<|.q I (.len I U59 I)<|.A 1 I<|.nil I
      refine .A 1 I<|.jO 4 (decide (10<(x64.effect.hold.length:Int))) I (λb67=>?_) ?_
      ·refine .q I (.fa I (G63_1 _))<|.A 1 I<|.q I (.len I U60 I)<|.A 1 I<|.nil I
      refine .A 1 I<|.jO 4 (decide (40<(x64.effect.updates.length:Int))) I (λb68=>?_) ?_
      ·refine .q I (.fa I (G63_2 _))<|.A 1 I<|.q I (.len I U61 I)<|.A 1 I<|.nil I
      refine .nil<|.nil<|.K [1,6,7,150] I<|.condS I h (λh=>?_) λh=>?_
      ·refine .sA 1 I<|.ret (rO h I)
      ·refine .skip<|.sA 1 I<|.block<|.L [1,6,7] h (λv=>[(8,.d (.int v))]) (λv=>[]) I λ_ x73 h=>.seq<|.S 1 I<|.p I (.fa I (G63_1 _))<|.A 1 I<|.p I (.len I U60 I)<|.A 1 I<|.nil<|.K [1,6,7,8,155] I<|.condS I h (λh=>?_) λh=>?_
       ·refine .skip<|.seq<|.block<|.sr<|.p I (.fa I (G63_1 _))<|.A 2 I<|.X h I λx75 h=>.p I (.fa I (G72_0 _))<|.A 1 I<|.p I (.len I U70 I)<|.A 1 I<|.nil<|.condS I h (λh=>?_) λh=>?_
        ·refine .sA 1 I<|.ret (rO h I)
        ·refine .skip<|.rA 3 I (ndE h I)
       ·refine .exit<|.rA 3 I (ndE h I)
     ·refine .exit<|.sA 1 I<|.ret (rO h I)
theorem ref09_sound_ok (n t0 r) (h:ref09_sound n t0=some r):Pure pg 96 [eA t0] (.bool r):=by
 refine Pure.ot Tryz.func96 I Tryz.ntmps96 I λA w=>.sA 1 I<|.seq<|.sA 1 I<|.block<|.L [0] h (λv=>[(3,.d (.int v))]) (λv=>[]) I λ_ x9 h=>.seq<|.S 2 I<|.p I (.len I U22 I)<|.A 1 I<|.nil<|.K [0,3,7] I<|.condS I h (λh=>?_) λh=>?_
 ·refine .skip<|.seq<|.block<|.seq<|.plain 12 I<|.A 2 I<|.X h I λx11 h=>.A 3 I<|gK h λc13 h=>.jO 5 (decide (6<((idx t0 x9).getD default))) I (λb12=>?_) ?_
  ·refine .A 2 I<|.q I (.ix I U22 S3 (someD (impF c13 b12)))<|.A 2 I<|.nil I
  refine .nil<|.nil<|.condS I h (λh=>?_) λh=>?_
  ·refine .sA 1 I<|.ret (rO h I)
  ·refine .skip<|.rA 3 I (ndE h I)
 ·refine .exit<|.sA 1 I<|.ret (rO h I)
theorem ref09_number_ok (n t0 t1 r) (h:ref09_number n t0 t1=some r):Pure pg 97 [eA t0,eA t1] (.int r):=by
 refine Pure.ot Tryz.func97 I Tryz.ntmps97 I λA w=>.sA 1 I<|.seq<|.seq<|.plain 8 I<|.A 1 I<|.p I (.len I U22 I)<|.A 2 I<|gK h λc2 h=>.jO 3 (!((ref09_sound n t0).getD default)) I (λb1=>?_) ?_
 ·refine .A 1 I<|.q I (.call I (kC I) I (ref09_sound_ok _ _ _ (someD (impF c2 b1))))<|.A 1 I<|.nil I
 refine .nil<|.nil<|.condS I h (λh=>?_) λh=>?_
 ·refine .sA 1 I<|.ret (rO h I)
 ·refine .skip<|.sA 1 I<|.seq<|.sA 1 I<|.block<|.L [0,1] h (λv=>[(5,.d (.int v.1)),(6,.d (.int v.2))]) (λv=>[]) I λ_ ⟨x17,x18⟩ h=>.seq<|.S 2 I<|.p I (.len I U22 I)<|.A 1 I<|.nil<|.K [0,1,5,6,18] I<|.condS I h (λh=>?_) λh=>?_
  ·refine .skip<|.seq<|.block<|.seq<|.seq<|.plain 14 I<|.A 2 I<|.X h I λx20 h=>.A 3 I<|gK h λc22 h=>.jO 7 (decide ((t0.length:Int)≤((idx t1 x18).getD default))) I (λb21=>?_) ?_
   ·refine .A 2 I<|.q I (.ix I U22 S3 (someD (impF c22 b21)))<|.A 2 I<|.q I (.len I U22 I)<|.A 1 I<|.nil I
   refine .nil<|.nil<|.condS I h (λh=>?_) λh=>?_
   ·refine .sA 1 I<|.ret (rO h I)
   ·refine .skip<|.region<|.A 4 I<|.X h I λx23 h=>.A 1 I<|.X h I λx24 h=>.A 3 I<|.nil<|.K [0,1,5,6] I<|.rA 3 I (ndE h I)
  ·refine .exit<|.sA 2 I<|.ret (rO h I)
theorem ref02_white_ok (n t0 r) (h:ref02_white n t0=some r):Pure pg 249 [.val (.int .u8 t0)] (.bool r):=by
 refine Pure.ot Tryz.func249 I Tryz.ntmps249 I λA w=>.sA 1 I<|.seq<|.plain 14 I<|.A 3 I<|.jO 2 (t0==10) I (λb1=>?_) ?_
 ·refine .A 2 I<|.nil I
 refine .A 1 I<|.jO 2 (t0==13) I (λb2=>?_) ?_
 ·refine .A 2 I<|.nil I
 refine .A 1 I<|.jO 2 (t0==32) I (λb3=>?_) ?_
 ·refine .A 2 I<|.nil I
 refine .nil<|.A 1 I<|.nil<|.K [2] I<|.ret (rO h I)
theorem ref02_skip_ok (n t0 t1 r) (h:ref02_skip n t0 t1=some r):Pure pg 223 [.str t0,.int t1] (.int r):=by
 refine Pure.ot Tryz.func223 I Tryz.ntmps223 I λA w=>.sA 1 I<|.seq<|.block<|.L [0] h (λv=>[(1,.d (.int v))]) (λv=>[]) I λ_ x35 h=>.seq<|.seq<|.plain 16 I<|.A 2 I<|.p I (.len_str I U9 I)<|.A 2 I<|gK h λc38 h=>gK h λc39 h=>gK h λc41 h=>.jA 10 (((ref02_white n ((sidx t0 x35).getD default)).getD default)||(((sidx t0 x35).getD default)==35)) I (λb37=>?_) ?_
 ·refine .A 2 I<|.q I (.sidx I I I U9 (someD (impT c38 b37)))<|.q I (.call I (kC I) I (ref02_white_ok _ _ _ (someD (impT c39 b37))))<|.A 1 I<|.jOr 4 (b2:=((sidx t0 x35).getD default)==35) I I I I (.inr ⟨_,_,_,I,I,I⟩) (λ_ _ _ h1 h2=>by cases h1;cases h2;decide) I I (λb40=>?_) ?_
  ·refine .A 2 I<|.q I (.sidx I I I U9 (someD (impF (impT c41 b37) b40)))<|.A 1 I<|.nil I
  exact .nil I
 refine .nil<|.nil<|.K [0,1,20] I<|.condS I h (λh=>?_) λh=>?_
 ·refine .skip<|.block<|.S 2 I<|bK h λx42 q42 h=>.p I (.sidx I I I U9 q42)<|.A 1 I<|.nil<|.condS I h (λh=>?_) λh=>?_
  ·refine .block<|.L [0] h (λv=>[(1,.d (.int v))]) (λv=>[]) I λ_ x49 h=>.seq<|.seq<|.plain 10 I<|.A 2 I<|.p I (.len_str I U9 I)<|.A 2 I<|gK h λc52 h=>.jA 4 (((sidx t0 x49).getD default) != 10) I (λb51=>?_) ?_
   ·refine .A 2 I<|.q I (.sidx I I I U9 (someD (impT c52 b51)))<|.A 1 I<|.nil I
   refine .nil<|.nil<|.K [0,1,34] I<|.condS I h (λh=>?_) λh=>?_
   ·refine .skip<|.block<|.rA 3 I (ndE h I)
   ·refine .exit (ndE h I)
  ·refine .rA 3 I (ndE h I)
 ·refine .exit<|.sA 2 I<|.ret (rO h I)
theorem ref02_letter_ok (n t0 r) (h:ref02_letter n t0=some r):Pure pg 250 [.val (.int .u8 t0)] (.bool r):=by
 refine Pure.ot Tryz.func250 I Tryz.ntmps250 I λA w=>.sA 1 I<|.seq<|.plain 6 I<|.A 3 I<|.jA 2 (decide (t0≤122)) I (λb1=>?_) ?_
 ·refine .A 2 I<|.nil I
 refine .nil<|.A 1 I<|.nil<|.ret (rO h I)
theorem ref02_digit_ok (n t0 r) (h:ref02_digit n t0=some r):Pure pg 251 [.val (.int .u8 t0)] (.bool r):=by
 refine Pure.ot Tryz.func251 I Tryz.ntmps251 I λA w=>.sA 1 I<|.seq<|.plain 6 I<|.A 3 I<|.jA 2 (decide (t0≤57)) I (λb1=>?_) ?_
 ·refine .A 2 I<|.nil I
 refine .nil<|.A 1 I<|.nil<|.ret (rO h I)
theorem ref02_Keywords_ok (n r) (h:ref02_Keywords n=some r):Pure pg 252 [] (eC r):=by
 refine Pure.ot Tryz.func252 I Tryz.ntmps252 I λA w=>.sr<|.p I (.nilS 1 (α:=List UInt8) D.str I)<|.nil<|.sr<|.p I (.buildSl [_,_,_,_,_,_,_,_,_,_,_,_,_,_,_,_,_,_,_,_,_,_,_,_,_,_,_,_,_,_,_,_,_,_,_] I I E24 I (λ_=>I) I (enc:=D.str))<|.A 1 I<|.nil<|.ret ?_
 cases h
 exact retOne I (.d _)
theorem ref02_Has_ok (n t0 t1 r) (h:ref02_Has n t0 t1=some r):Pure pg 100 [eC t0,.str t1] (.bool r):=by
 refine Pure.ot Tryz.func100 I Tryz.ntmps100 I λA w=>.sA 1 I<|.seq<|.sA 1 I<|.block<|.L [0,1] h (λv=>[(5,.d (.int v))]) (λv=>[]) I λ_ x5 h=>.seq<|.S 2 I<|.p I (.len I U24 I)<|.A 1 I<|.nil<|.K [0,1,5,9] I<|.condS I h (λh=>?_) λh=>?_
 ·refine .skip<|.seq<|.block<|.S 2 I<|.X h I λx7 h=>.A 2 I<|.p I (.str_eql I I I)<|.nil<|.condS I h (λh=>?_) λh=>?_
  ·refine .sA 1 I<|.ret (rO h I)
  ·refine .skip<|.rA 3 I (ndE h I)
 ·refine .exit<|.sA 1 I<|.ret (rO h I)
theorem ref02_Symbols_ok (n r) (h:ref02_Symbols n=some r):Pure pg 286 [] (eC r):=by
 refine Pure.ot Tryz.func286 I Tryz.ntmps286 I λA w=>.sr<|.p I (.nilS 1 (α:=List UInt8) D.str I)<|.nil<|.sr<|.p I (.buildSl [_,_,_,_,_,_,_,_,_,_,_,_,_,_,_,_,_,_] I I E24 I (λ_=>I) I (enc:=D.str))<|.A 1 I<|.nil<|.ret ?_
 cases h
 exact retOne I (.d _)
theorem ref02_symbol_ok (n t0 t1 r) (h:ref02_symbol n t0 t1=some r):Pure pg 253 [.str t0,.int t1] (.int r):=by
 refine Pure.ot Tryz.func253 I Tryz.ntmps253 I λA w=>.sA 1 I<|.sr<|.Z h I (ref02_Symbols_ok _ ) λx1 h=>.A 1 I<|.nil<|.seq<|.sA 1 I<|.block<|.L [0,1,5] h (λv=>[(6,.d (.int v))]) (λv=>[]) I λ_ x12 h=>.seq<|.S 2 I<|.p I (.len I U24 I)<|.A 1 I<|.nil<|.K [0,1,5,6,12] I<|.condS I h (λh=>?_) λh=>?_
 ·refine .skip<|.seq<|.block<|.S 2 I<|.X h I λx14 h=>.A 1 I<|.p I (.len_str I U9 I)<|.A 1 I<|.nil<|.seq<|.draw 19 Hm (by kernel_rfl) (by kernel_rfl)<|.A 4 I<|.p I (.len_str I U9 I)<|.A 2 I<|gK h λc16 h=>gK h λc17 h=>.jA 11 (decide (((cut t0 t1 (add64 t1 (x14.length:Int))).getD default)=((idx x1 x12).getD default))) I (λb15=>?_) ?_
  ·refine .A 5 I<|.q I (.cutStrLH I I I I U9 (someD (impT c16 b15)))<|.A 2 I<|.q I (.ix I U24 S9 (someD (impT c17 b15)))<|.A 1 I<|.q I (.str_eql I I I)<|.nil I
  refine .nil<|.nil<|.K [0,1,5,6,7,38] I<|.condS I h (λh=>?_) λh=>?_
  ·refine .sA 2 I<|.ret (rO h I)
  ·refine .skip<|.rA 3 I (ndE h I)
 ·refine .exit<|.sA 1 I<|.ret (rO h I)
theorem ref02_token_ok (n t0 t1 r) (h:ref02_token n t0 t1=some r):Pure pg 224 [.str t0,.int t1] (.tup [.int r.1,.int r.2]):=by
 refine Pure.ot Tryz.func224 I Tryz.ntmps224 I λA w=>.sA 2 I<|.sA 2 I<|.seq<|.S 2 I<|bK h λx1 q1 h=>.p I (.sidx I I I U9 q1)<|.Z h I (ref02_letter_ok _ _) λx2 h=>.nil<|.condS I h (λh=>?_) λh=>?_
 ·refine .seq<|.block<|.L [0,1] h (λv=>[(6,.d (.int v))]) (λv=>[]) I λ_ x21 h=>.seq<|.seq<|.plain 22 I<|.A 2 I<|.p I (.len_str I U9 I)<|.A 2 I<|gK h λc24 h=>gK h λc25 h=>gK h λc27 h=>gK h λc28 h=>gK h λc30 h=>.jA 16 ((((ref02_letter n ((sidx t0 x21).getD default)).getD default)||((ref02_digit n ((sidx t0 x21).getD default)).getD default))||(((sidx t0 x21).getD default)==95)) I (λb23=>?_) ?_
  ·refine .A 2 I<|.q I (.sidx I I I U9 (someD (impT c24 b23)))<|.q I (.call I (kC I) I (ref02_letter_ok _ _ _ (someD (impT c25 b23))))<|.A 1 I<|.jOr 4 (b2:=((ref02_digit n ((sidx t0 x21).getD default)).getD default)) I I I I (.inr ⟨_,_,_,I,I,I⟩) (λ_ _ _ h1 h2=>by cases h1;cases h2;decide) I I (λb26=>?_) ?_
   ·refine .A 2 I<|.q I (.sidx I I I U9 (someD (impF (impT c27 b23) b26)))<|.q I (.call I (kC I) I (ref02_digit_ok _ _ _ (someD (impF (impT c28 b23) b26))))<|.nil I
   refine .A 1 I<|.jOr 4 (b2:=((sidx t0 x21).getD default)==95) I I I I (.inr ⟨_,_,_,I,I,I⟩) (λ_ _ _ h1 h2=>by cases h1;cases h2;decide) I I (λb29=>?_) ?_
   ·refine .A 2 I<|.q I (.sidx I I I U9 (someD (impF (impT c30 b23) b29)))<|.A 1 I<|.nil I
   exact .nil I
  refine .nil<|.nil<|.K [0,1,6,34] I<|.condS I h (λh=>?_) λh=>?_
  ·refine .skip<|.block<|.rA 3 I (ndE h I)
  ·refine .exit<|.seq<|.seq<|.draw 6 Hm (by kernel_rfl) (by kernel_rfl)<|.Z h I (ref02_Keywords_ok _ ) λx31 h=>.A 3 I<|bK h λx32 q32 h=>.p I (.cutStrLH I I I I U9 q32)<|.Z h I (ref02_Has_ok _ _ _) λx33 h=>.nil<|.nil<|.condS I h (λh=>?_) λh=>?_
   ·refine .sA 3 I<|.ret ?_
    cases h
    exact retTwo I I (.d _) (.d _)
   ·refine .skip<|.sA 3 I<|.ret ?_
    cases h
    exact retTwo I I (.d _) (.d _)
 ·refine .skip<|.seq<|.S 2 I<|bK h λx34 q34 h=>.p I (.sidx I I I U9 q34)<|.Z h I (ref02_digit_ok _ _) λx35 h=>.nil<|.condS I h (λh=>?_) λh=>?_
  ·refine .seq<|.block<|.L [0] h (λv=>[(6,.d (.int v))]) (λv=>[]) I λ_ x44 h=>.seq<|.seq<|.plain 10 I<|.A 2 I<|.p I (.len_str I U9 I)<|.A 2 I<|gK h λc47 h=>gK h λc48 h=>.jA 4 (((ref02_digit n ((sidx t0 x44).getD default)).getD default)) I (λb46=>?_) ?_
   ·refine .A 2 I<|.q I (.sidx I I I U9 (someD (impT c47 b46)))<|.q I (.call I (kC I) I (ref02_digit_ok _ _ _ (someD (impT c48 b46))))<|.nil I
   refine .nil<|.nil<|.K [0,6,58] I<|.condS I h (λh=>?_) λh=>?_
   ·refine .skip<|.block<|.rA 3 I (ndE h I)
   ·refine .exit<|.sA 3 I<|.ret ?_
    cases h
    exact retTwo I I (.d _) (.d _)
  ·refine .skip<|.seq<|.S 2 I<|.Z h I (ref02_symbol_ok _ _ _) λx49 h=>.A 1 I<|.nil<|.K [0,1,6,7] I<|.sA 2 I<|.condS I h (λh=>?_) λh=>?_
   ·refine .sA 5 I<|.ret ?_
    cases h
    exact retTwo I I (.d _) (.d _)
   ·refine .skip<|.seq<|.block<|.L [0] h (λv=>[(6,.d (.int v))]) (λv=>[]) I λ_ x78 h=>.seq<|.seq<|.plain 37 I<|.A 2 I<|.p I (.len_str I U9 I)<|.A 2 I<|gK h λc81 h=>gK h λc82 h=>.jA 5 (!((ref02_white n ((sidx t0 x78).getD default)).getD default)) I (λb80=>?_) ?_
    ·refine .A 2 I<|.q I (.sidx I I I U9 (someD (impT c81 b80)))<|.q I (.call I (kC I) I (ref02_white_ok _ _ _ (someD (impT c82 b80))))<|.A 1 I<|.nil I
    refine .A 1 I<|gK h λc84 h=>.jA 4 (((sidx t0 x78).getD default) != 35) I (λb83=>?_) ?_
    ·refine .A 2 I<|.q I (.sidx I I I U9 (someD (impT c84 b83)))<|.A 1 I<|.nil I
    refine .A 1 I<|gK h λc86 h=>gK h λc87 h=>.jA 5 (!((ref02_letter n ((sidx t0 x78).getD default)).getD default)) I (λb85=>?_) ?_
    ·refine .A 2 I<|.q I (.sidx I I I U9 (someD (impT c86 b85)))<|.q I (.call I (kC I) I (ref02_letter_ok _ _ _ (someD (impT c87 b85))))<|.A 1 I<|.nil I
    refine .A 1 I<|gK h λc89 h=>gK h λc90 h=>.jA 5 (!((ref02_digit n ((sidx t0 x78).getD default)).getD default)) I (λb88=>?_) ?_
    ·refine .A 2 I<|.q I (.sidx I I I U9 (someD (impT c89 b88)))<|.q I (.call I (kC I) I (ref02_digit_ok _ _ _ (someD (impT c90 b88))))<|.A 1 I<|.nil I
    refine .A 1 I<|gK h λc92 h=>.jA 4 (((ref02_symbol n t0 x78).getD default)==0) I (λb91=>?_) ?_
    ·refine .A 2 I<|.q I (.call I (kC I) I (ref02_symbol_ok _ _ _ _ (someD (impT c92 b91))))<|.A 1 I<|.nil I
    refine .nil<|.nil<|.K [0,6,106] I<|.condS I h (λh=>?_) λh=>?_
    ·refine .skip<|.block<|.rA 3 I (ndE h I)
    ·refine .exit<|.sA 3 I<|.ret ?_
     cases h
     exact retTwo I I (.d _) (.d _)
theorem ref02_Scan_ok (n t0 r) (h:ref02_Scan n t0=some r):Pure pg 186 [.str t0] (.tup [eQ r.1,.int r.2]):=by
 refine Pure.ot Tryz.func186 I Tryz.ntmps186 I λA w=>.sr<|.p I (.nilS 4 (α:=Token) Token.enc I)<|.A 1 I<|.nil<|.seq<|.S 1 I<|.p I (.len_str I U9 I)<|.A 1 I<|.nil<|.condS I h (λh=>?_) λh=>?_
 ·refine .sr<|.p I (.nilS 4 (α:=Token) Token.enc I)<|.A 1 I<|.nil<|.ret ?_
  cases h
  exact retTwo I I (.d _) (.d _)
 ·refine .skip<|.sr<|.buildVec [] I I I I I E223 I (λ_=>I) I (enc:=Token.enc)<|.A 1 I<|.nil<|.sA 1 I<|.seq<|.block<|.L [0] h (λv=>[(4,.vec 0 (List.length v.1)),(5,.d (.int v.2))]) (λv=>[(0,.vec 227 4 (List.map Token.enc v.1))]) I λ_ ⟨b0_13,x14⟩ h=>.seq<|.S 2 I<|.Z h I (ref02_skip_ok _ _ _) λx16 h=>.A 1 I<|.p I (.len_str I U9 I)<|.A 1 I<|.nil<|.K [0,4,5,18] I<|.condS I h (λh=>?_) λh=>?_
  ·refine .skip<|.block<|.S 2 I<|.Z h I (ref02_skip_ok _ _ _) λx17 h=>.A 1 I<|.nil<|.S 2 I<|.Z h I (ref02_token_ok _ _ _) λx18 h=>.A 1 I<|.p I (.extract I I I)<|.p I (.extract I I I)<|.A 2 I<|.nil<|.S 5 I<|.p I (.castD (Token.enc (⟨x18.1,x14,x17,x18.2⟩:Token)) I (.build I Pl227 (.agg Zc227 (ds':=[_,_,_,_]) (.e (.e (.e .e1)))) I I))<|.p I (.buildSl [_] I I E223 I (λ_=>I) I (enc:=Token.enc))<|bK h λx19 q19 h=>.app I I I I I I I I E223 I (λ_=>I) q19<|.A 1 I<|.nil<|.K [0,4,8] I<|.rA 2 I (ndE h I)
  ·refine .exit<|.S 3 I<|.p I (.len_str I U9 I)<|.A 1 I<|.p I (.len_str I U9 I)<|.p I (.castD (Token.enc (⟨0,x14,(t0.length:Int),(t0.length:Int)⟩:Token)) I (.build I Pl227 (.agg Zc227 (ds':=[_,_,_,_]) (.e (.e (.e .e1)))) I I))<|.p I (.buildSl [_] I I E223 I (λ_=>I) I (enc:=Token.enc))<|bK h λx20 q20 h=>.app I I I I I I I I E223 I (λ_=>I) q20<|.A 2 I<|.nil<|.ret ?_
   cases h
   exact retTwo I I (.vec I (by simp)) (.d _)
theorem ref02_Kind_ok (n t0 r) (h:ref02_Kind n t0=some r):Pure pg 140 [.str t0] (.int r):=by
 refine Pure.ot Tryz.func140 I Tryz.ntmps140 I λA w=>.sA 1 I<|.S 1 I<|.Z h I (ref02_Scan_ok _ _) λx1 h=>.A 1 I<|.p I (.extract I I I)<|.p I (.extract I I I)<|.A 2 I<|.nil<|.seq<|.seq<|.plain 23 I<|.A 3 I<|.jO 3 ((x1.1.length:Int) != 2) I (λb2=>?_) ?_
 ·refine .A 1 I<|.q I (.len I U223 I)<|.A 1 I<|.nil I
 refine .A 1 I<|gK h λc4 h=>.jO 5 ((((idx x1.1 0).getD default).at_) != 0) I (λb3=>?_) ?_
 ·refine .A 1 I<|.q I (.ix I U223 S227 (someD (impF c4 b3)))<|.q I (.fa I (G227_2 _))<|.A 2 I<|.nil I
 refine .A 1 I<|gK h λc6 h=>.jO 7 ((((idx x1.1 0).getD default).end_) != (t0.length:Int)) I (λb5=>?_) ?_
 ·refine .A 1 I<|.q I (.ix I U223 S227 (someD (impF c6 b5)))<|.q I (.fa I (G227_3 _))<|.A 2 I<|.q I (.len_str I U9 I)<|.A 1 I<|.nil I
 refine .nil<|.nil<|.K [3,32] I<|.condS I h (λh=>?_) λh=>?_
 ·refine .sA 1 I<|.ret (rO h I)
 ·refine .skip<|.S 1 I<|.X h I λx7 h=>.p I (.fa I (G227_0 _))<|.A 2 I<|.nil<|.ret (rO h I)
theorem ref02_Name_ok (n t0 r) (h:ref02_Name n t0=some r):Pure pg 98 [.str t0] (.bool r):=by
 refine Pure.ot Tryz.func98 I Tryz.ntmps98 I λA w=>.sA 1 I<|.seq<|.plain 8 I<|.A 1 I<|.Z h I (ref02_Kind_ok _ _) λx1 h=>.A 2 I<|.jA 3 (decide ((t0.length:Int)≤16)) I (λb2=>?_) ?_
 ·refine .A 1 I<|.q I (.len_str I U9 I)<|.A 1 I<|.nil I
 refine .nil<|.A 1 I<|.nil<|.ret (rO h I)
theorem ref09_strict_ok (n t0 r) (h:ref09_strict n t0=some r):Pure pg 99 [.int t0] (.bool r):=by
 refine Pure.ot Tryz.func99 I Tryz.ntmps99 I λA w=>.sA 1 I<|.seq<|.plain 6 I<|.A 3 I<|.jO 2 (t0==1) I (λb1=>?_) ?_
 ·refine .A 2 I<|.nil I
 refine .nil<|.A 1 I<|.nil<|.ret (rO h I)
theorem ref09_Valid_ok (n t0 t1 r) (h:ref09_Valid n t0 t1=some r):Pure pg 62 [eA t0,eB t1] (.bool r):=by
 refine Pure.ot Tryz.func62 I Tryz.ntmps62 I λA w=>.sA 1 I<|.seq<|.seq<|.plain 13 I<|.A 1 I<|.p I (.len I U22 I)<|.A 2 I<|gK h λc2 h=>.jO 3 (!((ref09_sound n t0).getD default)) I (λb1=>?_) ?_
 ·refine .A 1 I<|.q I (.call I (kC I) I (ref09_sound_ok _ _ _ (someD (impF c2 b1))))<|.A 1 I<|.nil I
 refine .A 1 I<|.jO 3 (decide (12<(t1.length:Int))) I (λb3=>?_) ?_
 ·refine .A 1 I<|.q I (.len I U23 I)<|.A 1 I<|.nil I
 refine .nil<|.nil<|.condS I h (λh=>?_) λh=>?_
 ·refine .sA 1 I<|.ret (rO h I)
 ·refine .skip<|.sA 2 I<|.K [0,1,5,6] I<|.seq<|.sA 1 I<|.block<|.L [0,1] h (λv=>[(5,.d (.int v.1)),(6,.d (.int v.2.1)),(7,.d (.int v.2.2))]) (λv=>[]) I λ_ ⟨x56,x57,x58⟩ h=>.seq<|.S 2 I<|.p I (.len I U23 I)<|.A 1 I<|.nil<|.K [0,1,5,6,7,27] I<|.condS I h (λh=>?_) λh=>?_
  ·refine .skip<|.J [0,1,7] h (λv=>[(5,.d (.int v.1)),(6,.d (.int v.2))]) (λv=>[]) I (λk_62 h=>?_) (λv h=>?_)
   ·refine .block<|.S 2 I<|.X h I λx63 h=>.A 1 I<|.allocStore I I I I I I I I (by simp) I I Z118<|.nil<|.seq<|.sA 1 I<|.block<|.L [0,1,5,6,7,8] h (λv=>[(9,.d (.int v))]) (λv=>[]) I λ_ x68 h=>.seq<|.sA 3 I<|.condS I h (λh=>?_) λh=>?_
    ·refine .skip<|.seq<|.block<|.seq<|.draw 8 Hm (by kernel_rfl) (by kernel_rfl)<|.A 2 I<|.X h I λx70 h=>.p I (.fa I (G118_0 _))<|.A 1 I<|.p I (.fa I (G118_0 _))<|.A 1 I<|.p I (.str_eql I I I)<|.nil<|.nil<|.condS I h (λh=>?_) λh=>?_
     ·refine .sA 1 I<|.ret (rO h I)
     ·refine .skip<|.rA 3 I (ndE h I)
    ·refine .exit<|.S 1 I<|.p I (.fa I (G118_2 _))<|.A 1 I<|.Z h I (ref09_number_ok _ _ _) λx71 h=>.A 1 I<|.nil<|.seq<|.seq<|.plain 18 I<|.p I (.fa I (G118_0 _))<|.A 1 I<|.Z h I (ref02_Name_ok _ _) λx72 h=>.A 2 I<|.jO 3 (decide (x63.kind<0)) I (λb73=>?_) ?_
     ·refine .q I (.fa I (G118_1 _))<|.A 2 I<|.nil I
     refine .A 1 I<|.jO 3 (decide (5<x63.kind)) I (λb74=>?_) ?_
     ·refine .q I (.fa I (G118_1 _))<|.A 2 I<|.nil I
     refine .A 1 I<|.jO 2 (x71==0) I (λb75=>?_) ?_
     ·refine .A 2 I<|.nil I
     refine .nil<|.nil<|.K [0,1,5,6,7,8,10,68] I<|.condS I h (λh=>?_) λh=>?_
     ·refine .sA 1 I<|.ret (rO h I)
     ·refine .skip<|.seq<|.seq<|.plain 19 I<|.p I (.fa I (G118_3 _))<|.p I (.fa I (G85_0 _))<|.A 1 I<|.p I (.fa I (G118_3 _))<|.p I (.fa I (G85_1 _))<|.A 3 I<|.jO 4 (decide (x63.range.lo<(-9999))) I (λb76=>?_) ?_
      ·refine .q I (.fa I (G118_3 _))<|.q I (.fa I (G85_0 _))<|.A 2 I<|.nil I
      refine .A 1 I<|.jO 4 (decide (9999<x63.range.hi)) I (λb77=>?_) ?_
      ·refine .q I (.fa I (G118_3 _))<|.q I (.fa I (G85_1 _))<|.A 2 I<|.nil I
      refine .nil<|.nil<|.K [0,1,5,6,7,8,10,87] I<|.condS I h (λh=>?_) λh=>?_
      ·refine .sA 1 I<|.ret (rO h I)
      ·refine .skip<|.seq<|.seq<|.plain 25 I<|.p I (.fa I (G118_1 _))<|.A 3 I<|.jO 3 (x63.kind==2) I (λb78=>?_) ?_
       ·refine .q I (.fa I (G118_1 _))<|.A 2 I<|.nil I
       refine .A 1 I<|.jO 3 (x63.kind==3) I (λb79=>?_) ?_
       ·refine .q I (.fa I (G118_1 _))<|.A 2 I<|.nil I
       refine .A 1 I<|.jA 10 ((x63.range.lo != 0)||(x63.range.hi != 1)) I (λb80=>?_) ?_
       ·refine .q I (.fa I (G118_3 _))<|.q I (.fa I (G85_0 _))<|.A 3 I<|.jOr 4 (b2:=x63.range.hi != 1) I I I I (.inr ⟨_,_,_,I,I,I⟩) (λ_ _ _ h1 h2=>by cases h1;cases h2;decide) I I (λb81=>?_) ?_
        ·refine .q I (.fa I (G118_3 _))<|.q I (.fa I (G85_1 _))<|.A 2 I<|.nil I
        exact .nil I
       refine .nil<|.nil<|.K [0,1,5,6,7,8,10,112] I<|.condS I h (λh=>?_) λh=>?_
       ·refine .sA 1 I<|.ret (rO h I)
       ·refine .skip<|.sr<|.p I (.fa I (G118_1 _))<|.A 1 I<|.Z h I (ref09_strict_ok _ _) λx82 h=>.nil<|.condS I h (λh=>?_) λh=>?_
        ·refine .seq<|.sr<|.p I (.fa I (G118_4 _))<|.A 3 I<|.nil<|.condS I h (λh=>?_) λh=>?_
         ·refine .sA 1 I<|.ret (rO h I)
         ·refine .skip<|.rA 4 I (ndE h I)
        ·refine .seq<|.sr<|.p I (.fa I (G118_4 _))<|.A 3 I<|.nil<|.condS I h (λh=>?_) λh=>?_
         ·refine .sA 1 I<|.ret (rO h I)
         ·refine .skip<|.rA 4 I (ndE h I)
   ·obtain ⟨x60,x61⟩:=v
    refine .rA 3 I (ndE h I)
  ·refine .exit<|.seq<|.plain 6 I<|.A 3 I<|.jA 2 (decide (x57≤64)) I (λb83=>?_) ?_
   ·refine .A 2 I<|.nil I
   refine .nil<|.A 1 I<|.nil<|.ret (rO h I)
theorem ref09_Ranges_ok (n t0 t1 t2 r) (h:ref09_Ranges n t0 t1 t2=some r):Pure pg 87 [eA t0,eB t1,.bool t2] (eK r):=by
 refine Pure.ot Tryz.func87 I Tryz.ntmps87 I λA w=>.sr<|.p I (.nilS 2 (α:=Range) Range.enc I)<|.nil<|.sr<|.buildVec [] I I I I I E82 I (λ_=>I) I (enc:=Range.enc)<|.A 1 I<|.nil<|.seq<|.S 2 I<|.Z h I (ref09_Valid_ok _ _ _) λx1 h=>.A 1 I<|.nil<|.condS I h (λh=>?_) λh=>?_
 ·refine .sA 2 I<|.ret ?_
  cases h
  exact retOne I (.vec I (by simp))
 ·refine .skip<|.seq<|.sA 1 I<|.block<|.L [0,1,2] h (λv=>[(7,.vec 0 (List.length v.1)),(8,.d (.int v.2))]) (λv=>[(0,.vec 85 2 (List.map Range.enc v.1))]) I λ_ ⟨b0_62,x63⟩ h=>.seq<|.S 2 I<|.p I (.len I U23 I)<|.A 1 I<|.nil<|.K [0,1,2,7,8,19] I<|.condS I h (λh=>?_) λh=>?_
  ·refine .skip<|.seq<|.block<|.sA 1 I<|.block<|.L [0,1,2,8] h (λv=>[(7,.vec 0 (List.length v.1)),(9,.d (.int v.2))]) (λv=>[(0,.vec 85 2 (List.map Range.enc v.1))]) I λ_ ⟨b0_83,x84⟩ h=>.seq<|.seq<|.plain 19 I<|.A 2 I<|.X h I λx86 h=>.p I (.fa I (G118_1 _))<|.A 1 I<|.Z h I (ref09_strict_ok _ _) λx87 h=>.A 1 I<|.p I (.beq I U4 I I)<|.A 1 I<|gK h λc89 h=>gK h λc90 h=>.jA 9 (decide (x84<((ref09_number n t0 (((idx t1 x63).getD default).columns)).getD default))) I (λb88=>?_) ?_
   ·refine .A 4 I<|.q I (.ix I U23 S118 (someD (impT c89 b88)))<|.q I (.fa I (G118_2 _))<|.A 1 I<|.q I (.call I (kC I) I (ref09_number_ok _ _ _ _ (someD (impT c90 b88))))<|.A 1 I<|.nil I
   refine .nil<|.nil<|.K [0,1,2,7,8,9,40] I<|.condS I h (λh=>?_) λh=>?_
   ·refine .skip<|.seq<|.block<|.region<|.A 3 I<|.X h I λx91 h=>.p I (.fa I (G118_3 _))<|.A 1 I<|.p I (.buildSl [_] I I E82 I (λ_=>I) I (enc:=Range.enc))<|bK h λx92 q92 h=>.app I I I I I I I I E82 I (λ_=>I) q92<|.A 1 I<|.nil<|.rA 3 I (ndE h I)
   ·refine .exit<|.rA 3 I (ndE h I)
  ·refine .exit<|.sA 2 I<|.ret ?_
   cases h
   exact retOne I (.vec I (by simp))
theorem ref13_strict_ok (n t0 r) (h:ref13_strict n t0=some r):Pure pg 48 [Model.enc t0] (eK r):=by
 refine Pure.ot Tryz.func48 I Tryz.ntmps48 I λA w=>.S 1 I<|.p I (.nilS 2 (α:=Range) Range.enc I)<|.nil<|.S 4 I<|.Z h I (ref09_Ranges_ok _ _ _ _) λx1 h=>.A 1 I<|.nil<|.ret ?_
 cases h
 exact retOne I (.d _)
theorem ref13_Few_ok (n t0 r) (h:ref13_Few n t0=some r):Pure pg 13 [Model.enc t0] (.bool r):=by
 refine Pure.ot Tryz.func13 I Tryz.ntmps13 I λA w=>.sA 2 I<|.seq<|.seq<|.plain 15 I<|.A 1 I<|.Z h I (ref13_Bounded_ok _ _) λx1 h=>.A 2 I<|.jO 4 (decide (12<(t0.actions.length:Int))) I (λb2=>?_) ?_
 ·refine .A 2 I<|.q I (.len I U27 I)<|.A 1 I<|.nil I
 refine .A 1 I<|.jO 4 (decide (40<(t0.constraints.length:Int))) I (λb3=>?_) ?_
 ·refine .A 2 I<|.q I (.len I U25 I)<|.A 1 I<|.nil I
 refine .nil<|.nil<|.K [1,21] I<|.condS I h (λh=>?_) λh=>?_
 ·refine .sA 1 I<|.ret (rO h I)
 ·refine .skip<|.seq<|.sA 1 I<|.block<|.L [1] h (λv=>[(3,.d (.int v))]) (λv=>[]) I λ_ x8 h=>.seq<|.S 3 I<|.p I (.len I U27 I)<|.A 1 I<|.nil<|.K [1,3,26] I<|.condS I h (λh=>?_) λh=>?_
  ·refine .skip<|.seq<|.block<|.S 3 I<|.X h I λx10 h=>.p I (.fa I (G65_2 _))<|.p I (.fa I (G63_1 _))<|.A 1 I<|.p I (.len I U60 I)<|.A 1 I<|.nil<|.condS I h (λh=>?_) λh=>?_
   ·refine .sA 1 I<|.ret (rO h I)
   ·refine .skip<|.rA 3 I (ndE h I)
  ·refine .exit<|.S 1 I<|.Z h I (ref13_strict_ok _ _) λx11 h=>.A 1 I<|.nil<|.seq<|.S 1 I<|.p I (.len I U82 I)<|.A 1 I<|.nil<|.condS I h (λh=>?_) λh=>?_
   ·refine .sA 1 I<|.ret (rO h I)
   ·refine .skip<|.sA 1 I<|.seq<|.sA 1 I<|.block<|.L [4] h (λv=>[(5,.d (.int v.1)),(6,.d (.int v.2))]) (λv=>[]) I λ_ ⟨x20,x21⟩ h=>.seq<|.S 2 I<|.p I (.len I U82 I)<|.A 1 I<|.nil<|.K [4,5,6,46] I<|.condS I h (λh=>?_) λh=>?_
    ·refine .skip<|.seq<|.block<|.seq<|.draw 15 Hm (by kernel_rfl) (by kernel_rfl)<|.A 3 I<|.X h I λx23 h=>.p I (.fa I (G85_1 _))<|.A 3 I<|.X h I λx24 h=>.p I (.fa I (G85_0 _))<|.A 5 I<|.nil<|.nil<|.sA 2 I<|.K [4,5,6,64] I<|.condS I h (λh=>?_) λh=>?_
     ·refine .sA 1 I<|.ret (rO h I)
     ·refine .skip<|.rA 3 I (ndE h I)
    ·refine .exit<|.sA 1 I<|.ret (rO h I)
theorem ref13_distinct_ok (n t0 r) (h:ref13_distinct n t0=some r):Pure pg 63 [eC t0] (.bool r):=by
 refine Pure.ot Tryz.func63 I Tryz.ntmps63 I λA w=>.sA 1 I<|.seq<|.sA 1 I<|.block<|.L [0] h (λv=>[(3,.d (.int v))]) (λv=>[]) I λ_ x15 h=>.seq<|.S 2 I<|.p I (.len I U24 I)<|.A 1 I<|.nil<|.K [0,3,7] I<|.condS I h (λh=>?_) λh=>?_
 ·refine .skip<|.seq<|.block<|.seq<|.draw 16 Hm (by kernel_rfl) (by kernel_rfl)<|.A 2 I<|.X h I λx17 h=>.A 1 I<|.Z h I (ref02_Name_ok _ _) λx18 h=>.A 2 I<|gK h λc20 h=>gK h λc21 h=>gK h λc22 h=>.jO 8 (((ref02_Has n ((cut t0 0 x15).getD default) ((idx t0 x15).getD default)).getD default)) I (λb19=>?_) ?_
  ·refine .A 2 I<|.q I (.cutSlH I I I U24 S9 (someD (impF c20 b19)))<|.A 2 I<|.q I (.ix I U24 S9 (someD (impF c21 b19)))<|.A 1 I<|.q I (.call I (kC I) I (ref02_Has_ok _ _ _ _ (someD (impF c22 b19))))<|.nil I
  refine .nil<|.nil<|.K [0,3,25] I<|.condS I h (λh=>?_) λh=>?_
  ·refine .sA 1 I<|.ret (rO h I)
  ·refine .skip<|.rA 3 I (ndE h I)
 ·refine .exit<|.sA 1 I<|.ret (rO h I)
theorem ref11_SameTerms_ok (n t0 t1 r) (h:ref11_SameTerms n t0 t1=some r):Pure pg 141 [eL t0,eL t1] (.bool r):=by
 refine Pure.ot Tryz.func141 I Tryz.ntmps141 I λA w=>.sA 1 I<|.seq<|.S 1 I<|.p I (.len I U70 I)<|.A 1 I<|.p I (.len I U70 I)<|.A 1 I<|.nil<|.condS I h (λh=>?_) λh=>?_
 ·refine .sA 1 I<|.ret (rO h I)
 ·refine .skip<|.seq<|.sA 1 I<|.block<|.L [0,1] h (λv=>[(5,.d (.int v))]) (λv=>[]) I λ_ x7 h=>.seq<|.S 2 I<|.p I (.len I U70 I)<|.A 1 I<|.nil<|.K [0,1,5,14] I<|.condS I h (λh=>?_) λh=>?_
  ·refine .skip<|.seq<|.block<|.seq<|.draw 9 Hm (by kernel_rfl) (by kernel_rfl)<|.A 2 I<|.X h I λx9 h=>.A 3 I<|.X h I λx10 h=>.A 1 I<|.p I (.sneq I SE129 I I (xs:=Term.vals _) (ys:=Term.vals _) I I I I (SQ129 _ _))<|.nil<|.nil<|.condS I h (λh=>?_) λh=>?_
   ·refine .sA 1 I<|.ret (rO h I)
   ·refine .skip<|.rA 3 I (ndE h I)
  ·refine .exit<|.sA 1 I<|.ret (rO h I)
theorem ref11_SameRow_ok (n t0 t1 r) (h:ref11_SameRow n t0 t1=some r):Pure pg 101 [Row.enc t0,Row.enc t1] (.bool r):=by
 refine Pure.ot Tryz.func101 I Tryz.ntmps101 I λA w=>.sA 3 I<|.seq<|.plain 12 I<|.p I (.fa I (G72_1 _))<|.A 1 I<|.p I (.fa I (G72_1 _))<|.A 3 I<|gK h λc2 h=>.jA 5 (((ref11_SameTerms n t0.terms t1.terms).getD default)) I (λb1=>?_) ?_
 ·refine .q I (.fa I (G72_0 _))<|.A 1 I<|.q I (.fa I (G72_0 _))<|.A 1 I<|.q I (.call I (kC I) I (ref11_SameTerms_ok _ _ _ _ (someD (impT c2 b1))))<|.nil I
 refine .nil<|.A 1 I<|.nil<|.K [4] I<|.ret (rO h I)
theorem ref13_between_ok (n t0 t1 r) (h:ref13_between n t0 t1=some r):Pure pg 104 [.int t0,.int t1] (.bool r):=by
 refine Pure.ot Tryz.func104 I Tryz.ntmps104 I λA w=>.sA 1 I<|.seq<|.plain 9 I<|.A 2 I<|.p I (.neg6 I I)<|.A 2 I<|.jA 3 (decide (t0≤t1)) I (λb1=>?_) ?_
 ·refine .A 3 I<|.nil I
 refine .nil<|.A 1 I<|.nil<|.ret (rO h I)
theorem ref13_row_ok (n t0 t1 r) (h:ref13_row n t0 t1=some r):Pure pg 102 [Row.enc t0,.int t1] (.bool r):=by
 refine Pure.ot Tryz.func102 I Tryz.ntmps102 I λA w=>.sA 2 I<|.seq<|.sA 1 I<|.block<|.L [1,2] h (λv=>[(5,.d (.int v))]) (λv=>[]) I λ_ x19 h=>.seq<|.S 1 I<|.p I (.fa I (G72_0 _))<|.A 1 I<|.p I (.len I U70 I)<|.A 1 I<|.nil<|.K [1,2,5,11] I<|.condS I h (λh=>?_) λh=>?_
 ·refine .skip<|.seq<|.block<|.sr<|.p I (.fa I (G72_0 _))<|.A 2 I<|.X h I λx21 h=>.A 1 I<|.allocStore I I I I I I I I (by simp) I I Z129<|.nil<|.seq<|.draw 36 Hm (by kernel_rfl) (by kernel_rfl)<|.A 4 I<|.jO 4 (decide (t1≤x21.cell)) I (λb22=>?_) ?_
  ·refine .A 4 I<|.nil I
  refine .A 1 I<|gK h λc25 h=>.jO 14 ((decide (0<x19))&&(decide (x21.cell≤((idx t0.terms (sub64 x19 1)).getD default).cell))) I (λb23=>?_) ?_
  ·refine .A 3 I<|.jAnd 10 (b2:=decide (x21.cell≤((idx t0.terms (sub64 x19 1)).getD default).cell)) I I I I (.inr ⟨_,_,_,I,I,I⟩) (λ_ _ _ h1 h2=>by cases h1;cases h2;decide) I I (λb24=>?_) ?_
   ·refine .q I (.fa I (G72_0 _))<|.A 3 I<|.q I (.ix I U70 S129 (someD (impT (impF c25 b23) b24)))<|.A 5 I<|.nil I
   exact .nil I
  refine .A 1 I<|.jO 3 (x21.factor==0) I (λb26=>?_) ?_
  ·refine .q I (.fa I (G129_1 _))<|.A 2 I<|.nil I
  refine .A 1 I<|gK h λc28 h=>.jO 4 (!((ref13_between n x21.factor 1000).getD default)) I (λb27=>?_) ?_
  ·refine .q I (.fa I (G129_1 _))<|.A 1 I<|.q I (.call I (kC I) I (ref13_between_ok _ _ _ _ (someD (impF c28 b27))))<|.A 1 I<|.nil I
  refine .nil<|.nil<|.K [1,2,5,54] I<|.condS I h (λh=>?_) λh=>?_
  ·refine .sA 1 I<|.ret (rO h I)
  ·refine .skip<|.rA 3 I (ndE h I)
 ·refine .exit<|.sr<|.p I (.fa I (G72_1 _))<|.A 1 I<|.Z h I (ref13_between_ok _ _ _) λx29 h=>.A 1 I<|.nil<|.ret (rO h I)
theorem ref13_graph_ok (n t0 t1 r) (h:ref13_graph n t0 t1=some r):Pure pg 103 [Model.enc t0,Constraint.enc t1] (.bool r):=by
 refine Pure.ot Tryz.func103 I Tryz.ntmps103 I λA w=>.sA 3 I<|.seq<|.seq<|.plain 11 I<|.p I (.fa I (G135_2 _))<|.p I (.fa I (G72_0 _))<|.A 1 I<|.p I (.len I U70 I)<|.A 2 I<|.jO 4 (t1.row.bound != 0) I (λb1=>?_) ?_
 ·refine .q I (.fa I (G135_2 _))<|.q I (.fa I (G72_1 _))<|.A 2 I<|.nil I
 refine .nil<|.nil<|.condS I h (λh=>?_) λh=>?_
 ·refine .sA 1 I<|.ret (rO h I)
 ·refine .skip<|.seq<|.sA 1 I<|.block<|.L [2,3] h (λv=>[(5,.d (.int v))]) (λv=>[]) I λ_ x22 h=>.seq<|.S 3 I<|.p I (.len I U23 I)<|.A 1 I<|.nil<|.K [2,3,5,22] I<|.condS I h (λh=>?_) λh=>?_
  ·refine .skip<|.seq<|.block<|.S 3 I<|.X h I λx24 h=>.A 1 I<|.allocStore I I I I I I I I (by simp) I I Z118<|.nil<|.seq<|.draw 40 Hm (by kernel_rfl) (by kernel_rfl)<|.p I (.fa I (G118_1 _))<|.A 3 I<|.jA 4 ((x24.columns.length:Int)==2) I (λb25=>?_) ?_
   ·refine .q I (.fa I (G118_2 _))<|.A 1 I<|.q I (.len I U22 I)<|.A 1 I<|.nil I
   refine .A 1 I<|gK h λc27 h=>gK h λc28 h=>.jA 9 (((idx x24.columns 0).getD default)==((idx x24.columns 1).getD default)) I (λb26=>?_) ?_
   ·refine .q I (.fa I (G118_2 _))<|.A 1 I<|.q I (.ix I U22 S3 (someD (impT c27 b26)))<|.A 1 I<|.q I (.fa I (G118_2 _))<|.A 1 I<|.q I (.ix I U22 S3 (someD (impT c28 b26)))<|.A 2 I<|.nil I
   refine .A 1 I<|.jA 5 (x24.first==t1.first) I (λb29=>?_) ?_
   ·refine .q I (.fa I (G118_4 _))<|.A 1 I<|.q I (.fa I (G135_3 _))<|.A 2 I<|.nil I
   refine .A 1 I<|gK h λc31 h=>gK h λc32 h=>.jA 11 (((idx t0.sorts ((idx x24.columns 0).getD default)).getD default)==t1.size) I (λb30=>?_) ?_
   ·refine .A 2 I<|.q I (.fa I (G118_2 _))<|.A 1 I<|.q I (.ix I U22 S3 (someD (impT c31 b30)))<|.A 1 I<|.q I (.ix I U22 S3 (someD (impT c32 b30)))<|.A 1 I<|.q I (.fa I (G135_4 _))<|.A 2 I<|.nil I
   refine .nil<|.nil<|.K [2,3,5,69] I<|.condS I h (λh=>?_) λh=>?_
   ·refine .sA 1 I<|.ret (rO h I)
   ·refine .skip<|.rA 3 I (ndE h I)
  ·refine .exit<|.sA 1 I<|.ret (rO h I)
theorem ref13_constraints_ok (n t0 r) (h:ref13_constraints n t0=some r):Pure pg 64 [Model.enc t0] (.bool r):=by
 refine Pure.ot Tryz.func64 I Tryz.ntmps64 I λA w=>.sA 2 I<|.S 1 I<|.Z h I (ref13_strict_ok _ _) λx1 h=>.A 1 I<|.nil<|.seq<|.seq<|.plain 13 I<|.A 2 I<|.p I (.len I U25 I)<|.A 1 I<|.p I (.len I U82 I)<|.A 3 I<|.jO 4 (decide (512<(t0.constraints.length:Int))) I (λb2=>?_) ?_
 ·refine .A 2 I<|.q I (.len I U25 I)<|.A 1 I<|.nil I
 refine .nil<|.nil<|.K [1,3,24] I<|.condS I h (λh=>?_) λh=>?_
 ·refine .sA 1 I<|.ret (rO h I)
 ·refine .skip<|.seq<|.sA 1 I<|.block<|.L [1,3] h (λv=>[(4,.d (.int v))]) (λv=>[]) I λ_ x19 h=>.seq<|.S 2 I<|.p I (.len I U82 I)<|.A 1 I<|.nil<|.K [1,3,4,28] I<|.condS I h (λh=>?_) λh=>?_
  ·refine .skip<|.seq<|.block<|.S 1 I<|.p I (.castD (Term.enc (⟨x19,(-1)⟩:Term)) I (.build I Pl129 (.agg Zc129 (ds':=[_,_]) (.e .e1)) I I))<|.p I (.buildSl [_] I I E70 I (λ_=>I) I (enc:=Term.enc))<|.A 2 I<|.X h I λx21 h=>.p I (.fa I (G85_0 _))<|.A 1 I<|.p I (.neg6 I I)<|.p I (.castD (Row.enc (⟨[(⟨x19,(-1)⟩:Term)],neg64 x21.lo⟩:Row)) I (.build I Pl72 (.agg Zc72 (ds':=[_,_]) (.e .e1)) I I))<|.allocStore I I I I I I I I (by simp) I I Z72<|.nil<|.S 1 I<|.p I (.castD (Term.enc (⟨x19,1⟩:Term)) I (.build I Pl129 (.agg Zc129 (ds':=[_,_]) (.e .e1)) I I))<|.p I (.buildSl [_] I I E70 I (λ_=>I) I (enc:=Term.enc))<|.A 2 I<|.X h I λx22 h=>.p I (.fa I (G85_1 _))<|.A 1 I<|.p I (.castD (Row.enc (⟨[(⟨x19,1⟩:Term)],x22.hi⟩:Row)) I (.build I Pl72 (.agg Zc72 (ds':=[_,_]) (.e .e1)) I I))<|.allocStore I I I I I I I I (by simp) I I Z72<|.nil<|.K [1,3,4,5,6] I<|.seq<|.draw 23 Hm (by kernel_rfl) (by kernel_rfl)<|.A 4 I<|.X h I λx23 h=>.p I (.fa I (G135_2 _))<|.A 2 I<|.Z h I (ref11_SameRow_ok _ _ _) λx24 h=>.A 2 I<|gK h λc26 h=>gK h λc27 h=>.jO 11 (!((ref11_SameRow n (((idx t0.constraints (add64 (mul64 2 x19) 1)).getD default).row) (⟨[(⟨x19,1⟩:Term)],x22.hi⟩:Row)).getD default)) I (λb25=>?_) ?_
   ·refine .A 5 I<|.q I (.ix I U25 S135 (someD (impF c26 b25)))<|.q I (.fa I (G135_2 _))<|.A 2 I<|.q I (.call I (kC I) I (ref11_SameRow_ok _ _ _ _ (someD (impF c27 b25))))<|.A 1 I<|.nil I
   refine .nil<|.nil<|.K [1,3,4,72] I<|.condS I h (λh=>?_) λh=>?_
   ·refine .sA 1 I<|.ret (rO h I)
   ·refine .skip<|.rA 3 I (ndE h I)
  ·refine .exit<|.seq<|.sA 1 I<|.block<|.L [1,3] h (λv=>[(7,.d (.int v))]) (λv=>[]) I λ_ x50 h=>.seq<|.S 3 I<|.p I (.len I U25 I)<|.A 1 I<|.nil<|.K [1,3,7,77] I<|.condS I h (λh=>?_) λh=>?_
   ·refine .skip<|.seq<|.block<|.S 3 I<|.X h I λx52 h=>.A 1 I<|.allocStore I I I I I I I I (by simp) I I Z135<|.nil<|.seq<|.seq<|.plain 11 I<|.p I (.fa I (G135_1 _))<|.A 3 I<|.jO 6 (decide ((t0.families.length:Int)≤x52.family)) I (λb53=>?_) ?_
    ·refine .q I (.fa I (G135_1 _))<|.A 3 I<|.q I (.len I U24 I)<|.A 1 I<|.nil I
    refine .nil<|.nil<|.K [1,3,7,8,95] I<|.condS I h (λh=>?_) λh=>?_
    ·refine .sA 1 I<|.ret (rO h I)
    ·refine .skip<|.seq<|.plain 20 I<|.p I (.fa I (G135_0 _))<|.A 3 I<|.jA 3 (x52.first==0) I (λb54=>?_) ?_
     ·refine .q I (.fa I (G135_3 _))<|.A 2 I<|.nil I
     refine .A 1 I<|.jA 3 (x52.size==0) I (λb55=>?_) ?_
     ·refine .q I (.fa I (G135_4 _))<|.A 2 I<|.nil I
     refine .A 1 I<|gK h λc57 h=>.jA 5 (((ref13_row n x52.row (x1.length:Int)).getD default)) I (λb56=>?_) ?_
     ·refine .q I (.fa I (G135_2 _))<|.A 2 I<|.q I (.len I U82 I)<|.q I (.call I (kC I) I (ref13_row_ok _ _ _ _ (someD (impT c57 b56))))<|.nil I
     refine .nil<|.A 1 I<|.nil<|.K [1,3,7,8,9] I<|.seq<|.plain 20 I<|.A 3 I<|gK h λc61 h=>.jA 16 (!(((decide (mul64 2 (x1.length:Int)≤x50))&&(x52.kind==1))&&((ref13_graph n t0 x52).getD default))) I (λb58=>?_) ?_
     ·refine .A 2 I<|.q I (.len I U82 I)<|.A 3 I<|.jAnd 3 (b2:=x52.kind==1) I I I I (.inr ⟨_,_,_,I,I,I⟩) (λ_ _ _ h1 h2=>by cases h1;cases h2;decide) I I (λb59=>?_) ?_
      ·refine .q I (.fa I (G135_0 _))<|.A 2 I<|.nil I
      refine .A 1 I<|.jAnd 3 (b2:=((ref13_graph n t0 x52).getD default)) I I I I (.inr ⟨_,_,_,I,I,I⟩) (λ_ _ _ h1 h2=>by cases h1;cases h2;decide) I I (λb60=>?_) ?_
      ·refine .A 2 I<|.q I (.call I (kC I) I (ref13_graph_ok _ _ _ _ (someD (impT (impT c61 b58) b60))))<|.nil I
      refine .A 1 I<|.nil I
     refine .nil<|.nil<|.K [1,3,7,135] I<|.condS I h (λh=>?_) λh=>?_
     ·refine .sA 1 I<|.ret (rO h I)
     ·refine .skip<|.rA 3 I (ndE h I)
   ·refine .exit<|.sA 1 I<|.ret (rO h I)
theorem ref13_less_ok (n t0 t1 r) (h:ref13_less n t0 t1=some r):Pure pg 105 [eA t0,eA t1] (.bool r):=by
 refine Pure.ot Tryz.func105 I Tryz.ntmps105 I λA w=>.sA 1 I<|.seq<|.sA 1 I<|.block<|.L [0,1] h (λv=>[(5,.d (.int v))]) (λv=>[]) I λ_ x13 h=>.seq<|.seq<|.plain 10 I<|.A 2 I<|.p I (.len I U22 I)<|.A 2 I<|.jA 4 (decide (x13<(t1.length:Int))) I (λb15=>?_) ?_
 ·refine .A 2 I<|.q I (.len I U22 I)<|.A 1 I<|.nil I
 refine .nil<|.nil<|.K [0,1,5,15] I<|.condS I h (λh=>?_) λh=>?_
 ·refine .skip<|.seq<|.block<|.seq<|.draw 9 Hm (by kernel_rfl) (by kernel_rfl)<|.A 2 I<|.X h I λx16 h=>.A 3 I<|.X h I λx17 h=>.A 2 I<|.nil<|.nil<|.condS I h (λh=>?_) λh=>?_
  ·refine .seq<|.draw 10 Hm (by kernel_rfl) (by kernel_rfl)<|.A 2 I<|.X h I λx18 h=>.A 3 I<|.X h I λx19 h=>.A 3 I<|.nil<|.nil<|.K [4] I<|.ret (rO h I)
  ·refine .skip<|.rA 3 I (ndE h I)
 ·refine .exit<|.S 1 I<|.p I (.len I U22 I)<|.A 1 I<|.p I (.len I U22 I)<|.A 2 I<|.nil<|.ret (rO h I)
theorem ref09_nth_ok (n t0 t1 t2 r) (h:ref09_nth n t0 t1 t2=some r):Pure pg 187 [eA t0,eA t1,.int t2] (eA r):=by
 refine Pure.ot Tryz.func187 I Tryz.ntmps187 I λA w=>.sr<|.p I (.nilS 1 (α:=Int) D.int I)<|.nil<|.S 1 I<|.p I (.len I U22 I)<|bK h λx1 q1 h=>.makeVec (enc:=D.int) (z:=(0:Int)) I I I I E22 I I I (.val Zv3) q1<|.A 1 I<|.nil<|.seq<|.S 1 I<|.p I (.len I U22 I)<|.A 2 I<|.nil<|.block<|.L [0,1] h (λv=>[(2,.d (.int v.2.1)),(7,.vec 0 (List.length v.1)),(8,.d (.int v.2.2))]) (λv=>[(0,.vec 3 1 (List.map D.int v.1))]) I λ_ ⟨b0_24,x25,x26⟩ h=>.seq<|.sA 2 I<|.K [0,1,2,7,8,16] I<|.condS I h (λh=>?_) λh=>?_
 ·refine .skip<|.seq<|.block<|.S 6 I<|.X h I λx28 h=>.A 1 I<|.X h I λx29 h=>.A 1 I<|bK h λx30 q30 h=>.p I (.rem6 I I I q30)<|bK h λx31 q31 h=>.p I (.idxV I I I I I U22 S3 q31)<|bK h λb0_32 hb0_32 h=>.storeEl (enc:=D.int) I I I I I I I I I C3 hb0_32<|.relen 7 I (sto_len hb0_32)<|.relen 19 I (sto_len hb0_32)<|.nil<|.region<|.A 4 I<|.X h I λx33 h=>.A 1 I<|.X h I λx34 h=>.A 1 I<|bK h λx35 q35 h=>.p I (.quo6 I I I q35)<|.A 1 I<|.nil<|.K [0,1,2,7,8] I<|.rA 3 I (ndE h I)
 ·refine .exit<|.sA 2 I<|.ret ?_
  cases h
  exact retOne I (.vec I (by simp))
theorem ref09_Tuple_ok (n t0 t1 t2 t3 r) (h:ref09_Tuple n t0 t1 t2 t3=some r):Pure pg 142 [eA t0,eB t1,.bool t2,.int t3] (.tup [.int r.1,eA r.2.1,.bool r.2.2]):=by
 refine Pure.ot Tryz.func142 I Tryz.ntmps142 I λA w=>.S 1 I<|.p I (.nilS 1 (α:=Int) D.int I)<|.A 1 I<|.nil<|.seq<|.S 2 I<|.Z h I (ref09_Valid_ok _ _ _) λx1 h=>.A 1 I<|.nil<|.condS I h (λh=>?_) λh=>?_
 ·refine .S 1 I<|.p I (.nilS 1 (α:=Int) D.int I)<|.A 1 I<|.nil<|.ret ?_
  cases h
  exact retThree I I I (.d _) (.d _) (.d _)
 ·refine .skip<|.seq<|.sA 1 I<|.block<|.L [0,1,2,3] h (λv=>[(11,.d (.int v))]) (λv=>[]) I λ_ x24 h=>.seq<|.S 2 I<|.p I (.len I U23 I)<|.A 1 I<|.nil<|.K [0,1,2,3,11,20] I<|.condS I h (λh=>?_) λh=>?_
  ·refine .skip<|.seq<|.block<|.S 3 I<|.X h I λx26 h=>.p I (.fa I (G118_4 _))<|.A 3 I<|.nil<|.seq<|.plain 27 I<|.A 2 I<|.X h I λx27 h=>.p I (.fa I (G118_1 _))<|.A 1 I<|.Z h I (ref09_strict_ok _ _) λx28 h=>.A 1 I<|.p I (.beq I U4 I I)<|.A 1 I<|.jA 2 (decide (0≤t3)) I (λb29=>?_) ?_
   ·refine .A 2 I<|.nil I
   refine .A 1 I<|.jA 2 (decide (0≤sub64 t3 x26.first)) I (λb30=>?_) ?_
   ·refine .A 2 I<|.nil I
   refine .A 1 I<|gK h λc32 h=>gK h λc33 h=>.jA 9 (decide (sub64 t3 x26.first<((ref09_number n t0 (((idx t1 x24).getD default).columns)).getD default))) I (λb31=>?_) ?_
   ·refine .A 4 I<|.q I (.ix I U23 S118 (someD (impT c32 b31)))<|.q I (.fa I (G118_2 _))<|.A 1 I<|.q I (.call I (kC I) I (ref09_number_ok _ _ _ _ (someD (impT c33 b31))))<|.A 1 I<|.nil I
   refine .nil<|.nil<|.K [0,1,2,3,11,12,56] I<|.condS I h (λh=>?_) λh=>?_
   ·refine .S 4 I<|.X h I λx34 h=>.p I (.fa I (G118_2 _))<|.A 2 I<|.Z h I (ref09_nth_ok _ _ _ _) λx35 h=>.A 3 I<|.nil<|.ret ?_
    cases h
    exact retThree I I I (.d _) (.d _) (.d _)
   ·refine .skip<|.rA 3 I (ndE h I)
  ·refine .exit<|.S 1 I<|.p I (.nilS 1 (α:=Int) D.int I)<|.A 1 I<|.nil<|.ret ?_
   cases h
   exact retThree I I I (.d _) (.d _) (.d _)
theorem ref13_set_ok (n t0 r) (h:ref13_set n t0=some r):Pure pg 143 [.int t0] (.bool r):=by
 refine Pure.ot Tryz.func143 I Tryz.ntmps143 I λA w=>.sA 1 I<|.seq<|.plain 6 I<|.A 3 I<|.jO 2 (t0==3) I (λb1=>?_) ?_
 ·refine .A 2 I<|.nil I
 refine .nil<|.A 1 I<|.nil<|.ret (rO h I)
theorem ref13_effect_ok (n t0 t1 r) (h:ref13_effect n t0 t1=some r):Pure pg 106 [Model.enc t0,Effect.enc t1] (.bool r):=by
 refine Pure.ot Tryz.func106 I Tryz.ntmps106 I λA w=>.sA 3 I<|.S 1 I<|.Z h I (ref13_strict_ok _ _) λx1 h=>.p I (.len I U82 I)<|.A 1 I<|.nil<|.seq<|.sA 1 I<|.block<|.L [2,3,5] h (λv=>[(6,.d (.int v))]) (λv=>[]) I λ_ x20 h=>.seq<|.S 1 I<|.p I (.fa I (G63_0 _))<|.A 1 I<|.p I (.len I U59 I)<|.A 1 I<|.nil<|.K [2,3,5,6,22] I<|.condS I h (λh=>?_) λh=>?_
 ·refine .skip<|.seq<|.block<|.sr<|.p I (.fa I (G63_0 _))<|.A 2 I<|.X h I λx22 h=>.A 1 I<|.allocStore I I I I I I I I (by simp) I I Z137<|.nil<|.seq<|.draw 36 Hm (by kernel_rfl) (by kernel_rfl)<|.p I (.fa I (G137_0 _))<|.A 3 I<|.jO 4 (decide ((x1.length:Int)≤x22.cell)) I (λb23=>?_) ?_
  ·refine .q I (.fa I (G137_0 _))<|.A 3 I<|.nil I
  refine .A 1 I<|gK h λc26 h=>.jO 14 ((decide (0<x20))&&(decide (x22.cell≤((idx t1.delta (sub64 x20 1)).getD default).cell))) I (λb24=>?_) ?_
  ·refine .A 3 I<|.jAnd 10 (b2:=decide (x22.cell≤((idx t1.delta (sub64 x20 1)).getD default).cell)) I I I I (.inr ⟨_,_,_,I,I,I⟩) (λ_ _ _ h1 h2=>by cases h1;cases h2;decide) I I (λb25=>?_) ?_
   ·refine .q I (.fa I (G63_0 _))<|.A 3 I<|.q I (.ix I U59 S137 (someD (impT (impF c26 b24) b25)))<|.q I (.fa I (G137_0 _))<|.A 1 I<|.q I (.fa I (G137_0 _))<|.A 2 I<|.nil I
   exact .nil I
  refine .A 1 I<|.jO 3 (x22.add==0) I (λb27=>?_) ?_
  ·refine .q I (.fa I (G137_1 _))<|.A 2 I<|.nil I
  refine .A 1 I<|gK h λc29 h=>.jO 4 (!((ref13_between n x22.add 1000000000).getD default)) I (λb28=>?_) ?_
  ·refine .q I (.fa I (G137_1 _))<|.A 1 I<|.q I (.call I (kC I) I (ref13_between_ok _ _ _ _ (someD (impF c29 b28))))<|.A 1 I<|.nil I
  refine .nil<|.nil<|.K [2,3,5,6,65] I<|.condS I h (λh=>?_) λh=>?_
  ·refine .sA 1 I<|.ret (rO h I)
  ·refine .skip<|.rA 3 I (ndE h I)
 ·refine .exit<|.seq<|.sA 1 I<|.block<|.L [2,3,5] h (λv=>[(8,.d (.int v))]) (λv=>[]) I λ_ x36 h=>.seq<|.S 1 I<|.p I (.fa I (G63_1 _))<|.A 1 I<|.p I (.len I U60 I)<|.A 1 I<|.nil<|.K [2,3,5,8,70] I<|.condS I h (λh=>?_) λh=>?_
  ·refine .skip<|.seq<|.block<|.sr<|.p I (.fa I (G63_1 _))<|.A 2 I<|.X h I λx38 h=>.A 2 I<|.Z h I (ref13_row_ok _ _ _) λx39 h=>.A 1 I<|.nil<|.condS I h (λh=>?_) λh=>?_
   ·refine .sA 1 I<|.ret (rO h I)
   ·refine .skip<|.rA 3 I (ndE h I)
  ·refine .exit<|.seq<|.sA 1 I<|.block<|.L [2,3] h (λv=>[(9,.d (.int v))]) (λv=>[]) I λ_ x70 h=>.seq<|.S 1 I<|.p I (.fa I (G63_2 _))<|.A 1 I<|.p I (.len I U61 I)<|.A 1 I<|.nil<|.K [2,3,9,85] I<|.condS I h (λh=>?_) λh=>?_
   ·refine .skip<|.seq<|.block<|.sr<|.p I (.fa I (G63_2 _))<|.A 2 I<|.X h I λx72 h=>.A 1 I<|.allocStore I I I I I I I I (by simp) I I Z188<|.nil<|.S 4 I<|.p I (.fa I (G188_1 _))<|.A 1 I<|.Z h I (ref09_Tuple_ok _ _ _ _ _) λx73 h=>.A 1 I<|.p I (.extract I I I)<|.p I (.extract I I I)<|.p I (.extract I I I)<|.A 3 I<|.nil<|.K [2,3,9,10,11,13] I<|.seq<|.seq<|.draw 18 Hm (by kernel_rfl) (by kernel_rfl)<|.A 3 I<|gK h λc76 h=>.jO 14 ((decide (0<x70))&&(decide (x72.cell≤((idx t1.updates (sub64 x70 1)).getD default).cell))) I (λb74=>?_) ?_
    ·refine .A 3 I<|.jAnd 10 (b2:=decide (x72.cell≤((idx t1.updates (sub64 x70 1)).getD default).cell)) I I I I (.inr ⟨_,_,_,I,I,I⟩) (λ_ _ _ h1 h2=>by cases h1;cases h2;decide) I I (λb75=>?_) ?_
     ·refine .q I (.fa I (G63_2 _))<|.A 3 I<|.q I (.ix I U61 S188 (someD (impT (impF c76 b74) b75)))<|.q I (.fa I (G188_1 _))<|.A 1 I<|.q I (.fa I (G188_1 _))<|.A 2 I<|.nil I
     exact .nil I
    refine .nil<|.nil<|.K [2,3,9,10,11,121] I<|.condS I h (λh=>?_) λh=>?_
    ·refine .sA 1 I<|.ret (rO h I)
    ·refine .skip<|.S 3 I<|.X h I λx77 h=>.A 1 I<|.allocStore I I I I I I I I (by simp) I I Z118<|.nil<|.seq<|.seq<|.plain 18 I<|.p I (.fa I (G118_1 _))<|.A 1 I<|.Z h I (ref13_set_ok _ _) λx78 h=>.A 1 I<|.jA 13 (((x72.kind != 0)&&(x72.kind != 1))||(x72.value != 0)) I (λb79=>?_) ?_
     ·refine .q I (.fa I (G188_0 _))<|.A 3 I<|.jAnd 3 (b2:=x72.kind != 1) I I I I (.inr ⟨_,_,_,I,I,I⟩) (λ_ _ _ h1 h2=>by cases h1;cases h2;decide) I I (λb80=>?_) ?_
      ·refine .q I (.fa I (G188_0 _))<|.A 2 I<|.nil I
      refine .A 1 I<|.jOr 3 (b2:=x72.value != 0) I I I I (.inr ⟨_,_,_,I,I,I⟩) (λ_ _ _ h1 h2=>by cases h1;cases h2;decide) I I (λb81=>?_) ?_
      ·refine .q I (.fa I (G188_2 _))<|.A 2 I<|.nil I
      exact .nil I
     refine .nil<|.nil<|.K [2,3,9,10,14,144] I<|.condS I h (λh=>?_) λh=>?_
     ·refine .sA 1 I<|.ret (rO h I)
     ·refine .skip<|.seq<|.plain 25 I<|.p I (.fa I (G118_1 _))<|.A 1 I<|.Z h I (ref13_set_ok _ _) λx82 h=>.A 2 I<|.jA 19 (((x72.kind != 2)||(decide (x72.value<x77.range.lo)))||(decide (x77.range.hi<x72.value))) I (λb83=>?_) ?_
      ·refine .q I (.fa I (G188_0 _))<|.A 3 I<|.jOr 6 (b2:=decide (x72.value<x77.range.lo)) I I I I (.inr ⟨_,_,_,I,I,I⟩) (λ_ _ _ h1 h2=>by cases h1;cases h2;decide) I I (λb84=>?_) ?_
       ·refine .q I (.fa I (G188_2 _))<|.A 1 I<|.q I (.fa I (G118_3 _))<|.q I (.fa I (G85_0 _))<|.A 2 I<|.nil I
       refine .A 1 I<|.jOr 6 (b2:=decide (x77.range.hi<x72.value)) I I I I (.inr ⟨_,_,_,I,I,I⟩) (λ_ _ _ h1 h2=>by cases h1;cases h2;decide) I I (λb85=>?_) ?_
       ·refine .q I (.fa I (G188_2 _))<|.A 1 I<|.q I (.fa I (G118_3 _))<|.q I (.fa I (G85_1 _))<|.A 2 I<|.nil I
       exact .nil I
      refine .nil<|.nil<|.K [2,3,9,169] I<|.condS I h (λh=>?_) λh=>?_
      ·refine .sA 1 I<|.ret (rO h I)
      ·refine .skip<|.rA 3 I (ndE h I)
   ·refine .exit<|.seq<|.plain 10 I<|.p I (.fa I (G63_1 _))<|.A 1 I<|.p I (.len I U60 I)<|.A 2 I<|.jA 4 (decide ((t1.updates.length:Int)≤32)) I (λb86=>?_) ?_
    ·refine .q I (.fa I (G63_2 _))<|.A 1 I<|.q I (.len I U61 I)<|.A 1 I<|.nil I
    refine .nil<|.A 1 I<|.nil<|.ret (rO h I)
theorem ref13_actions_ok (n t0 r) (h:ref13_actions n t0=some r):Pure pg 65 [Model.enc t0] (.bool r):=by
 refine Pure.ot Tryz.func65 I Tryz.ntmps65 I λA w=>.sA 2 I<|.sr<|.buildVec [] I I I I I E24 I (λ_=>I) I (enc:=D.str)<|.A 1 I<|.nil<|.seq<|.sA 1 I<|.block<|.L [1] h (λv=>[(3,.vec 0 (List.length v.1)),(4,.d (.int v.2))]) (λv=>[(0,.vec 9 1 (List.map D.str v.1))]) I λ_ ⟨b0_35,x36⟩ h=>.seq<|.S 3 I<|.p I (.len I U26 I)<|.A 1 I<|.nil<|.K [1,3,4,17] I<|.condS I h (λh=>?_) λh=>?_
 ·refine .skip<|.seq<|.block<|.S 3 I<|.X h I λx38 h=>.A 1 I<|.allocStore I I I I I I I I (by simp) I I Z133<|.nil<|.S 1 I<|.p I (.fa I (G133_0 _))<|.A 1 I<|.p I (.buildSl [_] I I E24 I (λ_=>I) I (enc:=D.str))<|bK h λx39 q39 h=>.app I I I I I I I I E24 I (λ_=>I) q39<|.A 1 I<|.nil<|.seq<|.sA 1 I<|.block<|.L [1,3,4,5] h (λv=>[(6,.d (.int v))]) (λv=>[]) I λ_ x48 h=>.seq<|.S 1 I<|.p I (.fa I (G133_2 _))<|.A 1 I<|.p I (.len I U22 I)<|.A 1 I<|.nil<|.K [1,3,4,5,6,34] I<|.condS I h (λh=>?_) λh=>?_
  ·refine .skip<|.seq<|.block<|.seq<|.draw 17 Hm (by kernel_rfl) (by kernel_rfl)<|.p I (.fa I (G133_2 _))<|.A 2 I<|.X h I λx50 h=>.A 3 I<|gK h λc52 h=>.jO 9 (decide ((t0.sorts.length:Int)≤((idx x38.sorts x48).getD default))) I (λb51=>?_) ?_
   ·refine .q I (.fa I (G133_2 _))<|.A 2 I<|.q I (.ix I U22 S3 (someD (impF c52 b51)))<|.A 3 I<|.q I (.len I U22 I)<|.A 1 I<|.nil I
   refine .nil<|.nil<|.K [1,3,4,5,6,53] I<|.condS I h (λh=>?_) λh=>?_
   ·refine .sA 1 I<|.ret (rO h I)
   ·refine .skip<|.rA 3 I (ndE h I)
  ·refine .exit<|.sr<|.p I (.fa I (G133_2 _))<|.A 1 I<|.p I (.len I U22 I)<|.A 1 I<|.nil<|.condS I h (λh=>?_) λh=>?_
   ·refine .sA 1 I<|.ret (rO h I)
   ·refine .skip<|.rA 3 I (ndE h I)
 ·refine .exit<|.seq<|.seq<|.plain 15 I<|.A 2 I<|.p I (.len I U26 I)<|.A 2 I<|gK h λc54 h=>.jO 3 (!((ref13_distinct n b0_35).getD default)) I (λb53=>?_) ?_
  ·refine .A 1 I<|.q I (.callB I (kC I) (.cons I (.vec I (by simp)) .nil) I (ref13_distinct_ok _ _ _ (someD (impF c54 b53))))<|.A 1 I<|.nil I
  refine .A 1 I<|.jO 4 (decide (256<(t0.actions.length:Int))) I (λb55=>?_) ?_
  ·refine .A 2 I<|.q I (.len I U27 I)<|.A 1 I<|.nil I
  refine .nil<|.nil<|.condS I h (λh=>?_) λh=>?_
  ·refine .sA 1 I<|.K [2] I<|.ret (rO h I)
  ·refine .skip<|.seq<|.sA 1 I<|.K [1,7] I<|.block<|.L [1] h (λv=>[(7,.d (.int v))]) (λv=>[]) I λ_ x152 h=>.seq<|.S 3 I<|.p I (.len I U27 I)<|.A 1 I<|.nil<|.K [1,7,77] I<|.condS I h (λh=>?_) λh=>?_
   ·refine .skip<|.seq<|.block<|.S 3 I<|.X h I λx154 h=>.A 1 I<|.allocStore I I I I I I I I (by simp) I I Z65<|.nil<|.seq<|.seq<|.draw 25 Hm (by kernel_rfl) (by kernel_rfl)<|.p I (.fa I (G65_0 _))<|.A 3 I<|.jO 6 (decide ((t0.operations.length:Int)≤x154.operation)) I (λb155=>?_) ?_
    ·refine .q I (.fa I (G65_0 _))<|.A 3 I<|.q I (.len I U26 I)<|.A 1 I<|.nil I
    refine .A 1 I<|gK h λc157 h=>.jO 12 ((x154.arguments.length:Int) != ((((idx t0.operations x154.operation).getD default).sorts).length:Int)) I (λb156=>?_) ?_
    ·refine .q I (.fa I (G65_1 _))<|.A 1 I<|.q I (.len I U22 I)<|.A 2 I<|.q I (.fa I (G65_0 _))<|.A 1 I<|.q I (.ix I U26 S133 (someD (impF c157 b156)))<|.q I (.fa I (G133_2 _))<|.A 1 I<|.q I (.len I U22 I)<|.A 1 I<|.nil I
    refine .nil<|.nil<|.K [1,7,8,109] I<|.condS I h (λh=>?_) λh=>?_
    ·refine .sA 1 I<|.ret (rO h I)
    ·refine .skip<|.seq<|.sA 1 I<|.block<|.L [1,7,8] h (λv=>[(9,.d (.int v))]) (λv=>[]) I λ_ x182 h=>.seq<|.S 1 I<|.p I (.fa I (G65_1 _))<|.A 1 I<|.p I (.len I U22 I)<|.A 1 I<|.nil<|.K [1,7,8,9,114] I<|.condS I h (λh=>?_) λh=>?_
     ·refine .skip<|.seq<|.block<|.S 2 I<|.p I (.fa I (G65_0 _))<|.A 1 I<|.X h I λx184 h=>.p I (.fa I (G133_2 _))<|.A 2 I<|.X h I λx185 h=>.A 2 I<|.nil<|.seq<|.draw 36 Hm (by kernel_rfl) (by kernel_rfl)<|.A 3 I<|gK h λc187 h=>gK h λc188 h=>.jA 7 (!((ref13_between n ((idx x154.arguments x182).getD default) 9999).getD default)) I (λb186=>?_) ?_
      ·refine .q I (.fa I (G65_1 _))<|.A 2 I<|.q I (.ix I U22 S3 (someD (impT c187 b186)))<|.A 1 I<|.q I (.call I (kC I) I (ref13_between_ok _ _ _ _ (someD (impT c188 b186))))<|.A 1 I<|.nil I
      refine .A 1 I<|gK h λc191 h=>gK h λc193 h=>gK h λc194 h=>.jO 23 ((decide (0≤x185))&&((decide (((idx x154.arguments x182).getD default)<0))||(decide (((idx t0.sorts x185).getD default)≤((idx x154.arguments x182).getD default))))) I (λb189=>?_) ?_
      ·refine .A 3 I<|.jAnd 19 (b2:=(decide (((idx x154.arguments x182).getD default)<0))||(decide (((idx t0.sorts x185).getD default)≤((idx x154.arguments x182).getD default)))) I I I I (.inr ⟨_,_,_,I,I,I⟩) (λ_ _ _ h1 h2=>by cases h1;cases h2;decide) I I (λb190=>?_) ?_
       ·refine .q I (.fa I (G65_1 _))<|.A 2 I<|.q I (.ix I U22 S3 (someD (impT (impF c191 b189) b190)))<|.A 3 I<|.jOr 11 (b2:=decide (((idx t0.sorts x185).getD default)≤((idx x154.arguments x182).getD default))) I I I I (.inr ⟨_,_,_,I,I,I⟩) (λ_ _ _ h1 h2=>by cases h1;cases h2;decide) I I (λb192=>?_) ?_
        ·refine .q I (.fa I (G65_1 _))<|.A 2 I<|.q I (.ix I U22 S3 (someD (impF (impT (impF c193 b189) b190) b192)))<|.A 4 I<|.q I (.ix I U22 S3 (someD (impF (impT (impF c194 b189) b190) b192)))<|.A 2 I<|.nil I
        exact .nil I
       exact .nil I
      refine .nil<|.nil<|.K [1,7,8,9,162] I<|.condS I h (λh=>?_) λh=>?_
      ·refine .sA 1 I<|.ret (rO h I)
      ·refine .skip<|.rA 3 I (ndE h I)
     ·refine .exit<|.J [1,7,8] h (λv=>[]) (λv=>[]) I (λk_195 h=>?_) (λv h=>?_)
      ·refine .sA 2 I<|.condS I h (λh=>?_) λh=>?_
       ·refine .S 4 I<|.X h I λx196 h=>.A 1 I<|.allocStore I I I I I I I I (by simp) I I Z65<|.nil<|.seq<|.plain 20 I<|.p I (.fa I (G65_0 _))<|.A 1 I<|.p I (.fa I (G65_0 _))<|.A 3 I<|gK h λc199 h=>.jO 13 ((x196.operation==x154.operation)&&(!((ref13_less n x196.arguments x154.arguments).getD default))) I (λb197=>?_) ?_
        ·refine .q I (.fa I (G65_0 _))<|.A 1 I<|.q I (.fa I (G65_0 _))<|.A 3 I<|.jAnd 6 (b2:=!((ref13_less n x196.arguments x154.arguments).getD default)) I I I I (.inr ⟨_,_,_,I,I,I⟩) (λ_ _ _ h1 h2=>by cases h1;cases h2;decide) I I (λb198=>?_) ?_
         ·refine .q I (.fa I (G65_1 _))<|.A 1 I<|.q I (.fa I (G65_1 _))<|.A 1 I<|.q I (.call I (kC I) I (ref13_less_ok _ _ _ _ (someD (impT (impF c199 b197) b198))))<|.A 1 I<|.nil I
         exact .nil I
        refine .nil<|.nil<|.K [1,7,8,190] I<|.condS I h (λh=>?_) λh=>?_
        ·refine .sA 1 I<|.ret (rO h I)
        ·refine .skip (ndE h I)
       ·refine .skip (ndE h I)
      ·refine .S 1 I<|.p I (.fa I (G65_2 _))<|.A 1 I<|.Z h I (ref13_effect_ok _ _ _) λx200 h=>.A 1 I<|.nil<|.K [1,7,195] I<|.condS I h (λh=>?_) λh=>?_
       ·refine .sA 1 I<|.ret (rO h I)
       ·refine .skip<|.rA 3 I (ndE h I)
   ·refine .exit<|.sA 1 I<|.ret (rO h I)
theorem ref13_leads_body (n:Nat) (self:Model→Int→Int→Int→Option Bool) (hself:∀ (t0:Model) (t1:Int) (t2:Int) (t3:Int) (r:Bool),self t0 t1 t2 t3=some r→Pure pg 107 [Model.enc t0,.int t1,.int t2,.int t3] (.bool r)) (t0:Model) (t1:Int) (t2:Int) (t3:Int) (r:Bool) (h:ref13_leads.body n self t0 t1 t2 t3=some r):Pure pg 107 [Model.enc t0,.int t1,.int t2,.int t3] (.bool r):=by
 refine Pure.ot Tryz.func107 I Tryz.ntmps107 I λA w=>.sA 2 I<|.seq<|.sA 3 I<|.condS I h (λh=>?_) λh=>?_
 ·refine .sA 1 I<|.ret (rO h I)
 ·refine .skip<|.seq<|.sA 1 I<|.block<|.L [1,2,3,4] h (λv=>[(9,.d (.int v))]) (λv=>[]) I λ_ x13 h=>.seq<|.seq<|.plain 9 I<|.A 3 I<|.p I (.len I U28 I)<|.A 2 I<|.jA 2 (decide (0<t3)) I (λb15=>?_) ?_
  ·refine .A 2 I<|.nil I
  refine .nil<|.nil<|.K [1,2,3,4,9,21] I<|.condS I h (λh=>?_) λh=>?_
  ·refine .skip<|.seq<|.block<|.seq<|.draw 21 Hm (by kernel_rfl) (by kernel_rfl)<|.A 3 I<|.X h I λx16 h=>.p I (.fa I (G161_0 _))<|.A 4 I<|gK h λc18 h=>gK h λc19 h=>.jA 11 (((self t0 (((idx t0.hides x13).getD default).to) t2 (sub64 t3 1)).getD default)) I (λb17=>?_) ?_
   ·refine .A 4 I<|.q I (.ix I U28 S161 (someD (impT c18 b17)))<|.q I (.fa I (G161_2 _))<|.A 4 I<|.q I (.call I (kC I) I (hself _ _ _ _ _ (someD (impT c19 b17))))<|.nil I
   refine .nil<|.nil<|.K [1,2,3,4,9,44] I<|.condS I h (λh=>?_) λh=>?_
   ·refine .sA 1 I<|.ret (rO h I)
   ·refine .skip<|.rA 3 I (ndE h I)
  ·refine .exit<|.sA 1 I<|.ret (rO h I)
theorem ref13_leads_ok  : ∀ (n:Nat) (t0:Model) (t1:Int) (t2:Int) (t3:Int) (r:Bool) (h:ref13_leads n t0 t1 t2 t3=some r),Pure pg 107 [Model.enc t0,.int t1,.int t2,.int t3] (.bool r)
 | 0,t0,t1,t2,t3,r,h=>by cases h
 | n+1,t0,t1,t2,t3,r,h=>ref13_leads_body n (ref13_leads n) (ref13_leads_ok n) t0 t1 t2 t3 r h
theorem ref13_hidden_ok (n t0 r) (h:ref13_hidden n t0=some r):Pure pg 66 [Model.enc t0] (.bool r):=by
 refine Pure.ot Tryz.func66 I Tryz.ntmps66 I λA w=>.sA 2 I<|.seq<|.S 2 I<|.p I (.len I U28 I)<|.A 1 I<|.nil<|.condS I h (λh=>?_) λh=>?_
 ·refine .sA 1 I<|.ret (rO h I)
 ·refine .skip<|.seq<|.sA 1 I<|.block<|.L [1] h (λv=>[(3,.d (.int v))]) (λv=>[]) I λ_ x31 h=>.seq<|.S 3 I<|.p I (.len I U28 I)<|.A 1 I<|.nil<|.K [1,3,16] I<|.condS I h (λh=>?_) λh=>?_
  ·refine .skip<|.seq<|.block<|.S 3 I<|.X h I λx33 h=>.A 1 I<|.allocStore I I I I I I I I (by simp) I I Z161<|.nil<|.seq<|.seq<|.plain 31 I<|.p I (.fa I (G161_0 _))<|.A 3 I<|.jO 6 (decide ((t0.tables.length:Int)≤x33.table)) I (λb34=>?_) ?_
   ·refine .q I (.fa I (G161_0 _))<|.A 3 I<|.q I (.len I U23 I)<|.A 1 I<|.nil I
   refine .A 1 I<|.jO 3 (decide (x33.to<0)) I (λb35=>?_) ?_
   ·refine .q I (.fa I (G161_2 _))<|.A 2 I<|.nil I
   refine .A 1 I<|.jO 6 (decide ((t0.tables.length:Int)≤x33.to)) I (λb36=>?_) ?_
   ·refine .q I (.fa I (G161_2 _))<|.A 3 I<|.q I (.len I U23 I)<|.A 1 I<|.nil I
   refine .A 1 I<|.jO 5 (x33.table==x33.to) I (λb37=>?_) ?_
   ·refine .q I (.fa I (G161_0 _))<|.A 1 I<|.q I (.fa I (G161_2 _))<|.A 2 I<|.nil I
   refine .nil<|.nil<|.K [1,3,4,54] I<|.condS I h (λh=>?_) λh=>?_
   ·refine .sA 1 I<|.ret (rO h I)
   ·refine .skip<|.seq<|.draw 16 Hm (by kernel_rfl) (by kernel_rfl)<|.A 2 I<|.p I (.fa I (G161_0 _))<|.A 1 I<|.X h I λx38 h=>.A 3 I<|.p I (.fa I (G161_2 _))<|.A 1 I<|.X h I λx39 h=>.A 1 I<|.alloc I I I I ZZ118<|.alloc I I I I ZZ118<|.store I I I I I I Z118<|.store I I I I I I Z118<|.nil<|.freezes [0,1] (.cons (t:=5) (d:=.ref (Table.enc x38)) I (.loc (inIds I) I (.v (.v (.v (.v (.v .v1)))))) (.cons (t:=6) (d:=.ref (Table.enc x39)) I (.loc (inIds I) I (.v (.v (.v (.v (.v .v1)))))) .nil))<|.nil<|.K [1,3,4,5,6] I<|.seq<|.draw 40 Hm (by kernel_rfl) (by kernel_rfl)<|.p I (.fa I (G118_1 _))<|.A 3 I<|.jO 3 (x39.kind != 0) I (λb40=>?_) ?_
    ·refine .q I (.fa I (G118_1 _))<|.A 2 I<|.nil I
    refine .A 1 I<|.jO 3 (decide (x33.column<0)) I (λb41=>?_) ?_
    ·refine .q I (.fa I (G161_1 _))<|.A 2 I<|.nil I
    refine .A 1 I<|.jO 6 (decide ((x38.columns.length:Int)≤x33.column)) I (λb42=>?_) ?_
    ·refine .q I (.fa I (G161_1 _))<|.A 1 I<|.q I (.fa I (G118_2 _))<|.A 1 I<|.q I (.len I U22 I)<|.A 1 I<|.nil I
    refine .A 1 I<|.jO 4 ((x39.columns.length:Int) != 1) I (λb43=>?_) ?_
    ·refine .q I (.fa I (G118_2 _))<|.A 1 I<|.q I (.len I U22 I)<|.A 1 I<|.nil I
    refine .A 1 I<|gK h λc45 h=>gK h λc46 h=>.jO 11 (((idx x39.columns 0).getD default) != ((idx x38.columns x33.column).getD default)) I (λb44=>?_) ?_
    ·refine .q I (.fa I (G118_2 _))<|.A 1 I<|.q I (.ix I U22 S3 (someD (impF c45 b44)))<|.A 1 I<|.q I (.fa I (G118_2 _))<|.A 1 I<|.q I (.fa I (G161_1 _))<|.A 1 I<|.q I (.ix I U22 S3 (someD (impF c46 b44)))<|.A 2 I<|.nil I
    refine .nil<|.nil<|.K [1,3,106] I<|.condS I h (λh=>?_) λh=>?_
    ·refine .sA 1 I<|.ret (rO h I)
    ·refine .skip<|.rA 3 I (ndE h I)
  ·refine .exit<|.seq<|.sA 1 I<|.block<|.L [1] h (λv=>[(7,.d (.int v))]) (λv=>[]) I λ_ x55 h=>.seq<|.S 3 I<|.p I (.len I U28 I)<|.A 1 I<|.nil<|.K [1,7,111] I<|.condS I h (λh=>?_) λh=>?_
   ·refine .skip<|.seq<|.block<|.seq<|.draw 17 Hm (by kernel_rfl) (by kernel_rfl)<|.A 4 I<|.X h I λx57 h=>.p I (.fa I (G161_2 _))<|.A 4 I<|.X h I λx58 h=>.p I (.fa I (G161_0 _))<|.A 3 I<|.p I (.len I U23 I)<|.Z h I (ref13_leads_ok _ _ _ _ _) λx59 h=>.nil<|.nil<|.K [1,7,130] I<|.condS I h (λh=>?_) λh=>?_
    ·refine .sA 1 I<|.ret (rO h I)
    ·refine .skip<|.rA 3 I (ndE h I)
   ·refine .exit<|.sA 1 I<|.ret (rO h I)
theorem ref13_Valid_ok (n t0 r) (h:ref13_Valid n t0=some r):Pure pg 26 [Model.enc t0] (.bool r):=by
 refine Pure.ot Tryz.func26 I Tryz.ntmps26 I λA w=>.sA 2 I<|.seq<|.seq<|.plain 18 I<|.A 4 I<|.Z h I (ref09_Valid_ok _ _ _) λx1 h=>.A 2 I<|.jO 4 (decide (24<(t0.families.length:Int))) I (λb2=>?_) ?_
 ·refine .A 2 I<|.q I (.len I U24 I)<|.A 1 I<|.nil I
 refine .A 1 I<|gK h λc4 h=>.jO 4 (!((ref13_distinct n t0.families).getD default)) I (λb3=>?_) ?_
 ·refine .A 2 I<|.q I (.call I (kC I) I (ref13_distinct_ok _ _ _ (someD (impF c4 b3))))<|.A 1 I<|.nil I
 refine .nil<|.nil<|.K [1,20] I<|.condS I h (λh=>?_) λh=>?_
 ·refine .sA 1 I<|.ret (rO h I)
 ·refine .skip<|.seq<|.plain 10 I<|.A 1 I<|.Z h I (ref13_constraints_ok _ _) λx5 h=>.A 1 I<|gK h λc7 h=>.jA 2 (((ref13_actions n t0).getD default)) I (λb6=>?_) ?_
  ·refine .A 1 I<|.q I (.call I (kC I) I (ref13_actions_ok _ _ _ (someD (impT c7 b6))))<|.nil I
  refine .A 1 I<|gK h λc9 h=>.jA 2 (((ref13_hidden n t0).getD default)) I (λb8=>?_) ?_
  ·refine .A 1 I<|.q I (.call I (kC I) I (ref13_hidden_ok _ _ _ (someD (impT c9 b8))))<|.nil I
  refine .nil<|.A 1 I<|.nil<|.ret (rO h I)
theorem ref16_Valid_ok (n t0 t1 r) (h:ref16_Valid n t0 t1=some r):Pure pg 15 [Model.enc t0,Question.enc t1] (.bool r):=by
 refine Pure.ot Tryz.func15 I Tryz.ntmps15 I λA w=>.sA 3 I<|.seq<|.seq<|.plain 35 I<|.A 1 I<|.Z h I (ref13_Valid_ok _ _) λx1 h=>.A 2 I<|.jO 3 (decide (t1.e<0)) I (λb2=>?_) ?_
 ·refine .q I (.fa I (G34_0 _))<|.A 2 I<|.nil I
 refine .A 1 I<|.jO 3 (decide (t1.f<0)) I (λb3=>?_) ?_
 ·refine .q I (.fa I (G34_1 _))<|.A 2 I<|.nil I
 refine .A 1 I<|.jO 6 (decide ((t0.actions.length:Int)≤t1.e)) I (λb4=>?_) ?_
 ·refine .q I (.fa I (G34_0 _))<|.A 3 I<|.q I (.len I U27 I)<|.A 1 I<|.nil I
 refine .A 1 I<|.jO 6 (decide ((t0.actions.length:Int)≤t1.f)) I (λb5=>?_) ?_
 ·refine .q I (.fa I (G34_1 _))<|.A 3 I<|.q I (.len I U27 I)<|.A 1 I<|.nil I
 refine .A 1 I<|.jO 4 (decide (t1.target.index<0)) I (λb6=>?_) ?_
 ·refine .q I (.fa I (G34_2 _))<|.q I (.fa I (G32_1 _))<|.A 2 I<|.nil I
 refine .nil<|.nil<|.K [2,3,39] I<|.condS I h (λh=>?_) λh=>?_
 ·refine .sA 1 I<|.ret (rO h I)
 ·refine .skip<|.seq<|.sr<|.p I (.fa I (G34_2 _))<|.p I (.fa I (G32_0 _))<|.A 1 I<|.nil<|.condS I h (λh=>?_) λh=>?_
  ·refine .seq<|.draw 14 Hm (by kernel_rfl) (by kernel_rfl)<|.p I (.fa I (G34_2 _))<|.p I (.fa I (G32_1 _))<|.A 3 I<|.p I (.fa I (G34_0 _))<|.A 1 I<|.X h I λx7 h=>.p I (.fa I (G65_2 _))<|.p I (.fa I (G63_1 _))<|.A 1 I<|.p I (.len I U60 I)<|.A 2 I<|.nil<|.nil<|.K [4] I<|.ret (rO h I)
  ·refine .skip<|.seq<|.plain 14 I<|.p I (.fa I (G34_0 _))<|.A 1 I<|.p I (.fa I (G34_1 _))<|.A 3 I<|.jA 7 (decide (t1.target.index<(t0.constraints.length:Int))) I (λb8=>?_) ?_
   ·refine .q I (.fa I (G34_2 _))<|.q I (.fa I (G32_1 _))<|.A 3 I<|.q I (.len I U25 I)<|.A 1 I<|.nil I
   refine .nil<|.A 1 I<|.nil<|.K [4] I<|.ret (rO h I)
theorem symmetry_Action_ok (n t0 t1 t2 r) (h:symmetry_Action n t0 t1 t2=some r):Pure pg 28 [Model.enc t0,Swap.enc t1,.int t2] (.tup [.int r.1,.bool r.2]):=by
 refine Pure.ot Tryz.func28 I Tryz.ntmps28 I λA w=>.sA 4 I<|.S 2 I<|.Z h I (symmetry_with_ok _ _ _) λx1 h=>.A 1 I<|.p I (.extract I I I)<|.p I (.extract I I I)<|.A 2 I<|.nil<|.seq<|.sA 2 I<|.condS I h (λh=>?_) λh=>?_
 ·refine .sA 2 I<|.K [6,7] I<|.ret ?_
  cases h
  exact retTwo I I (.d _) (.d _)
 ·refine .skip<|.S 2 I<|bK h λp_2 hp_2 h=>bK h λx3 q3 h=>.p I (.callLe I (kC I) I (.cons (.ofEq (optD_of hp_2)) .e1) (symmetry_swapping_action_ok _ _ _ _ q3))<|.p I (.extract I I I)<|.p I (.extract I I I)<|.A 2 I<|.nil<|.K [6,7] I<|.ret ?_
  cases h
  exact retTwo I I (.d _) (.d _)
theorem symmetry_Question_ok (n t0 t1 t2 r) (h:symmetry_Question n t0 t1 t2=some r):Pure pg 33 [Model.enc t0,Swap.enc t1,Question.enc t2] (.tup [Question.enc r.1,.bool r.2]):=by
 refine Pure.ot Tryz.func33 I Tryz.ntmps33 I λA w=>.S 3 I<|.allocZ I I I I (.agg Zc34 (ds':=[.int 0,.int 0,.bool false,.int 0]) (.e (.e (.e .e1)))) I<|.A 1 I<|.nil<|.S 2 I<|.Z h I (symmetry_with_ok _ _ _) λx1 h=>.A 1 I<|.p I (.extract I I I)<|.p I (.extract I I I)<|.A 2 I<|.nil<|.seq<|.sA 2 I<|.condS I h (λh=>?_) λh=>?_
 ·refine .sr<|.p I (.castD (Question.enc (⟨0,0,(⟨false,0⟩:Target)⟩:Question)) I (.build I Pl34 (.agg Zc34 (ds':=[_,_,_,_]) (.e (.e (.e .e1)))) I I))<|.store I I I I I I (.ofD I) C34 I (ye I)<|.A 1 I<|.nil<|.K [6,7] I<|.ret ?_
  cases h
  exact retCellTmp I I Y34 (.v (.v (.v .v1))) I (.d _)
 ·refine .skip<|.S 2 I<|bK h λp_2 hp_2 h=>bK h λx3 q3 h=>.p I (.callLe I (kC I) I (.cons (.ofEq (optD_of hp_2)) .e1) (symmetry_swapping_question_ok _ _ _ _ q3))<|.p I (.extract I I I)<|.p I (.extract I I I)<|.store I I I I I I (.ofD I) C34 I (ye I)<|.A 1 I<|.nil<|.K [6,7] I<|.ret ?_
  cases h
  exact retCellTmp I I Y34 (.v (.v (.v .v1))) I (.d _)
theorem symmetry_Constraint_ok (n t0 t1 t2 r) (h:symmetry_Constraint n t0 t1 t2=some r):Pure pg 42 [Model.enc t0,Swap.enc t1,.int t2] (.tup [.int r.1,.bool r.2]):=by
 refine Pure.ot Tryz.func42 I Tryz.ntmps42 I λA w=>.sA 4 I<|.S 2 I<|.Z h I (symmetry_with_ok _ _ _) λx1 h=>.A 1 I<|.p I (.extract I I I)<|.p I (.extract I I I)<|.A 2 I<|.nil<|.seq<|.sA 2 I<|.condS I h (λh=>?_) λh=>?_
 ·refine .sA 2 I<|.K [6,7] I<|.ret ?_
  cases h
  exact retTwo I I (.d _) (.d _)
 ·refine .skip<|.S 2 I<|bK h λp_2 hp_2 h=>bK h λx3 q3 h=>.p I (.callLe I (kC I) I (.cons (.ofEq (optD_of hp_2)) .e1) (symmetry_swapping_constraint_ok _ _ _ _ q3))<|.p I (.extract I I I)<|.p I (.extract I I I)<|.A 2 I<|.nil<|.K [6,7] I<|.ret ?_
  cases h
  exact retTwo I I (.d _) (.d _)
theorem law16_SymmetryTwice_ok (n t0 t1 t2 t3 t4 t5 t6 r) (h:law16_SymmetryTwice n t0 t1 t2 t3 t4 t5 t6=some r):Pure pg 9 [Model.enc t0,Swap.enc t1,.int t2,.int t3,.int t4,eA t5,Question.enc t6] (.bool r):=by
 refine Pure.ot Tryz.func9 I Tryz.ntmps9 I λA w=>.sA 4 I<|.seq<|.sr<|.Z h I (law16_awake_ok _ ) λx1 h=>.A 1 I<|.nil<|.condS I h (λh=>?_) λh=>?_
 ·refine .sA 1 I<|.ret (rO h I)
 ·refine .skip<|.seq<|.seq<|.plain 9 I<|.A 1 I<|.Z h I (ref13_Few_ok _ _) λx2 h=>.A 2 I<|gK h λc4 h=>.jO 4 (!((symmetry_Holds n t0 t1).getD default)) I (λb3=>?_) ?_
  ·refine .A 2 I<|.q I (.call I (kC I) I (symmetry_Holds_ok _ _ _ _ (someD (impF c4 b3))))<|.A 1 I<|.nil I
  refine .nil<|.nil<|.condS I h (λh=>?_) λh=>?_
  ·refine .sA 1 I<|.K [14] I<|.ret (rO h I)
  ·refine .skip<|.J [3,4,5,7,8,13] h (λv=>[]) (λv=>[]) I (λk_5 h=>?_) (λv h=>?_)
   ·refine .S 3 I<|.Z h I (symmetry_Cell_ok _ _ _ _) λx6 h=>.A 1 I<|.p I (.extract I I I)<|.p I (.extract I I I)<|.A 2 I<|.nil<|.K [2,3,4,5,7,8,13,15,16] I<|.sA 1 I<|.condS I h (λh=>?_) λh=>?_
    ·refine .S 3 I<|.Z h I (symmetry_Cell_ok _ _ _ _) λx7 h=>.A 1 I<|.p I (.extract I I I)<|.p I (.extract I I I)<|.A 2 I<|.nil<|.seq<|.plain 7 I<|.A 3 I<|.jO 3 (x7.1 != t2) I (λb8=>?_) ?_
     ·refine .A 3 I<|.nil I
     refine .nil<|.nil<|.K [3,4,5,7,8,13,67] I<|.condS I h (λh=>?_) λh=>?_
     ·refine .sA 1 I<|.ret (rO h I)
     ·refine .skip (ndE h I)
    ·refine .skip (ndE h I)
   ·refine .J [4,5,7,8,13] h (λv=>[]) (λv=>[]) I (λk_9 h=>?_) (λv h=>?_)
    ·refine .S 3 I<|.Z h I (symmetry_Action_ok _ _ _ _) λx10 h=>.A 1 I<|.p I (.extract I I I)<|.p I (.extract I I I)<|.A 2 I<|.nil<|.K [3,4,5,7,8,13,19,20] I<|.sA 1 I<|.condS I h (λh=>?_) λh=>?_
     ·refine .S 3 I<|.Z h I (symmetry_Action_ok _ _ _ _) λx11 h=>.A 1 I<|.p I (.extract I I I)<|.p I (.extract I I I)<|.A 2 I<|.nil<|.seq<|.plain 7 I<|.A 3 I<|.jO 3 (x11.1 != t3) I (λb12=>?_) ?_
      ·refine .A 3 I<|.nil I
      refine .nil<|.nil<|.K [4,5,7,8,13,89] I<|.condS I h (λh=>?_) λh=>?_
      ·refine .sA 1 I<|.ret (rO h I)
      ·refine .skip (ndE h I)
     ·refine .skip (ndE h I)
    ·refine .J [5,7,8,13] h (λv=>[]) (λv=>[]) I (λk_13 h=>?_) (λv h=>?_)
     ·refine .S 3 I<|.Z h I (symmetry_Constraint_ok _ _ _ _) λx14 h=>.A 1 I<|.p I (.extract I I I)<|.p I (.extract I I I)<|.A 2 I<|.nil<|.K [4,5,7,8,13,23,24] I<|.sA 1 I<|.condS I h (λh=>?_) λh=>?_
      ·refine .S 3 I<|.Z h I (symmetry_Constraint_ok _ _ _ _) λx15 h=>.A 1 I<|.p I (.extract I I I)<|.p I (.extract I I I)<|.A 2 I<|.nil<|.seq<|.plain 7 I<|.A 3 I<|.jO 3 (x15.1 != t4) I (λb16=>?_) ?_
       ·refine .A 3 I<|.nil I
       refine .nil<|.nil<|.K [5,7,8,13,111] I<|.condS I h (λh=>?_) λh=>?_
       ·refine .sA 1 I<|.ret (rO h I)
       ·refine .skip (ndE h I)
      ·refine .skip (ndE h I)
     ·refine .J [7,8,13] h (λv=>[]) (λv=>[]) I (λk_17 h=>?_) (λv h=>?_)
      ·refine .S 3 I<|.Z h I (symmetry_State_ok _ _ _ _) λx18 h=>.A 1 I<|.p I (.extract I I I)<|.p I (.extract I I I)<|.A 2 I<|.nil<|.K [5,7,8,13,27,28] I<|.sA 1 I<|.condS I h (λh=>?_) λh=>?_
       ·refine .S 3 I<|.Z h I (symmetry_State_ok _ _ _ _) λx19 h=>.A 1 I<|.p I (.extract I I I)<|.p I (.extract I I I)<|.A 2 I<|.nil<|.seq<|.plain 8 I<|.A 3 I<|gK h λc21 h=>.jO 4 (!((slices_Equal_Lint_int n x19.1 t5).getD default)) I (λb20=>?_) ?_
        ·refine .A 2 I<|.q I (.call I (kC I) I (slices_Equal_Lint_int_ok _ _ _ _ (someD (impF c21 b20))))<|.A 1 I<|.nil I
        refine .nil<|.nil<|.K [7,8,13,134] I<|.condS I h (λh=>?_) λh=>?_
        ·refine .sA 1 I<|.ret (rO h I)
        ·refine .skip (ndE h I)
       ·refine .skip (ndE h I)
      ·refine .S 3 I<|.Z h I (symmetry_Question_ok _ _ _ _) λx22 h=>.A 1 I<|.p I (.extract I I I)<|.p I (.extract I I I)<|.allocStore I I I I I I I I (by simp) I I Z34<|.A 1 I<|.nil<|.K [7,8,13,31,32] I<|.seq<|.S 3 I<|.Z h I (ref16_Valid_ok _ _ _) λx23 h=>.p I (.bne I U4 I I)<|.nil<|.condS I h (λh=>?_) λh=>?_
       ·refine .sA 1 I<|.ret (rO h I)
       ·refine .skip<|.S 3 I<|.Z h I (symmetry_Question_ok _ _ _ _) λx24 h=>.A 1 I<|.p I (.extract I I I)<|.p I (.extract I I I)<|.allocStore I I I I I I I I (by simp) I I Z34<|.A 1 I<|.nil<|.seq<|.plain 10 I<|.A 3 I<|.jO 6 (x24.2&&(decide ((x24.1:Question)=t6))) I (λb25=>?_) ?_
        ·refine .A 2 I<|.jAnd 3 (b2:=decide ((x24.1:Question)=t6)) I I I I (.inr ⟨_,_,_,I,I,I⟩) (λ_ _ _ h1 h2=>by cases h1;cases h2;decide) I I (λb26=>?_) ?_
         ·refine .A 2 I<|.q I (.seql I SE34 I I (xs:=Question.vals _) (ys:=Question.vals _) I I I I (SQ34 _ _))<|.nil I
         exact .nil I
        refine .nil<|.A 1 I<|.nil<|.K [14] I<|.ret (rO h I)
theorem loopF_g {σ R:Type} {body:(σ→Option R)→σ→Option R} {len:Nat} {st:Nat→σ} {g:Nat→Option R}
  (hb:∀ rec i,i<len→rec (st (i+1))=g (i+1)→body rec (st i)=g i) (he:∀ rec,body rec (st len)=g len) :
  ∀ n i,i≤len→len - i<n→loopF body n (st i)=g i
 | 0,_,_,h=>by omega
 | n+1,i,hi,h=>by
  simp only [loopF];by_cases e:i=len
  ·subst e;exact he _
  ·exact hb _ i (by omega) (loopF_g hb he n (i+1) (by omega) (by omega))
theorem add64_1 {i:Nat} (h:i<4611686018427387904):add64 (i:Int) 1=((i+1:Nat):Int):=by
 unfold add64;rw [w64_id (by omega) (by omega)];omega
theorem idx_nat {α:Type} {l:List α} {i:Nat} (h:i<l.length):idx l (i:Int)=some l[i]:=by
 unfold idx;rw [if_pos (by omega)];simp [h]
theorem lt_len {α:Type} {l:List α} {i:Nat} (h:i<l.length):decide ((i:Int)<(l.length:Int))=true:=by simp;omega
theorem ge_len {α:Type} {l:List α}:decide (((l.length:Nat):Int)<(l.length:Int))=false:=by simp
def addedP:List Change→Int→Int
 | [],_=>0
 | d::l,c=>if d.cell=c then d.add else addedP l c
theorem drop_cons {α:Type} {l:List α} {i:Nat} (h:i<l.length):l.drop i=l[i]::l.drop (i+1):=List.drop_eq_getElem_cons h
def addP (c:Int):List Change→Int→Int
 | [],s=>s
 | d::l,s=>addP c l (if d.cell=c then add64 s d.add else s)
section
variable {κ:Type} [DecidableEq κ]
structure SetIs (m:GMap κ Bool) (l:List κ):Prop where
 tru:∀ e∈m.es,e.2.2=true
 mem:∀ k,k∈m.es.map (λe=>e.2.1)↔k∈l
theorem findK_get (k:κ):∀ (es:List (Nat×κ×Bool)),(∀ e∈es,e.2.2=true)→((findK k es).map (·.2)).getD false=decide (k∈es.map (λe=>e.2.1))
 | [],_=>by simp [findK]
 | e::es,h=>by
  simp only [findK,yN,yE];by_cases hk:k=e.2.1
  ·simp [hk,h e (by simp)]
  ·rw [if_neg hk];have:=findK_get k es λx hx=>h x (by simp [hx])
   simp only [hk,false_or,← this,Option.map_map];cases findK k es <;> rfl
theorem findK_no (k:κ):∀ (es:List (Nat×κ×Bool)),findK k es=none→k∉es.map (λe=>e.2.1)
 | [],_=>by simp
 | e::es,h=>by
  simp only [findK] at h;split at h
  ·cases h
  ·rename_i hk;simp only [Option.map_eq_none_iff] at h;simp only [yN,yE,not_or];exact ⟨hk,findK_no k es h⟩
theorem findK_yes (k:κ):∀ (es:List (Nat×κ×Bool)) (p:Nat×Bool),findK k es=some p→k∈es.map (λe=>e.2.1)
 | [],_,h=>by simp [findK] at h
 | e::es,p,h=>by
  simp only [findK] at h;split at h
  ·rename_i hk;simp [hk]
  ·simp only [Option.map_eq_some_iff] at h;obtain ⟨q,h1,_⟩:=h;exact uu _ (findK_yes k es q h1)
theorem SetIs.get {m:GMap κ Bool} {l:List κ} (h:SetIs m l) (k:κ):(m.get? k).getD false=decide (k∈l):=by
 unfold GMap.get?;rw [findK_get k m.es h.tru];exact decide_eq_decide.2 (h.mem k)
theorem SetIs.empty:SetIs (GMap.empty:GMap κ Bool) []:=⟨λe he=>(by simp [GMap.empty] at he),λk=>by simp [GMap.empty]⟩
theorem modify_keys (f:Nat×κ×Bool→Nat×κ×Bool) (hf:∀ e,(f e).2.1=e.2.1):∀ (es:List (Nat×κ×Bool)) (i:Nat),(es.modify i f).map (λe=>e.2.1)=es.map (λe=>e.2.1)
 | [],_=>by simp
 | e::es,0=>by simp [hf]
 | e::es,i+1=>by simp [modify_keys f hf es i]
theorem modify_all {p:Nat×κ×Bool→Prop} (f:Nat×κ×Bool→Nat×κ×Bool) (hf:∀ e,p (f e)):∀ (es:List (Nat×κ×Bool)) (i:Nat),(∀ e∈es,p e)→∀ e∈es.modify i f,p e
 | [],_,_=>by simp
 | e::es,0,h=>by
  intro x hx;simp only [List.modify_zero_cons,yE] at hx;rcases hx with rfl | hx
  ·exact hf e
  ·exact h x (by simp [hx])
 | e::es,i+1,h=>by
  intro x hx;simp only [List.modify_succ_cons,yE] at hx;rcases hx with rfl | hx
  ·exact h x (by simp)
  ·exact modify_all f hf es i (λy hy=>h y (by simp [hy])) x hx
theorem SetIs.put {m:GMap κ Bool} {l:List κ} (h:SetIs m l) (k:κ):SetIs (m.put k true) (l++[k]):=by
 unfold GMap.put;cases hk:findK k m.es with
 | none=>
  simp only [];refine ⟨λe he=>?_,λx=>?_⟩
  ·simp only [yH,yK] at he;rcases he with he | rfl
   ·exact h.tru e he
   ·rfl
  ·simp only [uf,yN,List.map_nil,yH,yK,h.mem x]
 | some p=>
  obtain ⟨i,b⟩:=p;simp only [];have hkl:k∈l:=(h.mem k).1 (findK_yes k m.es _ hk);refine ⟨modify_all (p:=λe=>e.2.2=true) _ (λe=>rfl) m.es i h.tru,λx=>?_⟩;rw [modify_keys (λe:Nat×κ×Bool=>(e.1,e.2.1,true)) (λe=>rfl) m.es i,h.mem x];simp only [yH,yK];exact ⟨.inl,λhx=>hx.elim id λe=>by rw [e];exact hkl⟩
end
def ixP {α:Type} (p:α→Bool):List α→Nat→Int
 | [],_=>-1
 | x::l,i=>if p x=true then (i:Int) else ixP p l (i+1)
theorem ixP_iff {α:Type} (p):∀ (l:List α) (i:Nat),0≤ixP p l i↔l.any p=true
 | [],_=>by simp [ixP]
 | x::l,i=>by
  have ih:=ixP_iff p l (i+1);rw [ixP,uQ];by_cases h:p x=true
  ·rw [if_pos h,h];simp
  ·rw [if_neg h,ih];simp only [yD] at h;rw [h,y8]
theorem ixP_any {α:Type} (p:α→Bool) (l:List α) (i:Nat):decide (0≤ixP p l i)=l.any p:=by
 have:=ixP_iff p l i;cases h:l.any p with
 | true=>exact decide_eq_true (this.2 h)
 | false=>exact decide_eq_false λhc=>by rw [this.1 hc] at h;cases h
theorem IndexFunc_Lint_eq {n l f p} (hf:∀ x∈l,f x=some (p x)) (hl:l.length<4611686018427387904) (hn:l.length<n):slices_IndexFunc_Lint_int n l f=some (ixP p l 0):=by
 have:=loopF_g (body:=slices_IndexFunc_Lint_int.l1 n l f) (len:=l.length) (st:=λi=>(i:Int)) (g:=λi=>some (ixP p (l.drop i) i)) (λrec i hi hr=>?_) (λrec=>?_) n 0 (yr _) (by omega)
 ·simpa [slices_IndexFunc_Lint_int] using this
 ·simp only [slices_IndexFunc_Lint_int.l1,lt_len hi,if_true,idx_nat hi,ya,hf _ (yk hi),add64_1 (i:=i) (by omega),hr];rw [drop_cons hi];simp only [ixP];split <;> rfl
 ·simp [slices_IndexFunc_Lint_int.l1,ixP]
theorem ContainsFunc_Lint_eq {n:Nat} {l:List Int} {f:Int→Option Bool} {p:Int→Bool} (hf:∀ x∈l,f x=some (p x)) (hl:l.length<4611686018427387904) (hn:l.length<n):slices_ContainsFunc_Lint_int n l f=some (l.any p):=by
 unfold slices_ContainsFunc_Lint_int;rw [IndexFunc_Lint_eq hf hl hn,ya,ixP_any]
def sizeOK (x:Int):Bool:=decide (1≤x)&&decide (x≤6)
def colOK (sizes:List Int) (c:Int):Bool:=decide (0≤c)&&decide (c<(sizes.length:Int))
theorem any_not {α:Type} (p:α→Bool) (l:List α):(!l.any λx=>!p x)=l.all p:=by
 induction l with
 | nil=>rfl
 | cons x l ih=>simp only [uQ,uq,← ih];cases p x <;> simp
theorem cells_sized_eq {n:Nat} {l:List Int} (hl:l.length<4611686018427387904) (hn:l.length<n):cells_sized n l=some (l.all sizeOK):=by
 unfold cells_sized;rw [ContainsFunc_Lint_eq (p:=λx=>!sizeOK x) (λx _=>by simp [cells_sized_1,cells_within,sizeOK]) hl hn,ya,any_not]
theorem cells_columned_eq {n:Nat} {sizes cols:List Int} (hl:cols.length<4611686018427387904) (hn:cols.length<n):cells_columned n sizes cols=some (decide (cols.length≤3)&&cols.all (colOK sizes)):=by
 unfold cells_columned;rw [ContainsFunc_Lint_eq (p:=λx=>!colOK sizes x) (λx _=>by
  simp only [cells_columned_1,colOK,yi,Bool.not_and];congr 1
  ·rw [← decide_not];exact decide_eq_decide.2 (by omega)
  ·rw [← decide_not];exact decide_eq_decide.2 (by omega)) hl hn]
 simp only [yj,yC,grd,if_true,yh,any_not,yi];congr 1;exact decide_eq_decide.2 (by omega)
theorem ref09_sound_eq {n l} (hl:l.length<4611686018427387904) (hn:l.length<n):ref09_sound n l=some (l.all sizeOK):=by
 have:=loopF_g (body:=ref09_sound.l1 n l) (len:=l.length) (st:=λi=>(i:Int)) (g:=λi=>some ((l.drop i).all sizeOK)) (λrec i hi hr=>?_) (λrec=>?_) n 0 (yr _) (by omega)
 ·simpa [ref09_sound] using this
 ·simp only [ref09_sound.l1,lt_len hi,if_true,idx_nat hi,ya,yj,yC,grd,yh,add64_1 (i:=i) (by omega),hr];rw [drop_cons hi];simp only [uq,sizeOK];by_cases h:1≤l[i]∧l[i]≤6
  ·rw [if_neg (by simp;omega)];simp [h.1,h.2]
  ·rw [if_pos (by simp;omega)];have:(decide (1≤l[i])&&decide (l[i]≤6))=false:=by
    simp only [uc,yJ];omega
   rw [this,yT]
 ·simp [ref09_sound.l1]
def widthP (sizes:List Int):List Int→Int→Int
 | [],s=>s
 | c::l,s=>widthP sizes l (mul64 s (sizes.getD c.toNat 0))
theorem widthP_append (sizes):∀ (l m:List Int) (s:Int),widthP sizes (l++m) s=widthP sizes m (widthP sizes l s)
 | [],_,_=>rfl
 | _::l,m,s=>by simp only [ub,widthP];exact widthP_append sizes l m _
theorem idx_col {sizes c} (h:colOK sizes c=true):idx sizes c=some (sizes.getD c.toNat 0):=by
 simp only [colOK,yb,yd] at h;obtain ⟨n,rfl⟩:=yM h.1;have:n<sizes.length:=by omega
 rw [idx_nat this];simp [List.getD,this]
theorem cells_width_eq {n sizes cols} (hc:cols.all (colOK sizes)=true) (hl:cols.length<4611686018427387904) (hn:cols.length<n):cells_width n sizes cols=some (widthP sizes cols 1):=by
 have:=loopF_g (body:=cells_width.l1 n sizes cols) (len:=cols.length) (st:=λi=>(widthP sizes (cols.take i) 1,(i:Int))) (g:=λ_=>some (widthP sizes cols 1)) (λrec i hi hr=>?_) (λrec=>?_) n 0 (yr _) (by omega)
 ·simpa [cells_width,widthP] using this
 ·rw [yw hi,widthP_append] at hr;simp only [widthP] at hr;simp only [cells_width.l1,lt_len hi,if_true,idx_nat hi,ya,idx_col (yp.1 hc _ (yk hi)),add64_1 (i:=i) (by omega),hr]
 ·simp [cells_width.l1]
theorem number_loop {n sizes cols} (hl:cols.length<4611686018427387904) (hn:cols.length<n):loopF (ref09_number.l1 n sizes cols) n (1,0)=some (if cols.all (colOK sizes)=true then widthP sizes cols 1 else 0):=by
 by_cases hc:cols.all (colOK sizes)=true
 ·rw [if_pos hc];have:=loopF_g (body:=ref09_number.l1 n sizes cols) (len:=cols.length) (st:=λi=>(widthP sizes (cols.take i) 1,(i:Int))) (g:=λ_=>some (widthP sizes cols 1)) (λrec i hi hr=>?_) (λrec=>?_) n 0 (yr _) (by omega)
  ·simpa [widthP] using this
  ·rw [yw hi,widthP_append] at hr;simp only [widthP] at hr;have hcol:=yp.1 hc _ (yk hi);have h2:=idx_col hcol;simp only [colOK,yb,yd] at hcol;have hif:((decide (cols[i]<0))||(decide ((sizes.length:Int)≤cols[i])))=false:=by
    simp only [um,yJ];omega
   simp only [ref09_number.l1,lt_len hi,if_true,idx_nat hi,ya,yj,yC,grd,yh,hif,yf,if_false,h2,add64_1 (i:=i) (by omega),hr]
  ·simp [ref09_number.l1]
 ·rw [if_neg hc];have:=loopF_g (body:=ref09_number.l1 n sizes cols) (len:=cols.length) (st:=λi=>(widthP sizes (cols.take i) 1,(i:Int))) (g:=λi=>some (if (cols.drop i).all (colOK sizes)=true then widthP sizes cols 1 else 0)) (λrec i hi hr=>?_) (λrec=>?_) n 0 (yr _) (by omega)
  ·simpa [widthP,hc] using this
  ·rw [yw hi,widthP_append] at hr;simp only [widthP] at hr;rw [drop_cons hi,uq];by_cases hcol:colOK sizes cols[i]=true
   ·have h2:=idx_col hcol;rw [hcol,yB];simp only [colOK,yb,yd] at hcol;have hif:((decide (cols[i]<0))||(decide ((sizes.length:Int)≤cols[i])))=false:=by
     simp only [um,yJ];omega
    simp only [ref09_number.l1,lt_len hi,if_true,idx_nat hi,ya,yj,yC,grd,yh,hif,yf,if_false,h2,add64_1 (i:=i) (by omega),hr]
   ·have hif:((decide (cols[i]<0))||(decide ((sizes.length:Int)≤cols[i])))=true:=by
     simp only [colOK,yb,yd] at hcol;simp only [yA,yd];omega
    simp only [yD] at hcol;rw [hcol,yT,if_neg (by simp)];simp only [ref09_number.l1,lt_len hi,if_true,idx_nat hi,ya,yj,yC,grd,yh,hif]
  ·simp [ref09_number.l1]
theorem ref09_number_eq {n sizes cols} (hl:cols.length<4611686018427387904) (hn:cols.length<n) (hs:sizes.length<4611686018427387904) (hsn:sizes.length<n) :
  ref09_number n sizes cols=some (if (decide (cols.length≤3)&&sizes.all sizeOK&&cols.all (colOK sizes))=true then widthP sizes cols 1 else 0):=by
 unfold ref09_number;rw [ref09_sound_eq hs hsn,number_loop hl hn];simp only [yj,yC,grd,if_true,yh];by_cases h3:cols.length≤3
 ·cases h4:sizes.all sizeOK with
  | true=>rw [if_neg (by simp;omega)];simp [h3]
  | false=>rw [if_pos (by simp)];simp
 ·rw [if_pos (by simp;left;omega)];simp [h3]
theorem loopF_M {S R:Type} {body:(S→Option R)→S→Option R} (μ:S→Nat) (I:S→Prop) (Q:S→Option R→Prop)
  (hb:∀ rec s,I s→(∀ s',I s'→μ s'<μ s→Q s' (rec s'))→Q s (body rec s)):∀ n s,I s→μ s<n→Q s (loopF body n s)
 | 0,_,_,h=>by omega
 | n+1,s,hI,h=>hb _ s hI λs' hI' hlt=>loopF_M μ I Q hb n s' hI' (by omega)
theorem loopF_I {σ S R:Type} {body:(S→Option R)→S→Option R} {len:Nat} {st:σ→Nat→S} {g:Nat→σ→Option R} (I:Nat→σ→Prop)
  (hb:∀ rec i s,i<len→I i s→(∀ s',I (i+1) s'→rec (st s' (i+1))=g (i+1) s')→body rec (st s i)=g i s) (he:∀ rec s,I len s→body rec (st s len)=g len s) :
  ∀ n i s,i≤len→len - i<n→I i s→loopF body n (st s i)=g i s
 | 0,_,_,_,h,_=>by omega
 | n+1,i,s,hi,h,hI=>by
  simp only [loopF];by_cases e:i=len
  ·subst e;exact he _ _ hI
  ·exact hb _ i s (by omega) hI λs' hI'=>loopF_I I hb he n (i+1) s' (by omega) (by omega) hI'
theorem loopF_1 {S R:Type} {body:(S→Option R)→S→Option R} {n:Nat} (h:0<n) (s:S):loopF body n s=body (loopF body (n - 1)) s:=by
 obtain ⟨m,rfl⟩:∃ m,n=m+1:=⟨n - 1,by omega⟩
 rfl
theorem add64_nat {a b:Nat} (h:a+b<9223372036854775808):add64 (a:Int) (b:Int)=((a+b:Nat):Int):=by
 unfold add64;rw [w64_id (by omega) (by omega)];omega
theorem sidx_nat {l:List UInt8} {i} (h:i<l.length):sidx l (i:Int)=some ((l[i].toNat:Nat):Int):=by
 unfold sidx;rw [if_pos (by omega)];simp [h]
theorem cut_nat {α:Type} {l:List α} {a b:Nat} (h1:a≤b) (h2:b≤l.length):cut l (a:Int) (b:Int)=some ((l.drop a).take (b - a)):=by
 unfold cut;rw [if_pos (by omega)];simp
theorem cut_end {α:Type} {l:List α} {a:Nat} (h1:a≤l.length):cut l (a:Int) (l.length:Int)=some (l.drop a):=by
 rw [cut_nat h1 (yn _),List.take_of_length_le (by simp)]
theorem cut_all {α:Type} {l:List α}:cut l 0 (l.length:Int)=some l:=by
 have:=cut_end (l:=l) (a:=0) (by omega);simpa using this
theorem lt_nat {i k:Nat} (h:i<k):decide ((i:Int)<(k:Int))=true:=by simp;omega
theorem ge_nat {i k:Nat} (h:k≤i):decide ((i:Int)<(k:Int))=false:=by simp;omega
def runP (p:Int→Bool):List UInt8→Nat
 | []=>0
 | b::l=>if p (b.toNat:Nat)=true then runP p l+1 else 0
theorem runP_le (p):∀ l,runP p l≤l.length
 | []=>yn _
 | b::l=>by
  simp only [runP,yP];split
  ·exact Nat.succ_le_succ (runP_le p l)
  ·omega
theorem lexer_run_eq {n} {l:List UInt8} {f p} (hf:∀ q,f q=some (p q)) (hl:l.length<4611686018427387904) (hn:l.length<n):lexer_run n l f=some ((runP p l:Nat):Int):=by
 have:=loopF_g (body:=lexer_run.l1 n l f) (len:=l.length) (st:=λi=>(i:Int)) (g:=λi=>some ((i+runP p (l.drop i):Nat):Int)) (λrec i hi hr=>?_) (λrec=>?_) n 0 (yr _) (by omega)
 ·simpa [lexer_run] using this
 ·simp only [lexer_run.l1,lt_len hi,sidx_nat hi,yj,yS,y8,grd,if_true,yh,hf,yB,add64_1 (i:=i) (by omega),hr];rw [drop_cons hi];simp only [runP];split <;> simp <;> omega
 ·simp [lexer_run.l1,runP,grd]
def letterP (q:Int):Bool:=decide (97≤q)&&decide (q≤122)
def digitP (q:Int):Bool:=decide (48≤q)&&decide (q≤57)
def partP (q:Int):Bool:=(letterP q||digitP q)||(q==95)
theorem lexer_letter_eq {n q}:lexer_letter n q=some (letterP q):=rfl
theorem lexer_digit_eq {n q}:lexer_digit n q=some (digitP q):=rfl
theorem ref_letter_eq {n q}:ref02_letter n q=some (letterP q):=rfl
theorem ref_digit_eq {n q}:ref02_digit n q=some (digitP q):=rfl
def blackP (q:Int):Bool:=!(q==9||q==10||q==13||q==32||q==35)
theorem letter_black {q} (h:letterP q=true):blackP q=true:=by
 simp only [letterP,yb,yd] at h;simp only [blackP,yG,um,ug];omega
theorem lexer_skip_tt {n:Nat} {l:List UInt8} (hl:l.length<1000000) (hn:1000000≤n) :
  ∃ k:Nat,lexer_skip n l=some (k:Int)∧k≤l.length∧(∀ h:0<l.length,blackP (l[0].toNat:Nat)=true→k=0)∧(∀ h:0<l.length,blackP (l[0].toNat:Nat)=false→0<k):=by
 have:=loopF_M (body:=lexer_skip.l1 n l) (λs:Int=>l.length - s.toNat) (λs=>∃ i:Nat,s=i∧i≤l.length) (λs o=>∃ k:Nat,o=some (k:Int)∧k≤l.length∧s.toNat≤k∧∀ h:s.toNat<l.length,(blackP (l[s.toNat].toNat:Nat)=true→k=s.toNat)∧(blackP (l[s.toNat].toNat:Nat)=false→s.toNat<k))
  (λrec s hI hr=>by
   obtain ⟨i,rfl,hi⟩:=hI;by_cases hlt:i<l.length
   ·simp only [lexer_skip.l1,lt_len hlt,if_true,sidx_nat hlt,ya,lexer_white,yv];by_cases hw:((((((l[i].toNat:Nat):Int)==32)||(((l[i].toNat:Nat):Int)==9))||(((l[i].toNat:Nat):Int)==10))||(((l[i].toNat:Nat):Int)==13))=true
    ·rw [if_pos hw,add64_1 (i:=i) (by omega)];obtain ⟨k,e,k1,k2,-⟩:=hr ((i+1:Nat):Int) ⟨i+1,rfl,by omega⟩ (by simp only [yv];omega);simp only [yv] at k2;refine ⟨k,e,k1,by omega,λh=>⟨λhb=>?_,λhb=>by omega⟩⟩;exfalso;simp only [yA,beq_iff_eq] at hw;simp only [blackP,yG,um,ug] at hb;omega
    ·rw [if_neg hw];by_cases hh:((l[i].toNat:Nat):Int)=35
     ·rw [if_pos (by simp [hh]),cut_end hi,ya,lexer_run_eq (f:=λq=>lexer_skip_1 n q) (p:=λq=>q != 10) (λq=>rfl) (by rw [yZ];omega) (by rw [yZ];omega),ya];have hrun:1≤runP (λq=>q != 10) (l.drop i):=by
       rw [drop_cons hlt,runP,hh];simp
      have hle:=runP_le (λq=>q != 10) (l.drop i);simp only [yZ] at hle;rw [add64_nat (by omega)];obtain ⟨k,e,k1,k2,-⟩:=hr ((i+runP (λq=>q != 10) (l.drop i):Nat):Int) ⟨_,rfl,by omega⟩ (by simp only [yv];omega);simp only [yv] at k2;refine ⟨k,e,k1,by omega,λh=>⟨λhb=>?_,λhb=>by omega⟩⟩;rw [hh] at hb;exact absurd hb (by decide)
     ·rw [if_neg (by simpa using hh)];refine ⟨i,rfl,hi,yn _,λh=>⟨λ_=>rfl,λhb=>?_⟩⟩;exfalso;simp only [yA,beq_iff_eq,not_or] at hw;simp only [blackP,Bool.not_eq_false',yA,beq_iff_eq] at hb;omega
   ·have:i=l.length:=by omega
    subst this;refine ⟨l.length,by simp [lexer_skip.l1],yn _,by simp,λh=>by simp at h⟩) n 0 ⟨0,rfl,by omega⟩ (by simp;omega)
 obtain ⟨k,e,k1,-,k2⟩:=this;exact ⟨k,by simpa [lexer_skip] using e,k1,λh hb=>(k2 h).1 hb,λh hb=>(k2 h).2 hb⟩
theorem lexer_symbol_tt {n:Nat} {l:List UInt8} (hn:1000000≤n):∃ k:Int,lexer_symbol n l=some k:=by
 have:=loopF_M (body:=lexer_symbol.l1 n l) (λs:Int=>5 - s.toNat) (λs=>∃ i:Nat,s=i∧i≤5) (λ_ o=>∃ k:Int,o=some k) (λrec s hI hr=>by
  obtain ⟨i,rfl,hi⟩:=hI;simp only [lexer_symbol.l1];generalize hL:([[61,61],[33,61],[60,61],[62,61],[46,46]]:List (List UInt8))=L;have hLl:L.length=5:=by rw [← hL];rfl
  by_cases hlt:i<L.length
  ·have hp:∃ b,strings_HasPrefix n l L[i]=some b:=by
    simp only [strings_HasPrefix,internal_stringslite_HasPrefix];by_cases h:L[i].length≤l.length
    ·have:cut l 0 (L[i].length:Int)=some ((l.drop 0).take (L[i].length - 0)):=cut_nat (a:=0) (by omega) (by omega)
     simp [this,grd]
    ·simp [h,grd]
   obtain ⟨b,hp⟩:=hp;have hd:decide ((i:Int)<(([[61,61],[33,61],[60,61],[62,61],[46,46]]:List (List Nat)).length:Int))=true:=by simp;omega
   simp only [hd,if_true,idx_nat hlt,ya,hp,add64_1 (i:=i) (by omega)];split
   ·exact ⟨_,rfl⟩
   ·exact hr _ ⟨i+1,rfl,by omega⟩ (by simp only [yv];omega)
  ·have hd:decide ((i:Int)<(([[61,61],[33,61],[60,61],[62,61],[46,46]]:List (List Nat)).length:Int))=false:=by simp;omega
   rw [hd,if_neg (by simp)];cases l with
   | nil=>simp [grd]
   | cons b l=>
    have h0:sidx (b::l) 0=some ((b.toNat:Nat):Int):=sidx_nat (l:=b::l) (i:=0) (by simp)
    simp only [h0,strings_IndexByte,internal_stringslite_IndexByte,ya,yj,yC,grd,if_true,yh];split <;> exact ⟨_,rfl⟩) n 0 ⟨0,rfl,by omega⟩ (by simp;omega)
 simpa [lexer_symbol] using this
theorem lexer_begins_tt {n} {l:List UInt8} (hn:1000000≤n) (h:0<l.length):∃ b,lexer_begins n l=some b:=by
 obtain ⟨k,hk⟩:=lexer_symbol_tt (n:=n) (l:=l) hn;have h0:sidx l 0=some ((l[0].toNat:Nat):Int):=sidx_nat (i:=0) h;simp [lexer_begins,h0,lexer_letter,lexer_digit,hk,grd]
theorem lexer_wrong_tt {n:Nat} {l:List UInt8} {k:(Int×Int)→Option Token} (hl:l.length<1000000) (hn:1000000≤n) (h1:0<l.length):∃ e,loopF (lexer_tokens_1.l2 n l k) n 1=k (5,e):=by
 refine loopF_M (body:=lexer_tokens_1.l2 n l k) (λs:Int=>l.length - s.toNat) (λs=>∃ i:Nat,s=i∧i≤l.length) (λ_ o=>∃ e,o=k (5,e)) (λrec s hI hr=>?_) n 1 ⟨1,rfl,h1⟩ (by simp;omega);obtain ⟨i,rfl,hi⟩:=hI;by_cases hlt:i<l.length
 ·obtain ⟨b,hb⟩:=lexer_begins_tt (n:=n) (l:=l.drop i) hn (by simp;omega);simp only [lexer_tokens_1.l2,lt_len hlt,sidx_nat hlt,lexer_white,cut_end hi,hb,yj,yC,grd,if_true,yh,add64_1 (i:=i) (by omega)];split
  ·exact hr _ ⟨i+1,rfl,by omega⟩ (by simp only [yv];omega)
  ·exact ⟨_,rfl⟩
 ·have:i=l.length:=by omega
  subst this;exact ⟨(l.length:Int),by simp [lexer_tokens_1.l2,grd]⟩
def wordP (w:List UInt8):Bool:=(match w with | []=>false | b::_=>letterP (b.toNat:Nat))&&decide (runP partP w=w.length)
theorem wordP_cons (w:List UInt8) (h:0<w.length):wordP w=(letterP (w[0].toNat:Nat)&&decide (runP partP w=w.length)):=by
 cases w with
 | nil=>simp at h
 | cons b l=>rfl
theorem lexer_first {n:Nat} {w:List UInt8} {kw:GMap (List UInt8) Bool} (hl:w.length<1000000) (hn:1000000≤n) (h0:0<w.length) :
  ∃ t,lexer_tokens_1 n w kw=some t∧(t.at_=0∧t.end_=(w.length:Int)∧t.kind=1↔wordP w=true∧(kw.get? w).getD false=false):=by
 obtain ⟨k,e,k1,k2,k3⟩:=lexer_skip_tt (n:=n) (l:=w) hl hn;unfold lexer_tokens_1;rw [loopF_1 (by omega)];have hz:add64 0 (k:Int)=(k:Int):=by have:=add64_nat (a:=0) (b:=k) (by omega);simpa using this
 simp only [lexer_tokens_1.l1,cut_all,ya,e,hz,cut_end k1,jn];by_cases hk:k=w.length
 ·subst hk;rw [if_pos (by simp)];refine ⟨_,rfl,?_⟩;simp only [];constructor
  ·rintro ⟨-,-,h⟩;simp at h
  ·rintro ⟨h,-⟩;exfalso;rw [wordP_cons w h0,yb] at h;have:=k2 h0 (letter_black h.1);omega
 ·have hd:0<(w.drop k).length:=by simp;omega
  rw [if_neg (by simp;omega)];have hs:sidx (w.drop k) 0=some (((w.drop k)[0].toNat:Nat):Int):=sidx_nat (i:=0) hd;simp only [hs,ya,lexer_letter_eq];rw [wordP_cons w h0];by_cases hlet:letterP (((w.drop k)[0].toNat:Nat):Int)=true
  ·rw [if_pos hlet,lexer_run_eq (p:=partP) (λq=>by simp [lexer_part,lexer_letter,lexer_digit,grd,partP,letterP,digitP]) (by simp;omega) (by simp;omega)];have hle:=runP_le partP (w.drop k);have hc:=cut_nat (l:=w.drop k) (a:=0) (b:=runP partP (w.drop k)) (by omega) hle;simp only [ya,Int.natCast_zero] at hc ⊢;rw [hc];simp only [yZ] at hle;have ha:add64 (k:Int) (runP partP (w.drop k):Nat)=((k+runP partP (w.drop k):Nat):Int):=add64_nat (by omega)
   simp only [ya,ha,List.drop_zero,Nat.sub_zero];by_cases hk0:k=0
   ·subst hk0;simp only [List.drop_zero] at hlet ⊢;by_cases hrun:runP partP w=w.length
    ·rw [hrun,List.take_of_length_le (yn _)];by_cases hkw:(kw.get? w).getD false=true
     ·rw [if_pos hkw];refine ⟨_,rfl,?_⟩;simp [hkw]
     ·rw [if_neg hkw];refine ⟨_,rfl,?_⟩;simp only [yD] at hkw;simp [hkw,hlet]
    ·split
     all_goals
      refine ⟨_,rfl,?_⟩;simp [hrun]
      try omega
   ·have hbl:blackP (w[0].toNat:Nat)=false:=by
     cases hb:blackP (w[0].toNat:Nat) with
     | false=>rfl
     | true=>exact absurd (k2 h0 hb) hk0
    have hnl:letterP (w[0].toNat:Nat)=false:=by
     cases hb:letterP (w[0].toNat:Nat) with
     | false=>rfl
     | true=>rw [letter_black hb] at hbl;cases hbl
    split
    all_goals
     refine ⟨_,rfl,?_⟩;simp [hnl,hk0]
  ·rw [if_neg hlet];have hno:k=0→letterP (w[0].toNat:Nat)=false:=by
    intro hk0;subst hk0;simp only [List.drop_zero,yD] at hlet;exact hlet
   have hno':letterP (w[0].toNat:Nat)=false:=by
    by_cases hk0:k=0
    ·exact hno hk0
    ·cases hb:letterP (w[0].toNat:Nat) with
     | false=>rfl
     | true=>exact absurd (k2 h0 (letter_black hb)) hk0
   simp only [lexer_digit_eq,ya,hno',yT,yf,false_and,iff_false];split
   ·rw [lexer_run_eq (p:=digitP) (λq=>rfl) (by simp;omega) (by simp;omega)];exact ⟨_,rfl,by simp⟩
   ·obtain ⟨v,hv⟩:=lexer_symbol_tt (n:=n) (l:=w.drop k) hn;simp only [hv,ya];split
    ·exact ⟨_,rfl,by simp⟩
    ·obtain ⟨e,he⟩:=lexer_wrong_tt (n:=n) (l:=w.drop k) (k:=λv=>some (⟨v.1,0,(k:Int),add64 (k:Int) v.2⟩:Token)) (by simp;omega) hn hd;rw [he];exact ⟨_,rfl,by simp⟩
def kwL:List (List UInt8):=[[115,111,114,116],[114,101,108,97,116,105,111,110],[99,111,117,110,116,101,114],[115,101,116],[114,101,103,105,115,116,101,114],[105,110,118,97,114,105,97,110,116],[111,112,101,114,97,116,105,111,110],[107,101,121],[114,101,102,101,114,101,110,99,101],[116,111],[99,111,117,110,116],[97,99,121,99,108,105,99],[97,108,108],[115,117,109],[105,110],[97,100,100,119,105,110,115],[114,101,109,111,118,101,119,105,110,115],[108,97,115,116],[109,117,108,116,105],[104,105,100,101],[111,114,100,101,114,101,100],[114,101,113,117,105,114,101],[104,111,108,100],[105,110,115,101,114,116],[100,101,108,101,116,101],[97,100,100],[102,114,111,109],[112,117,116],[100,114,111,112],[97,115,115,105,103,110],[102,111,114],[119,104,101,114,101],[97,110,100],[111,114],[110,111,116]]
structure Fuel (n:Nat):Prop where
 big:4294967296≤n
 kw:∃ m,lexer_keywords n=some m∧SetIs m kwL
def nameP (w:List UInt8):Bool:=decide (w.length≤16)&&(wordP w&&!decide (w∈kwL))
theorem lexer_Name_eq {n} {w:List UInt8} (hF:Fuel n):lexer_Name n w=some (nameP w):=by
 have hn:=hF.big;unfold lexer_Name nameP;by_cases h16:w.length≤16
 ·have hd:decide ((w.length:Int)≤16)=true:=by simp;omega
  simp only [hd,h16,decide_true,yB,yS,y8];unfold lexer_Kind;obtain ⟨m,hm,hs⟩:=hF.kw;cases hw:w with
  | nil=>simp [grd,wordP]
  | cons b l=>
   rw [← hw];have h0:0<w.length:=by rw [hw];simp
   rw [if_neg (by simp;exact ⟨by rw [hw];simp,by omega⟩),hm,ya];obtain ⟨t,ht,hiff⟩:=lexer_first (n:=n) (w:=w) (kw:=m) (by omega) (by omega) h0;rw [hs.get] at hiff;simp only [ht,ya];by_cases hc:t.at_=0∧t.end_=(w.length:Int)∧t.kind=1
   ·have:=hiff.1 hc;rw [if_neg (by simp [hc.1,hc.2.1])];simp only [yJ] at this;simp [grd,hc.2.2,this.1,this.2]
   ·have hr:(wordP w&&!decide (w∈kwL))=false:=by
     cases hx:(wordP w&&!decide (w∈kwL)) with
     | false=>rfl
     | true=>
      simp only [yb,yG,yJ] at hx;exact absurd (hiff.2 ⟨hx.1,by simp [hx.2]⟩) hc
    rw [hr];split
    ·simp [grd]
    ·rename_i hne;simp only [yA,bne_iff_ne,ne_eq,not_or,Decidable.not_not] at hne;have:t.kind≠1:=λe=>hc ⟨hne.1,hne.2,e⟩
     simp [grd,this]
 ·have hd:decide ((w.length:Int)≤16)=false:=by simp;omega
  simp [hd,h16,grd]
theorem ref_comment {n} {t:List UInt8} {rec x} (hx:x≤t.length) (hl:t.length<1000000) (hn:1000000≤n) :
  ∃ y:Nat,x≤y∧y≤t.length∧loopF (ref02_skip.l2 n t rec) n x=rec (y:Int)∧∀ h:x<t.length,(t[x].toNat:Nat)=35→x<y:=by
 have:=loopF_M (body:=ref02_skip.l2 n t rec) (λs:Int=>t.length - s.toNat) (λs=>∃ i:Nat,s=i∧i≤t.length) (λs o=>∃ y:Nat,s.toNat≤y∧y≤t.length∧o=rec (y:Int)∧∀ h:s.toNat<t.length,(t[s.toNat].toNat:Nat)=35→s.toNat<y) (λr s hI hr=>by
  obtain ⟨i,rfl,hi⟩:=hI;by_cases hlt:i<t.length
  ·simp only [ref02_skip.l2,lt_len hlt,sidx_nat hlt,yj,yC,grd,if_true,yh,yB,add64_1 (i:=i) (by omega),yv];by_cases h10:((((t[i].toNat:Nat):Int) != 10))=true
   ·rw [if_pos h10];obtain ⟨y,y1,y2,y3,-⟩:=hr ((i+1:Nat):Int) ⟨_,rfl,by omega⟩ (by simp only [yv];omega);simp only [yv] at y1;exact ⟨y,by omega,y2,y3,λ_ _=>by omega⟩
   ·rw [if_neg h10];refine ⟨i,yn _,hi,rfl,λ_ h=>?_⟩;rw [h] at h10;exact absurd h10 (by decide)
  ·have:i=t.length:=by omega
   subst this;exact ⟨t.length,by simp,yn _,by simp [ref02_skip.l2,grd],λh=>by simp at h⟩) n x ⟨x,rfl,hx⟩ (by simp;omega)
 simpa using this
theorem ref_skip_ok {n} {t:List UInt8} {a} (ha:a≤t.length) (hl:t.length<1000000) (hn:1000000≤n) :
  ∃ k:Nat,ref02_skip n t a=some (k:Int)∧a≤k∧k≤t.length∧(∀ h:k<t.length,blackP (t[k].toNat:Nat)=true)∧(∀ h:a<t.length,blackP (t[a].toNat:Nat)=true→k=a):=by
 have:=loopF_M (body:=ref02_skip.l1 n t) (λs:Int=>t.length - s.toNat) (λs=>∃ i:Nat,s=i∧i≤t.length)
  (λs o=>∃ k:Nat,o=some (k:Int)∧s.toNat≤k∧k≤t.length∧(∀ h:k<t.length,blackP (t[k].toNat:Nat)=true)∧(∀ h:s.toNat<t.length,blackP (t[s.toNat].toNat:Nat)=true→k=s.toNat)) (λr s hI hr=>by
  obtain ⟨i,rfl,hi⟩:=hI;by_cases hlt:i<t.length
  ·simp only [ref02_skip.l1,lt_len hlt,sidx_nat hlt,ref02_white,yj,yC,grd,if_true,yh,yB,ya,add64_1 (i:=i) (by omega),yv];by_cases hb:blackP (t[i].toNat:Nat)=true
   ·rw [if_neg (by
     simp only [blackP,yG,um,ug] at hb;simp only [yA,beq_iff_eq];omega)]
    exact ⟨i,rfl,yn _,hi,λ_=>hb,λ_ _=>rfl⟩
   ·rw [if_pos (by
     simp only [blackP,yG,um,ug] at hb;simp only [yA,beq_iff_eq];omega)]
    by_cases hh:(t[i].toNat:Nat)=35
    ·rw [if_pos (by simp [hh])];obtain ⟨y,y1,y2,y3,y4⟩:=ref_comment (n:=n) (rec:=r) hi hl hn;have y5:=y4 hlt hh;rw [y3];obtain ⟨k,e,k1,k2,k3,-⟩:=hr (y:Int) ⟨y,rfl,y2⟩ (by simp only [yv];omega);simp only [yv] at k1;exact ⟨k,e,by omega,k2,k3,λ_ h=>absurd h hb⟩
    ·rw [if_neg (by simp;omega)];obtain ⟨k,e,k1,k2,k3,-⟩:=hr ((i+1:Nat):Int) ⟨_,rfl,by omega⟩ (by simp only [yv];omega);simp only [yv] at k1;exact ⟨k,e,by omega,k2,k3,λ_ h=>absurd h hb⟩
  ·have:i=t.length:=by omega
   subst this;exact ⟨t.length,by simp [ref02_skip.l1,grd],by simp,yn _,λh=>absurd h (by omega),λh=>by simp at h⟩) n a ⟨a,rfl,ha⟩ (by simp;omega)
 simpa [ref02_skip] using this
theorem ref_symbol_ok {n} {t:List UInt8} {a} (ha:a≤t.length) (hl:t.length<1000000) (hn:1000000≤n):∃ v:Nat,ref02_symbol n t a=some (v:Int)∧a+v≤t.length:=by
 unfold ref02_symbol;simp only [ref02_Symbols,ya];generalize hL:([[61,61],[33,61],[60,61],[62,61],[46,46],[60],[62],[61],[43],[45],[42],[40],[41],[123],[125],[44],[58],[59]]:List (List UInt8))=L;have hLl:L.length=18:=by rw [← hL];rfl
 have hL2:∀ x∈L,x.length≤2:=by rw [← hL];decide
 refine loopF_M (body:=ref02_symbol.l1 n t a L) (λs:Int=>18 - s.toNat) (λs=>∃ i:Nat,s=i∧i≤18) (λs o=>∃ v:Nat,o=some (v:Int)∧a+v≤t.length) (λr s hI hr=>?_) n 0 ⟨0,rfl,by omega⟩ (by simp;omega);obtain ⟨i,rfl,hi⟩:=hI;by_cases hlt:i<L.length
 ·have h2:=hL2 _ (yk hlt);simp only [ref02_symbol.l1,lt_len hlt,if_true,idx_nat hlt,ya,yj,yh,yC,add64_1 (i:=i) (by omega),add64_nat (show a+L[i].length<9223372036854775808 by omega)];by_cases hle:a+L[i].length≤t.length
  ·simp only [cut_nat (l:=t) (a:=a) (b:=a+L[i].length) (by omega) hle,yj,yC,grd,if_true];split
   ·exact ⟨_,rfl,hle⟩
   ·exact hr _ ⟨i+1,rfl,by omega⟩ (by simp only [yv];omega)
  ·have hd:decide (((a+L[i].length:Nat):Int)≤(t.length:Int))=false:=by simp;omega
   simp only [hd,uj,uM,grd,if_true,yT,yf,if_false];exact hr _ ⟨i+1,rfl,by omega⟩ (by simp only [yv];omega)
 ·have:i=L.length:=by omega
  subst this;exact ⟨0,by simp [ref02_symbol.l1],by omega⟩
theorem ref_Has_eq {n} {L:List (List UInt8)} {w:List UInt8} (hl:L.length<1000000) (hn:1000000≤n):ref02_Has n L w=some (decide (w∈L)):=by
 have:=loopF_g (body:=ref02_Has.l1 n L w) (len:=L.length) (st:=λi=>(i:Int)) (g:=λi=>some (decide (w∈L.drop i))) (λrec i hi hr=>?_) (λrec=>?_) n 0 (yr _) (by omega)
 ·simpa [ref02_Has] using this
 ·simp only [ref02_Has.l1,lt_len hi,if_true,idx_nat hi,ya,add64_1 (i:=i) (by omega),hr];rw [drop_cons hi];by_cases h:L[i]=w
  ·rw [if_pos (by simpa using h)];simp only [yE,h,true_or,decide_true]
  ·have h':¬ w=L[i]:=λe=>h e.symm
   rw [if_neg (by simpa using h)];simp only [yE,h',false_or]
 ·simp [ref02_Has.l1]
theorem ref_keywords_eq {n}:ref02_Keywords n=some kwL:=rfl
theorem ref_token_ok {n} {t:List UInt8} {a} (ha:a<t.length) (hb:blackP (t[a].toNat:Nat)=true) (hl:t.length<1000000) (hn:1000000≤n) :
  ∃ (k:Int) (e:Nat),ref02_token n t a=some (k,(e:Int))∧a<e∧e≤t.length∧(letterP (t[a].toNat:Nat)=true→e=a+runP partP (t.drop a))∧(k=1↔letterP (t[a].toNat:Nat)=true∧(t.drop a).take (e - a)∉kwL):=by
 unfold ref02_token;simp only [sidx_nat ha,ya,ref_letter_eq,ref_digit_eq];by_cases hlet:letterP ((t[a].toNat:Nat):Int)=true
 ·rw [if_pos hlet];have hlp:letterP (t[a].toNat:Nat)=true:=hlet;have hrun1:1≤runP partP (t.drop a):=by
   rw [drop_cons ha,runP,if_pos (by simp [partP,hlp])];omega
  have hle:=runP_le partP (t.drop a);simp only [yZ] at hle;have:=loopF_I (body:=ref02_token.l1 n t a) (len:=t.length) (st:=λ(_:Unit) i=>(i:Int)) (g:=λi _=>some (if decide ((t.drop a).take (i+runP partP (t.drop i) - a)∈kwL)=true then (2,((i+runP partP (t.drop i):Nat):Int)) else (1,((i+runP partP (t.drop i):Nat):Int)))) (λi _=>a≤i) (λrec i _ hi hai hr=>?_) (λrec _ hai=>?_) n a () (by omega) (by omega) (yn _)
  ·rw [this];refine ⟨if decide ((t.drop a).take (a+runP partP (t.drop a) - a)∈kwL)=true then 2 else 1,a+runP partP (t.drop a),?_,by omega,by omega,λ_=>rfl,?_⟩
   ·split <;> rfl
   ·rw [hlp];by_cases hk:(t.drop a).take (a+runP partP (t.drop a) - a)∈kwL
    ·simp [hk]
    ·simp [hk]
  ·have hr:=hr () (by omega);have hle':=runP_le partP (t.drop i);simp only [yZ] at hle';simp only [ref02_token.l1,lt_len hi,sidx_nat hi,ref_letter_eq,ref_digit_eq,yj,yC,grd,if_true,yh,yB,add64_1 (i:=i) (by omega),hr];rw [drop_cons hi,runP];have hpe:(letterP ((t[i].toNat:Nat):Int)||digitP ((t[i].toNat:Nat):Int)||((t[i].toNat:Nat):Int)==95)=partP ((t[i].toNat:Nat):Int):=rfl;rw [hpe];by_cases hp:partP (t[i].toNat:Nat)=true
   ·rw [if_pos hp,if_pos hp,show i+(runP partP (t.drop (i+1))+1)=i+1+runP partP (t.drop (i+1)) by omega]
   ·rw [if_neg hp,if_neg hp];simp only [ut,ref_keywords_eq,ya,cut_nat hai (Nat.le_of_lt hi)];rw [ref_Has_eq (by decide) hn,ya];cases decide ((t.drop a).take (i - a)∈kwL) <;> rfl
  ·simp only [ref02_token.l1,ge_len,uj,uM,grd,if_true,yT,yf,if_false,ref_keywords_eq,ya,cut_nat hai (yn _)];rw [ref_Has_eq (by decide) hn,ya];simp only [List.drop_length,runP,ut];cases decide ((t.drop a).take (t.length - a)∈kwL) <;> rfl
 ·rw [if_neg hlet];have hlp:letterP (t[a].toNat:Nat)=false:=by simpa using hlet
  simp only [hlp,yf,false_implies,false_and,iff_false,true_and];by_cases hdig:digitP ((t[a].toNat:Nat):Int)=true
  ·rw [if_pos hdig];have:=loopF_M (body:=ref02_token.l2 n t) (λs:Int=>t.length - s.toNat) (λs=>∃ i:Nat,s=i∧i≤t.length) (λs o=>∃ e:Nat,o=some (3,(e:Int))∧s.toNat≤e∧e≤t.length∧∀ h:s.toNat<t.length,digitP (t[s.toNat].toNat:Nat)=true→s.toNat<e) (λr s hI hr=>by
    obtain ⟨i,rfl,hi⟩:=hI;by_cases hlt:i<t.length
    ·simp only [ref02_token.l2,lt_len hlt,sidx_nat hlt,ref_digit_eq,yj,yC,grd,if_true,yh,yB,add64_1 (i:=i) (by omega),yv];split
     ·obtain ⟨e,e1,e2,e3,-⟩:=hr ((i+1:Nat):Int) ⟨_,rfl,by omega⟩ (by simp only [yv];omega);simp only [yv] at e2;exact ⟨e,e1,by omega,e3,λ_ _=>by omega⟩
     ·rename_i hno;exact ⟨i,rfl,yn _,hi,λ_ h=>absurd h hno⟩
    ·have:i=t.length:=by omega
     subst this;exact ⟨t.length,by simp [ref02_token.l2,grd],by simp,yn _,λh=>by simp at h⟩) n a ⟨a,rfl,Nat.le_of_lt ha⟩ (by simp;omega)
   obtain ⟨e,e1,-,e3,e4⟩:=this;exact ⟨3,e,e1,e4 ha hdig,e3,by decide⟩
  ·rw [if_neg hdig];obtain ⟨v,hv,hv2⟩:=ref_symbol_ok (n:=n) (t:=t) (a:=a) (Nat.le_of_lt ha) hl hn;rw [hv,ya];by_cases hv0:0<v
   ·rw [if_pos (by simpa using hv0),add64_nat (by omega)];exact ⟨4,a+v,rfl,by omega,hv2,by decide⟩
   ·have hv0:v=0:=by omega
    subst hv0;rw [if_neg (by simp)];have:=loopF_M (body:=ref02_token.l3 n t) (λs:Int=>t.length - s.toNat) (λs=>∃ i:Nat,s=i∧i≤t.length) (λs o=>∃ e:Nat,o=some (5,(e:Int))∧s.toNat≤e∧e≤t.length∧(s=a→a<e)) (λr s hI hr=>by
     obtain ⟨i,rfl,hi⟩:=hI;by_cases hlt:i<t.length
     ·obtain ⟨u,hu,-⟩:=ref_symbol_ok (n:=n) (t:=t) (a:=i) hi hl hn;simp only [ref02_token.l3,lt_len hlt,sidx_nat hlt,ref02_white,ref_letter_eq,ref_digit_eq,hu,yj,yC,grd,if_true,yh,yB,add64_1 (i:=i) (by omega),yv];split
      ·obtain ⟨e,e1,e2,e3,-⟩:=hr ((i+1:Nat):Int) ⟨_,rfl,by omega⟩ (by simp only [yv];omega);simp only [yv] at e2;exact ⟨e,e1,by omega,e3,λh=>by omega⟩
      ·rename_i hno;refine ⟨i,rfl,yn _,hi,λh=>?_⟩;have hia:i=a:=by omega
       subst hia;exfalso;apply hno;rw [hv] at hu;simp only [yi,Int.natCast_inj] at hu;subst hu;simp only [blackP,yG,um,ug] at hb;simp only [yb,bne_iff_ne,ne_eq,yG,um,ug];simp only [yD] at hlet hdig;exact ⟨⟨⟨⟨by omega,by omega⟩,hlet⟩,hdig⟩,by simp⟩
     ·have:i=t.length:=by omega
      subst this;exact ⟨t.length,by simp [ref02_token.l3,grd],by simp,yn _,λh=>by omega⟩) n a ⟨a,rfl,Nat.le_of_lt ha⟩ (by simp;omega)
    obtain ⟨e,e1,-,e3,e4⟩:=this;exact ⟨5,e,e1,e4 rfl,e3,by decide⟩
theorem app_some {α:Type} {b:Nat} {xs ys:List α} (h:(xs.length+ys.length)*b≤140737488355328):Go.Proofs.YtehefbidnkfciaaGreatDoor.app b xs ys=some (xs++ys):=by
 unfold Go.Proofs.YtehefbidnkfciaaGreatDoor.app;rw [if_pos h]
theorem ref_Scan_ok {n:Nat} {t:List UInt8} (hl:t.length<1000000) (hn:1000000≤n):∀ (m:Nat) (b:List Token) (a:Nat),a≤t.length→b.length≤a→t.length - a<m→∃ r,r≠[]∧loopF (ref02_Scan.l1 n t) m (b,(a:Int))=some (b++r,0)
 | 0,_,_,_,_,h=>by omega
 | m+1,b,a,ha,hb,h=>by
  obtain ⟨k,e,k1,k2,k3,-⟩:=ref_skip_ok (n:=n) ha hl hn;simp only [loopF,ref02_Scan.l1,e,ya];by_cases hlt:k<t.length
  ·obtain ⟨q,z,hz,z1,z2,-,-⟩:=ref_token_ok (n:=n) hlt (k3 hlt) hl hn;simp only [lt_len hlt,if_true,hz,ya];rw [app_some (by simp;omega),ya];obtain ⟨r,-,hr⟩:=ref_Scan_ok hl hn m (b++[(⟨q,(a:Int),(k:Int),(z:Int)⟩:Token)]) z z2 (by simp;omega) (by omega);rw [hr];exact ⟨_::r,by simp,by rw [yX];rfl⟩
  ·rw [ge_nat (by omega),if_neg (by simp),app_some (by simp;omega),ya];exact ⟨_,by simp,rfl⟩
theorem ref_Kind_ok {n:Nat} {w:List UInt8} (hl:w.length≤4096) (hn:1000000≤n):∃ k,ref02_Kind n w=some k∧(k=1↔wordP w=true∧w∉kwL):=by
 unfold ref02_Kind ref02_Scan;rw [if_neg (by simp;omega),loopF_1 (by omega)];obtain ⟨k,e,-,k2,k3,k4⟩:=ref_skip_ok (n:=n) (t:=w) (a:=0) (by omega) (by omega) hn;simp only [Int.natCast_zero] at e;simp only [ref02_Scan.l1,e,ya];by_cases hlt:k<w.length
 ·obtain ⟨q,z,hz,z1,z2,z3,z4⟩:=ref_token_ok (n:=n) hlt (k3 hlt) (by omega) hn;simp only [lt_len hlt,if_true,hz,ya,ud];rw [app_some (by simp),ya];obtain ⟨r,r0,hr⟩:=ref_Scan_ok (n:=n) (t:=w) (by omega) hn (n - 1) [(⟨q,0,(k:Int),(z:Int)⟩:Token)] z z2 (by simp;omega) (by omega);simp only [ud];rw [hr];have h0:idx ([(⟨q,0,(k:Int),(z:Int)⟩:Token)]++r) 0=some ⟨q,0,(k:Int),(z:Int)⟩:=by simp [idx]
  simp only [ya,h0,yj,yC,grd,if_true,yh];rw [wordP_cons w (by omega)];have hw0:k=0→z=w.length→(letterP (w[k].toNat:Nat)=true∧(w.drop k).take (z - k)∉kwL↔(letterP (w[0].toNat:Nat)&&decide (runP partP w=w.length))=true∧w∉kwL):=by
   intro e1 e2;subst e1;rw [e2];simp only [List.drop_zero,Nat.sub_zero,List.take_length,yb,yd];constructor
   ·rintro ⟨h1,h2⟩;have:=z3 h1;simp only [List.drop_zero] at this;exact ⟨⟨h1,by omega⟩,h2⟩
   ·rintro ⟨⟨h1,-⟩,h2⟩;exact ⟨h1,h2⟩
  by_cases hc:((((((0:Int) != 0)||((([(⟨q,0,(k:Int),(z:Int)⟩:Token)]++r).length:Int) != 2))||((k:Int) != 0))||((z:Int) != (w.length:Int))))=true
  ·rw [if_pos hc];refine ⟨0,rfl,?_⟩;constructor
   ·intro h;exact absurd h (by decide)
   ·rintro ⟨h1,h2⟩;exfalso;simp only [yb,yd] at h1;have hk0:k=0:=k4 (by omega) (letter_black h1.1);subst hk0;have hzw:=z3 h1.1;simp only [List.drop_zero] at hzw;have hzl:z=w.length:=by omega
    subst hzl;rw [loopF_1 (by omega)] at hr;obtain ⟨k',e',p1,p2,-,-⟩:=ref_skip_ok (n:=n) (t:=w) (a:=w.length) (yn _) (by omega) hn;have:k'=w.length:=by omega
    subst this;simp only [ref02_Scan.l1,e',ya,ge_len,yf,if_false] at hr;rw [app_some (by simp),ya] at hr;simp only [yi,yz,and_true,List.append_cancel_left_eq] at hr;subst hr;simp at hc
  ·rw [if_neg hc];refine ⟨q,rfl,?_⟩;simp only [yA,bne_iff_ne,ne_eq,not_or,Decidable.not_not] at hc;rw [z4];exact hw0 (by omega) (by omega)
 ·rw [ge_nat (by omega),if_neg (by simp),app_some (by simp),ya];simp only [ud,ya];refine ⟨0,by simp [grd,idx],?_⟩;constructor
  ·intro h;exact absurd h (by decide)
  ·rintro ⟨h1,-⟩;exfalso;cases w with
   | nil=>simp [wordP] at h1
   | cons x l=>
    simp only [wordP,yb] at h1;have:=k4 (by simp) (letter_black h1.1);simp at hlt;omega
theorem ref02_Name_eq {n} {w:List UInt8} (hl:w.length≤4096) (hn:1000000≤n):ref02_Name n w=some (nameP w):=by
 unfold ref02_Name nameP;obtain ⟨k,hk,hiff⟩:=ref_Kind_ok (n:=n) hl hn;rw [hk,ya];have h16:decide ((w.length:Int)≤16)=decide (w.length≤16):=decide_eq_decide.2 (by omega);rw [h16,Bool.and_comm];congr 2;rw [Bool.eq_iff_iff];simp only [beq_iff_eq,hiff,yb,yG,yJ]
theorem SetIs.getS {m:GMap (List UInt8) Bool} {l:List (List UInt8)} (h:SetIs m l) (k:List UInt8):(m.get? k).getD false=decide (k∈l):=(h.get k).trans (decide_eq_decide.2 Iff.rfl)
def distP:List (List UInt8)→List (List UInt8)→Bool
 | _,[]=>true
 | seen,s::l=>nameP s&&!decide (s∈seen)&&distP (seen++[s]) l
theorem model_distinct_eq {n} {l:List (List UInt8)} (hF:Fuel n) (hl:l.length<1000000):model_distinct n l=some (distP [] l):=by
 have hn:=hF.big;have:=loopF_I (body:=model_distinct.l1 n l) (len:=l.length) (st:=λm i=>(m,(i:Int))) (g:=λi _=>some (distP (l.take i) (l.drop i))) (λi m=>SetIs m (l.take i)) (λrec i m hi hm hr=>?_) (λrec m _=>?_) n 0 (GMap.empty) (yr _) (by omega) (by simpa using SetIs.empty)
 ·simpa [model_distinct] using this
 ·simp only [model_distinct.l1,lt_len hi,if_true,idx_nat hi,ya,lexer_Name_eq hF,hm.getS,add64_1 (i:=i) (by omega)];rw [hr _ (by rw [yw hi];exact hm.put _),drop_cons hi,distP,yw hi];cases nameP l[i] <;> cases hd:decide (l[i]∈l.take i) <;> simp
 ·simp [model_distinct.l1,distP]
theorem ref13_distinct_eq {n} {l:List (List UInt8)} (hn:1000000≤n) (hl:l.length<1000000) (hw:∀ w∈l,w.length≤4096):ref13_distinct n l=some (distP [] l):=by
 have:=loopF_g (body:=ref13_distinct.l1 n l) (len:=l.length) (st:=λi=>(i:Int)) (g:=λi=>some (distP (l.take i) (l.drop i))) (λrec i hi hr=>?_) (λrec=>?_) n 0 (yr _) (by omega)
 ·simpa [ref13_distinct] using this
 ·have hc:=cut_nat (l:=l) (a:=0) (b:=i) (by omega) (Nat.le_of_lt hi)
  simp only [Int.natCast_zero,List.drop_zero,Nat.sub_zero] at hc;simp only [ref13_distinct.l1,lt_len hi,if_true,idx_nat hi,ya,ref02_Name_eq (hw _ (yk hi)) hn,hc,yj,yh,yC,grd,ref_Has_eq (show (l.take i).length<1000000 by simp;omega) hn,add64_1 (i:=i) (by omega),hr];rw [drop_cons hi,distP,yw hi];cases nameP l[i] <;> cases hd:decide (l[i]∈l.take i) <;> simp
 ·simp [ref13_distinct.l1,distP]
theorem IndexB_eq {n l v} (hl:l.length<1000000) (hn:1000000≤n):slices_Index_Lbool_bool n l v=some (ixP (λx=>v==x) l 0):=by
 have:=loopF_g (body:=slices_Index_Lbool_bool.l1 n l v) (len:=l.length) (st:=λi=>(i:Int)) (g:=λi=>some (ixP (λx=>v==x) (l.drop i) i)) (λrec i hi hr=>?_) (λrec=>?_) n 0 (yr _) (by omega)
 ·simpa [slices_Index_Lbool_bool] using this
 ·simp only [slices_Index_Lbool_bool.l1,lt_len hi,if_true,idx_nat hi,ya,add64_1 (i:=i) (by omega),hr];rw [drop_cons hi];simp only [ixP];split <;> rfl
 ·simp [slices_Index_Lbool_bool.l1,ixP]
theorem cells_all_eq {n l} (hl:l.length<1000000) (hn:1000000≤n):cells_all n l=some (l.all id):=by
 unfold cells_all slices_Contains_Lbool_bool;rw [IndexB_eq hl hn];simp only [ya,ixP_any,yi];rw [← any_not];congr 2;funext x;cases x <;> rfl
def b6:Nat→Int→Int
 | 0,A=>A
 | k+1,A=>b6 k (A*6)
theorem b6_le:∀ (k:Nat) (A:Int),1≤A→A≤b6 k A
 | 0,_,_=>Int.le_refl _
 | k+1,A,h=>Int.le_trans (by omega) (b6_le k (A*6) (by omega))
theorem mul_small {a b A:Int} (h1:1≤a) (h2:a≤A) (h3:1≤b) (h4:b≤6):1≤a*b∧a*b≤A*6:=by
 have e1:1*1≤a*b:=Int.mul_le_mul h1 h3 (by omega) (by omega);have e2:a*b≤A*6:=Int.mul_le_mul h2 h4 (by omega) (by omega);omega
theorem widthP_b6 (sizes:List Int) (hs:sizes.all sizeOK=true):∀ (cols:List Int) (s A:Int),cols.all (colOK sizes)=true→1≤s→s≤A→b6 cols.length A≤1000000→1≤widthP sizes cols s∧widthP sizes cols s≤b6 cols.length A
 | [],s,A,_,h1,h2,_=>by simpa [widthP,b6] using ⟨h1,h2⟩
 | c::l,s,A,hc,h1,h2,h3=>by
  simp only [uq,yb] at hc;have hcol:=hc.1;simp only [colOK,yb,yd] at hcol;obtain ⟨k,rfl⟩:=yM hcol.1;have hk:k<sizes.length:=by omega
  have hz:=yp.1 hs _ (yk hk);simp only [sizeOK,yb,yd] at hz;have hg:sizes.getD (k:Int).toNat 0=sizes[k]:=by simp [List.getD,hk]
  have hm:=mul_small h1 h2 hz.1 hz.2;simp only [yP,b6] at h3 ⊢;have hb:=b6_le l.length (A*6) (by omega);simp only [widthP,hg];unfold mul64;rw [w64_id (by omega) (by omega)];exact widthP_b6 sizes hs l _ _ hc.2 hm.1 hm.2 h3
theorem widthP_bound {sizes cols} (hs:sizes.all sizeOK=true) (hc:cols.all (colOK sizes)=true) (h3:cols.length≤3):1≤widthP sizes cols 1∧widthP sizes cols 1≤216:=by
 have h:b6 cols.length 1≤216:=by
  match cols,h3 with
  | [],_=>decide
  | [_],_=>simp [b6]
  | [_,_],_=>simp [b6]
  | [_,_,_],_=>simp [b6]
  | _::_::_::_::_,h=>simp at h
 have:=widthP_b6 sizes hs cols 1 1 hc (by decide) (by decide) (by omega);omega
def strictP (k:Int):Bool:=k==0||k==1
def rangedP (t:Table):Bool:=if (t.kind==1||t.kind==4||t.kind==5)=true then (decide (t.range.lo≤t.range.hi)&&decide (-9999≤t.range.lo))&&decide (t.range.hi≤9999) else decide (t.range=(⟨0,1⟩:Range))
def tabP (sizes:List Int) (t:Table):Bool:=nameP t.name&&(decide (0≤t.kind)&&decide (t.kind≤5))&&(decide (t.columns.length≤3)&&t.columns.all (colOK sizes))&&rangedP t
def layP (sizes:List Int):List (List UInt8)→Int→Int→List Table→Bool
 | _,a,b,[]=>decide (a≤128)&&decide (b≤64)
 | seen,a,b,t::l=>(tabP sizes t&&!decide (t.name∈seen))&&(if strictP t.kind=true then t.first==a&&layP sizes (seen++[t.name]) (add64 a (widthP sizes t.columns 1)) b l else t.first==b&&layP sizes (seen++[t.name]) a (add64 b (widthP sizes t.columns 1)) l)
def layoutP (sizes:List Int) (tables:List Table):Bool:=decide (sizes.length≤4)&&decide (tables.length≤12)&&sizes.all sizeOK&&layP sizes [] 0 0 tables
theorem cells_ranged_eq {n t}:cells_ranged n t=some (rangedP t):=by
 unfold cells_ranged rangedP jn;by_cases h1:t.kind=1
 ·simp [h1]
 ·by_cases h4:t.kind=4
  ·simp [h4]
  ·by_cases h5:t.kind=5
   ·simp [h5]
   ·simp [h1,h4,h5]
theorem cells_Valid_eq {n sizes tables} (hF:Fuel n) (hs:sizes.length≤1000) (ht:tables.length≤1000) (hc:∀ t∈tables,t.columns.length≤1000):cells_Valid n sizes tables=some (layoutP sizes tables):=by
 have hn:=hF.big;unfold cells_Valid layoutP;rw [cells_sized_eq (by omega) (by omega),ya,cells_all_eq (by simp) (by omega),ya];simp only [uq,List.all_nil,id,ux];have e1:decide ((sizes.length:Int)≤4)=decide (sizes.length≤4):=decide_eq_decide.2 (by omega);have e2:decide ((tables.length:Int)≤12)=decide (tables.length≤12):=decide_eq_decide.2 (by omega);rw [e1,e2,← Bool.and_assoc];by_cases h:(decide (sizes.length≤4)&&decide (tables.length≤12)&&sizes.all sizeOK)=true
 ·rw [h,if_neg (by simp),yB];have:=loopF_I (body:=cells_Valid.l1 n sizes tables) (len:=tables.length) (st:=λ(s:GMap (List UInt8) Bool×Int×Int) i=>(s.1,s.2.1,s.2.2,(i:Int))) (g:=λi s=>some (layP sizes ((tables.take i).map (·.name)) s.2.1 s.2.2 (tables.drop i))) (λi s=>SetIs s.1 ((tables.take i).map (·.name))) (λrec i s hi hm hr=>?_) (λrec s _=>?_) n 0 (GMap.empty,0,0) (yr _) (by omega) (by simpa using SetIs.empty)
  ·simpa using this
  ·obtain ⟨m,a,b⟩:=s;simp only [] at hm;have hmem:=yk hi;have hcols:=hc _ hmem;simp only [cells_Valid.l1,jn,lt_len hi,if_true,idx_nat hi,ya,lexer_Name_eq hF,hm.getS,cells_within,cells_columned_eq (show tables[i].columns.length<4611686018427387904 by omega) (show tables[i].columns.length<n by omega),cells_ranged_eq,cells_isStrict,add64_1 (i:=i) (by omega)];rw [cells_all_eq (by simp) (by omega),ya];simp only [uq,List.all_nil,id,ux];have hput:=hm.put tables[i].name;have htk:((tables.take (i+1)).map (·.name))=(tables.take i).map (·.name)++[tables[i].name]:=by rw [yw hi,uf];rfl
   rw [← htk] at hput;have hT:(nameP tables[i].name&&(!decide (tables[i].name∈(tables.take i).map (·.name))&&(decide (0≤tables[i].kind)&&decide (tables[i].kind≤5)&&(decide (tables[i].columns.length≤3)&&tables[i].columns.all (colOK sizes)&&rangedP tables[i]))))=(tabP sizes tables[i]&&!decide (tables[i].name∈(tables.take i).map (·.name))):=by
    unfold tabP;cases nameP tables[i].name <;> cases decide (tables[i].name∈(tables.take i).map (·.name)) <;> simp [Bool.and_assoc]
   rw [hT,drop_cons hi,layP];by_cases hv:(tabP sizes tables[i]&&!decide (tables[i].name∈(tables.take i).map (·.name)))=true
   ·rw [hv,if_neg (by simp),yB];have hcol:tables[i].columns.all (colOK sizes)=true:=by
     simp only [tabP,yb] at hv;exact hv.1.1.2.2
    simp only [cells_width_eq hcol (show tables[i].columns.length<4611686018427387904 by omega) (show tables[i].columns.length<n by omega),ya,← htk];unfold strictP;by_cases hk:(tables[i].kind==0||tables[i].kind==1)=true
    ·rw [if_pos hk,if_pos hk];by_cases hf:tables[i].first=a
     ·rw [if_neg (by simp [hf]),hr (m.put tables[i].name true,add64 a (widthP sizes tables[i].columns 1),b) hput];simp [hf]
     ·rw [if_pos (by simp [hf])];simp [hf]
    ·rw [if_neg hk,if_neg hk];by_cases hf:tables[i].first=b
     ·rw [if_neg (by simp [hf]),hr (m.put tables[i].name true,a,add64 b (widthP sizes tables[i].columns 1)) hput];simp [hf]
     ·rw [if_pos (by simp [hf])];simp [hf]
   ·simp only [yD] at hv;rw [hv,if_pos (by simp),yT]
  ·simp [cells_Valid.l1,layP]
 ·simp only [yD] at h;rw [h,if_pos (by simp),yT]
theorem ref09_Valid_eq {n sizes tables} (hn:1000000≤n) (hs:sizes.length≤1000) (ht:tables.length≤1000) (hc:∀ t∈tables,t.columns.length≤1000∧t.name.length≤4096):ref09_Valid n sizes tables=some (layoutP sizes tables):=by
 unfold ref09_Valid layoutP;have e1:decide (4<(sizes.length:Int)) = !decide (sizes.length≤4):=by rw [← decide_not];exact decide_eq_decide.2 (by omega)
 have e2:decide (12<(tables.length:Int)) = !decide (tables.length≤12):=by rw [← decide_not];exact decide_eq_decide.2 (by omega)
 rw [ref09_sound_eq (by omega) (by omega),e1,e2];simp only [yj,yC,grd,if_true,yh];by_cases h:(decide (sizes.length≤4)&&decide (tables.length≤12)&&sizes.all sizeOK)=true
 ·rw [h,yB];simp only [yb] at h;obtain ⟨⟨h1,h2⟩,h3⟩:=h;rw [h1,h2,h3,if_neg (by simp)];have:=loopF_I (body:=ref09_Valid.l1 n sizes tables) (len:=tables.length) (st:=λ(s:Int×Int) i=>(s.1,s.2,(i:Int))) (g:=λi s=>some (layP sizes ((tables.take i).map (·.name)) s.1 s.2 (tables.drop i))) (λ_ _=>True) (λrec i s hi _ hr=>?_) (λrec s _=>?_) n 0 (0,0) (yr _) (by omega) trivial
  ·simpa using this
  ·obtain ⟨a,b⟩:=s;have hmem:=yk hi;obtain ⟨hcols,hname⟩:=hc _ hmem;simp only [ref09_Valid.l1,jn,lt_len hi,if_true,idx_nat hi,ya];generalize hK:(λ(v:Int×Int)=>rec (v.1,v.2,add64 (i:Int) 1))=K;have inner:=loopF_g (body:=ref09_Valid.l2 n sizes tables a b i K tables[i]) (len:=i) (st:=λk=>(k:Int)) (g:=λk=>if decide (tables[i].name∈((tables.take i).drop k).map (·.name))=true then some false else ref09_Valid.l2 n sizes tables a b i K tables[i] (λ_=>none) (i:Int)) (λrec' k hk hr'=>?_) (λrec'=>?_) n 0 (yr _) (by omega)
   ·rw [show ((0:Nat):Int)=0 from rfl] at inner;rw [inner,drop_cons hi,layP,List.drop_zero];have htk:((tables.take (i+1)).map (·.name))=(tables.take i).map (·.name)++[tables[i].name]:=by rw [yw hi,uf];rfl
    cases hseen:decide (tables[i].name∈(tables.take i).map (·.name)) with
    | true=>simp
    | false=>
     simp only [yf,if_false,uj,ux];have hnum:=ref09_number_eq (n:=n) (sizes:=sizes) (cols:=tables[i].columns) (by omega) (by omega) (by omega) (by omega);rw [h3,ux] at hnum;simp only [ref09_Valid.l2,ge_nat (yn i),yf,if_false,hnum,ya,ref02_Name_eq hname hn,ref09_strict];unfold tabP;by_cases hcol:(decide (tables[i].columns.length≤3)&&tables[i].columns.all (colOK sizes))=true
     ·simp only [hcol,if_true,ux];have hcol':=hcol;simp only [yb,yd] at hcol';have hw:=widthP_bound h3 hcol'.2 hcol'.1;have hw0:(widthP sizes tables[i].columns 1==0)=false:=by simp;omega
      rw [hw0,Bool.or_false];by_cases hnk:(nameP tables[i].name&&(decide (0≤tables[i].kind)&&decide (tables[i].kind≤5)))=true
      ·rw [hnk,yB];simp only [yb,yd] at hnk;rw [if_neg (by simp [hnk.1];omega)];by_cases hrg:rangedP tables[i]=true
       ·rw [hrg,yB];unfold rangedP at hrg;rw [if_neg (by
         split at hrg
         ·simp only [yb,yd] at hrg;simp only [yA,yd];omega
         ·simp only [yd] at hrg;rw [hrg];decide),if_neg (by
         split at hrg
         ·rename_i hk;simp only [yA,beq_iff_eq] at hk;simp only [yb,yA,beq_iff_eq];omega
         ·simp only [yd] at hrg;rw [hrg];simp)]
        unfold strictP;by_cases hk:(tables[i].kind==0||tables[i].kind==1)=true
        ·rw [if_pos hk,if_pos hk];by_cases hf:tables[i].first=a
         ·rw [if_neg (by simp [hf]),← hK];simp only [add64_1 (i:=i) (by omega)];have:=hr (add64 a (widthP sizes tables[i].columns 1),b) trivial;simp only [] at this;rw [this,htk];simp [hf]
         ·rw [if_pos (by simp [hf])];simp [hf]
        ·rw [if_neg hk,if_neg hk];by_cases hf:tables[i].first=b
         ·rw [if_neg (by simp [hf]),← hK];simp only [add64_1 (i:=i) (by omega)];have:=hr (a,add64 b (widthP sizes tables[i].columns 1)) trivial;simp only [] at this;rw [this,htk];simp [hf]
         ·rw [if_pos (by simp [hf])];simp [hf]
       ·simp only [yD] at hrg;rw [hrg,yT];unfold rangedP at hrg;split at hrg
        ·rename_i hk;rw [if_pos (by
          simp only [uc,yJ] at hrg;simp only [yA,yd];omega)]
        ·rename_i hk;simp only [yA,beq_iff_eq,not_or] at hk;have hr01:¬ (tables[i].range.lo=0∧tables[i].range.hi=1):=by
          rintro ⟨q1,q2⟩;simp only [yJ] at hrg;apply hrg;cases hrr:tables[i].range;rw [hrr] at q1 q2;simp only [] at q1 q2;rw [q1,q2]
         split
         ·rfl
         ·rw [if_pos (by
           simp only [yb,yA,beq_iff_eq,bne_iff_ne,ne_eq];omega)]
      ·simp only [yD] at hnk;rw [hnk,yT,yT];rw [if_pos (by
        simp only [uc,yJ] at hnk;simp only [yA,yG,yd];rcases hnk with h | h | h
        ·exact .inl (.inl h)
        ·exact .inl (.inr (by omega))
        ·exact .inr (by omega))]
     ·simp only [yD] at hcol;simp only [hcol,Bool.and_false,yT,yf,if_false];rw [if_pos (by simp)]
   ·have hk':k<tables.length:=by omega
    simp only [ref09_Valid.l2,lt_nat hk,if_true,idx_nat hk',ya,add64_1 (i:=k) (by omega),hr'];have hk2:k<(tables.take i).length:=by simp;omega
    rw [drop_cons hk2];simp only [List.getElem_take,yN,yE];by_cases hnm:tables[k].name=tables[i].name
    ·rw [if_pos (by simpa using hnm),if_pos (by simp [hnm])]
    ·rw [if_neg (by simpa using hnm)];have hnm':¬ tables[i].name=tables[k].name:=λe=>hnm e.symm
     simp only [hnm',false_or]
   ·rw [if_neg (by simp)];simp only [ref09_Valid.l2,ge_nat (yn i),yf,if_false]
  ·simp [ref09_Valid.l1,layP]
 ·simp only [yD] at h;rw [h,yT];rw [if_pos (by
   simp only [uc] at h;simp only [yA,yG];rcases h with (h | h) | h
   ·exact .inl (.inl h)
   ·exact .inr h
   ·exact .inl (.inr h))]
def rangesP (sizes:List Int) (s:Bool):List Table→List Range
 | []=>[]
 | t::l=>if (strictP t.kind==s)=true then List.replicate (widthP sizes t.columns 1).toNat t.range++rangesP sizes s l else rangesP sizes s l
theorem layP_tab {sizes}:∀ {l:List Table} {seen:List (List UInt8)} {a b:Int},layP sizes seen a b l=true→∀ t∈l,tabP sizes t=true
 | [],_,_,_,_,_,ht=>by simp at ht
 | x::l,seen,a,b,h,t,ht=>by
  simp only [layP,yb] at h;simp only [yE] at ht;rcases ht with rfl | ht
  ·exact h.1.1
  ·have h2:=h.2;split at h2
   ·simp only [yb] at h2;exact layP_tab h2.2 t ht
   ·simp only [yb] at h2;exact layP_tab h2.2 t ht
theorem layoutP_tab {sizes tables} (h:layoutP sizes tables=true):sizes.length≤4∧tables.length≤12∧sizes.all sizeOK=true∧∀ t∈tables,nameP t.name=true∧(0≤t.kind∧t.kind≤5)∧t.columns.length≤3∧t.columns.all (colOK sizes)=true∧1≤widthP sizes t.columns 1∧widthP sizes t.columns 1≤216:=by
 simp only [layoutP,yb,yd] at h;obtain ⟨⟨⟨h1,h2⟩,h3⟩,h4⟩:=h;refine ⟨h1,h2,h3,λt ht=>?_⟩;have:=layP_tab h4 t ht;simp only [tabP,yb,yd] at this;obtain ⟨⟨⟨p1,p2⟩,p3⟩,-⟩:=this;exact ⟨p1,p2,p3.1,p3.2,widthP_bound h3 p3.2 p3.1⟩
theorem rangesP_len {sizes s}:∀ {l:List Table},(∀ t∈l,1≤widthP sizes t.columns 1∧widthP sizes t.columns 1≤216)→(rangesP sizes s l).length≤l.length*216
 | [],_=>by simp [rangesP]
 | t::l,h=>by
  have ih:=rangesP_len (s:=s) (l:=l) λx hx=>h x (by simp [hx])
  have ht:=h t (by simp);simp only [rangesP,yP];split
  ·simp only [yR,y0];omega
  ·omega
theorem Mul_eq {n}:∀ w:Fin 217,math_bits_Mul n 1 ((w.1:Nat):Int)=some (0,((w.1:Nat):Int)):=by
 intro w;unfold math_bits_Mul math_bits_Mul64;revert w;decide +kernel
theorem wk_small:∀ w:Fin 217,wk .u64 ((w.1:Nat):Int)=((w.1:Nat):Int)∧wk .i64 ((w.1:Nat):Int)=((w.1:Nat):Int):=by decide +kernel
theorem Repeat_eq {n x w} (h1:1≤w) (h2:w≤216) (hn:1000000≤n):slices_Repeat_LRange_api_Range n [x] w=some (List.replicate w.toNat x):=by
 obtain ⟨W,rfl⟩:=yM (show 0≤w by omega);have hW:W<217:=by omega
 have hwk:=wk_small ⟨W,hW⟩;simp only [] at hwk;have h1k:wk .u64 (([x]:List Range).length:Int)=1:=(wk_small ⟨1,by decide⟩).1;unfold slices_Repeat_LRange_api_Range;rw [if_neg (by simp),h1k,hwk.1,Mul_eq ⟨W,hW⟩];simp only [ya];rw [if_neg (by simp;omega),hwk.2];have hm:mkl 16 (W:Int) (⟨0,0⟩:Range)=some (List.replicate W ⟨0,0⟩):=by
  unfold mkl;rw [if_pos (by omega)];simp
 rw [hm,ya];simp only [y0,uD,Nat.sub_zero,yv];rw [show min W 1=1 by omega];refine loopF_M (body:=slices_Repeat_LRange_api_Range.l1 n) (λs=>W - s.2.toNat) (λs=>∃ k:Nat,s.2=(k:Int)∧1≤k∧k≤W∧s.1.length=W∧s.1.take k=List.replicate k x) (λ_ o=>o=some (List.replicate W x)) (λrec s hI hr=>?_) n _ ⟨1,rfl,by omega,by omega,?_,?_⟩ (by simp;omega)
 ·obtain ⟨b,kk⟩:=s;obtain ⟨k,rfl,k1,k2,hb,hk⟩:=hI;simp only [] at hb hk;simp only [slices_Repeat_LRange_api_Range.l1];by_cases hlt:k<W
  ·have hcE:cut b (k:Int) (W:Int)=some (b.drop k):=by rw [← hb];exact cut_end (by omega)
   have hc:=cut_nat (l:=b) (a:=0) (b:=k) (by omega) (by omega)
   simp only [Int.natCast_zero] at hc;simp only [hb,lt_nat hlt,if_true,hcE,hc,ya,yv,List.drop_zero,Nat.sub_zero,hk,y0];rw [add64_nat (by omega)];refine hr (_,((k+min (W - k) k:Nat):Int)) ⟨k+min (W - k) k,rfl,by omega,by omega,?_,?_⟩ (by simp only [yv];omega)
   ·simp only [];rw [copyTo_length (by omega) (by omega),hb]
   ·simp only [copyTo,hk,List.take_replicate,y0];rw [show min (W - k) k=min (W - k) k from rfl,← yX,List.replicate_append_replicate];rw [List.take_append_of_le_length (by simp)];simp
  ·have:k=W:=by omega
   subst this;have hd:decide ((k:Int)<(b.length:Int))=false:=by rw [hb];exact ge_nat (yn _)
   simp only [hd,yf,if_false];rw [← hk,List.take_of_length_le (by omega)]
 ·rw [copyTo_length (by omega) (by simp)];simp
 ·simp [copyTo,List.take_append];rw [List.take_of_length_le (l:=[x]) (by simp;omega),show min W 1=1 by omega];simp
theorem rangesP_append (sizes s):∀ (l m:List Table),rangesP sizes s (l++m)=rangesP sizes s l++rangesP sizes s m
 | [],_=>rfl
 | t::l,m=>by
  simp only [ub,rangesP,rangesP_append sizes s l m];split <;> simp
theorem rangesP_snoc {sizes:List Int} {s:Bool} {l:List Table} {i:Nat} (hi:i<l.length):rangesP sizes s (l.take (i+1))=if (strictP l[i].kind==s)=true then rangesP sizes s (l.take i)++List.replicate (widthP sizes l[i].columns 1).toNat l[i].range else rangesP sizes s (l.take i):=by
 rw [yw hi,rangesP_append];simp only [rangesP];split <;> simp
theorem cells_Ranges_eq {n:Nat} {sizes:List Int} {tables:List Table} {s:Bool} (hF:Fuel n) (hs:sizes.length≤1000) (ht:tables.length≤1000) (hc:∀ t∈tables,t.columns.length≤1000) :
  cells_Ranges n sizes tables s=some (if layoutP sizes tables=true then rangesP sizes s tables else []):=by
 have hn:=hF.big;unfold cells_Ranges;rw [cells_Valid_eq hF hs ht hc,ya];cases hL:layoutP sizes tables with
 | false=>simp
 | true=>
  obtain ⟨l1,l2,l3,l4⟩:=layoutP_tab hL;have:=loopF_g (body:=cells_Ranges.l1 n sizes tables s) (len:=tables.length) (st:=λi=>(rangesP sizes s (tables.take i),(i:Int))) (g:=λ_=>some (rangesP sizes s tables)) (λrec i hi hr=>?_) (λrec=>?_) n 0 (yr _) (by omega)
  ·simpa [rangesP] using this
  ·obtain ⟨-,-,c1,c2,c3,c4⟩:=l4 _ (yk hi);have hlen:=rangesP_len (sizes:=sizes) (s:=s) (l:=tables.take i) λx hx=>(l4 x (List.mem_of_mem_take hx)).2.2.2.2
   simp only [yO] at hlen;rw [rangesP_snoc hi] at hr;simp only [cells_Ranges.l1,jn,lt_len hi,if_true,idx_nat hi,ya,cells_isStrict,add64_1 (i:=i) (by omega)];unfold strictP at hr;by_cases hk:((tables[i].kind==0||tables[i].kind==1)==s)=true
   ·rw [if_pos hk] at hr ⊢;rw [cells_width_eq c2 (by omega) (by omega),ya,Repeat_eq c3 c4 (by omega),ya,app_some (by simp only [y0];omega),ya,hr]
   ·rw [if_neg hk] at hr ⊢;rw [hr]
  ·simp [cells_Ranges.l1]
theorem ref09_Ranges_eq {n:Nat} {sizes:List Int} {tables:List Table} {s:Bool} (hn:1000000≤n) (hs:sizes.length≤1000) (ht:tables.length≤1000) (hc:∀ t∈tables,t.columns.length≤1000∧t.name.length≤4096) :
  ref09_Ranges n sizes tables s=some (if layoutP sizes tables=true then rangesP sizes s tables else []):=by
 unfold ref09_Ranges;rw [ref09_Valid_eq hn hs ht hc,ya];cases hL:layoutP sizes tables with
 | false=>simp
 | true=>
  obtain ⟨l1,l2,l3,l4⟩:=layoutP_tab hL;have:=loopF_g (body:=ref09_Ranges.l1 n sizes tables s) (len:=tables.length) (st:=λi=>(rangesP sizes s (tables.take i),(i:Int))) (g:=λ_=>some (rangesP sizes s tables)) (λrec i hi hr=>?_) (λrec=>?_) n 0 (yr _) (by omega)
  ·simpa [rangesP] using this
  ·obtain ⟨-,-,c1,c2,c3,c4⟩:=l4 _ (yk hi);have hlen:=rangesP_len (sizes:=sizes) (s:=s) (l:=tables.take i) λx hx=>(l4 x (List.mem_of_mem_take hx)).2.2.2.2
   simp only [yO] at hlen;rw [rangesP_snoc hi] at hr;simp only [ref09_Ranges.l1,lt_len hi,if_true];obtain ⟨W,hW⟩:=yM (show 0≤widthP sizes tables[i].columns 1 by omega);have hnum:=ref09_number_eq (n:=n) (sizes:=sizes) (cols:=tables[i].columns) (by omega) (by omega) (by omega) (by omega);simp only [l3,c2,c1,decide_true,ux,if_true] at hnum;have inner:=loopF_g (body:=ref09_Ranges.l2 n sizes tables s i rec) (len:=if (strictP tables[i].kind==s)=true then W else 0) (st:=λk=>(rangesP sizes s (tables.take i)++List.replicate k tables[i].range,(k:Int))) (g:=λ_=>some (rangesP sizes s tables)) (λrec' k hk hr'=>?_) (λrec'=>?_) n 0 (yr _) (by split <;> omega)
   ·simpa using inner
   ·split at hk
    ·rename_i hst;simp only [strictP] at hst;simp only [ref09_Ranges.l2,idx_nat hi,ya,ref09_strict,hst,yj,yC,grd,if_true,yh,hnum,yB,hW,lt_nat hk,add64_1 (i:=k) (by omega)];rw [app_some (by simp only [yR,y0,uD];omega),ya,yX,← List.replicate_succ',hr']
    ·omega
   ·by_cases hst:((tables[i].kind==0||tables[i].kind==1)==s)=true
    ·have hst':(strictP tables[i].kind==s)=true:=hst;rw [if_pos hst'] at hr ⊢;simp only [ref09_Ranges.l2,idx_nat hi,ya,ref09_strict,hst,yj,yC,grd,if_true,yh,hnum,yB,hW,ge_nat (yn W),yf,if_false,add64_1 (i:=i) (by omega)];rw [hW] at hr;simpa using hr
    ·have hst':¬ (strictP tables[i].kind==s)=true:=hst;rw [if_neg hst'] at hr ⊢;simp only [yD] at hst;simp only [ref09_Ranges.l2,idx_nat hi,ya,ref09_strict,hst,uj,uM,grd,if_true,yT,yf,if_false,add64_1 (i:=i) (by omega)];simpa using hr
  ·simp [ref09_Ranges.l1]

structure Good (n:Nat) (m:Model):Prop where
 acts:∀ a∈m.actions,a.effect.delta.length<4611686018427387904∧a.effect.delta.length<n∧(∀ k,addP k a.effect.delta 0=addedP a.effect.delta k)∧∀ r∈a.effect.hold,r.terms.length<4611686018427387904∧r.terms.length<n
 cons:∀ c∈m.constraints,(c.kind=0∨c.kind=1)∧c.row.terms.length<4611686018427387904∧c.row.terms.length<n∧∃ K:Nat,mul64 c.size c.size=(K:Int)∧K<17592186044416∧K<n
theorem idx_mem {α:Type} {l:List α} {i:Int} {x:α} (h:idx l i=some x):x∈l:=by
 obtain ⟨n,rfl,hn,rfl⟩:=idxS h;exact yk hn
theorem idx_some {α:Type} {l:List α} {i:Int} (h0:0≤i) (h1:i<(l.length:Int)):∃ x,idx l i=some x:=by
 obtain ⟨n,rfl⟩:=yM h0;exact ⟨_,idx_nat (by omega)⟩
def allR (p:Nat→Bool) (i:Nat):Nat→Bool
 | 0=>true
 | k+1=>p i&&allR p (i+1) k
theorem allR_iff {p}:∀ {k i:Nat},allR p i k=true↔∀ j,i≤j→j<i+k→p j=true
 | 0,i=>by simp [allR];omega
 | k+1,i=>by
  simp only [allR,yb,allR_iff (k:=k) (i:=i+1)];constructor
  ·rintro ⟨h1,h2⟩ j hj hk;by_cases e:j=i
   ·rw [e];exact h1
   ·exact h2 j (by omega) (by omega)
  ·intro h;exact ⟨h i (yn _) (by omega),λj hj hk=>h j (by omega) (by omega)⟩
theorem allR_0 {p k}:allR p 0 k=true↔∀ j,j<k→p j=true:=by
 rw [allR_iff];simp
theorem loopF_all {S R:Type} {body:(S→Option R)→S→Option R} {len n:Nat} {st:Nat→S} (p:Nat→Bool) (F T:Option R)
  (hb:∀ rec i,i<len→body rec (st i)=if p i=true then rec (st (i+1)) else F) (he:∀ rec,body rec (st len)=T) (hn:len<n):loopF body n (st 0)=if allR p 0 len=true then T else F:=by
 have:=loopF_g (body:=body) (len:=len) (st:=st) (g:=λi=>if allR p i (len - i)=true then T else F) (λrec i hi hr=>?_) (λrec=>?_) n 0 (yr _) (by omega)
 ·simpa using this
 ·rw [hb rec i hi,show len - i=(len - (i+1))+1 by omega,allR,hr];cases p i <;> simp
 ·rw [he];simp [allR]
theorem IndexFunc_LTable_api_Table_eq {n l f p} (hf:∀ x∈l,f x=some (p x)) (hl:l.length<1000000) (hn:1000000≤n):slices_IndexFunc_LTable_api_Table n l f=some (ixP p l 0):=by
 have:=loopF_g (body:=slices_IndexFunc_LTable_api_Table.l1 n l f) (len:=l.length) (st:=λi=>(i:Int)) (g:=λi=>some (ixP p (l.drop i) i)) (λrec i hi hr=>?_) (λrec=>?_) n 0 (yr _) (by omega)
 ·simpa [slices_IndexFunc_LTable_api_Table] using this
 ·simp only [slices_IndexFunc_LTable_api_Table.l1,lt_len hi,if_true,idx_nat hi,ya,hf _ (yk hi),add64_1 (i:=i) (by omega),hr];rw [drop_cons hi];simp only [ixP];split <;> rfl
 ·simp [slices_IndexFunc_LTable_api_Table.l1,ixP]
theorem ContainsFunc_LTable_api_Table_eq {n l f p} (hf:∀ x∈l,f x=some (p x)) (hl:l.length<1000000) (hn:1000000≤n):slices_ContainsFunc_LTable_api_Table n l f=some (l.any p):=by
 unfold slices_ContainsFunc_LTable_api_Table;rw [IndexFunc_LTable_api_Table_eq hf hl hn,ya,ixP_any]
theorem IndexFunc_LRow_api_Row_eq {n l f p} (hf:∀ x∈l,f x=some (p x)) (hl:l.length<1000000) (hn:1000000≤n):slices_IndexFunc_LRow_api_Row n l f=some (ixP p l 0):=by
 have:=loopF_g (body:=slices_IndexFunc_LRow_api_Row.l1 n l f) (len:=l.length) (st:=λi=>(i:Int)) (g:=λi=>some (ixP p (l.drop i) i)) (λrec i hi hr=>?_) (λrec=>?_) n 0 (yr _) (by omega)
 ·simpa [slices_IndexFunc_LRow_api_Row] using this
 ·simp only [slices_IndexFunc_LRow_api_Row.l1,lt_len hi,if_true,idx_nat hi,ya,hf _ (yk hi),add64_1 (i:=i) (by omega),hr];rw [drop_cons hi];simp only [ixP];split <;> rfl
 ·simp [slices_IndexFunc_LRow_api_Row.l1,ixP]
theorem ContainsFunc_LRow_api_Row_eq {n l f p} (hf:∀ x∈l,f x=some (p x)) (hl:l.length<1000000) (hn:1000000≤n):slices_ContainsFunc_LRow_api_Row n l f=some (l.any p):=by
 unfold slices_ContainsFunc_LRow_api_Row;rw [IndexFunc_LRow_api_Row_eq hf hl hn,ya,ixP_any]
theorem IndexFunc_LHide_api_Hide_eq {n l f p} (hf:∀ x∈l,f x=some (p x)) (hl:l.length<1000000) (hn:1000000≤n):slices_IndexFunc_LHide_api_Hide n l f=some (ixP p l 0):=by
 have:=loopF_g (body:=slices_IndexFunc_LHide_api_Hide.l1 n l f) (len:=l.length) (st:=λi=>(i:Int)) (g:=λi=>some (ixP p (l.drop i) i)) (λrec i hi hr=>?_) (λrec=>?_) n 0 (yr _) (by omega)
 ·simpa [slices_IndexFunc_LHide_api_Hide] using this
 ·simp only [slices_IndexFunc_LHide_api_Hide.l1,lt_len hi,if_true,idx_nat hi,ya,hf _ (yk hi),add64_1 (i:=i) (by omega),hr];rw [drop_cons hi];simp only [ixP];split <;> rfl
 ·simp [slices_IndexFunc_LHide_api_Hide.l1,ixP]
theorem ContainsFunc_LHide_api_Hide_eq {n l f p} (hf:∀ x∈l,f x=some (p x)) (hl:l.length<1000000) (hn:1000000≤n):slices_ContainsFunc_LHide_api_Hide n l f=some (l.any p):=by
 unfold slices_ContainsFunc_LHide_api_Hide;rw [IndexFunc_LHide_api_Hide_eq hf hl hn,ya,ixP_any]
def aroundP (x most:Int):Bool:=decide (-most≤x)&&decide (x≤most)
theorem around3 {n x}:model_around n x 1000=some (aroundP x 1000):=rfl
theorem around9 {n x}:model_around n x 1000000000=some (aroundP x 1000000000):=rfl
theorem around4 {n x}:model_around n x 9999=some (aroundP x 9999):=rfl
theorem between3 {n x}:ref13_between n x 1000=some (aroundP x 1000):=rfl
theorem between9 {n x}:ref13_between n x 1000000000=some (aroundP x 1000000000):=rfl
theorem between4 {n x}:ref13_between n x 9999=some (aroundP x 9999):=rfl
def rowP (K:Nat):Int→List Term→Bool
 | _,[]=>true
 | last,t::l=>(decide (last<t.cell)&&decide (t.cell<(K:Int))&&(t.factor != 0)&&aroundP t.factor 1000)&&rowP K t.cell l
def rowOK (K:Nat) (r:Row):Bool:=rowP K (-1) r.terms&&aroundP r.bound 1000000000
theorem sub64_1 {i:Nat} (h0:0<i) (h:i<4611686018427387904):sub64 (i:Int) 1=((i - 1:Nat):Int):=by
 unfold sub64;rw [w64_id (by omega) (by omega)];omega
theorem model_row_eq {n} {j:Judge} {r} (hl:r.terms.length<1000000) (hn:1000000≤n):model_judge_row n j r=some (rowOK j.strict.length r):=by
 have:=loopF_I (body:=model_judge_row.l1 n j r) (len:=r.terms.length) (st:=λ(s:Int) i=>(s,(i:Int))) (g:=λi s=>some (rowP j.strict.length s (r.terms.drop i)&&aroundP r.bound 1000000000)) (λ_ _=>True) (λrec i s hi _ hr=>?_) (λrec s _=>?_) n 0 (-1) (yr _) (by omega) trivial
 ·simpa [model_judge_row,rowOK] using this
 ·simp only [model_judge_row.l1,lt_len hi,if_true,idx_nat hi,ya,around3,yj,yC,grd,yh,add64_1 (i:=i) (by omega),hr r.terms[i].cell trivial];rw [drop_cons hi,rowP];by_cases h:(decide (s<r.terms[i].cell)&&decide (r.terms[i].cell<(j.strict.length:Int))&&(r.terms[i].factor != 0)&&aroundP r.terms[i].factor 1000)=true
  ·rw [h,yB];simp only [yb,yd,bne_iff_ne] at h;rw [if_neg (by simp [h.2,h.1.2];omega)]
  ·rw [if_pos (by
    simp only [yb,yd,bne_iff_ne,ne_eq] at h;simp only [yA,yd,beq_iff_eq,yG,← yD];by_cases ha:aroundP r.terms[i].factor 1000=true
    ·left;simp only [ha,and_true] at h;omega
    ·exact .inr ha)]
   simp only [yD] at h;rw [h];rfl
 ·simp [model_judge_row.l1,around9,rowP]
theorem ref_row_eq {n K:Nat} {r} (hl:r.terms.length<1000000) (hn:1000000≤n):ref13_row n r (K:Int)=some (rowOK K r):=by
 have:=loopF_I (body:=ref13_row.l1 n r (K:Int)) (len:=r.terms.length) (st:=λ(_:Int) i=>(i:Int)) (g:=λi s=>some (rowP K s (r.terms.drop i)&&aroundP r.bound 1000000000)) (λi s=>-1≤s∧((i=0∧s = -1)∨(0<i∧∃ x,idx r.terms (sub64 (i:Int) 1)=some x∧x.cell=s))) (λrec i s hi hI hr=>?_) (λrec s _=>?_) n 0 (-1) (yr _) (by omega) ⟨by omega,.inl ⟨rfl,rfl⟩⟩
 ·simpa [ref13_row,rowOK] using this
 ·obtain ⟨h1,h2⟩:=hI;have hprev:(decide (0<(i:Int))&&decide (r.terms[i].cell≤((idx r.terms (sub64 (i:Int) 1)).getD default).cell))=(decide (0<i)&&decide (r.terms[i].cell≤s))∧(!(decide (0<(i:Int)))||(idx r.terms (sub64 (i:Int) 1)).isSome)=true:=by
   rcases h2 with ⟨h2,h3⟩ | ⟨h2,x,h3,h4⟩
   ·subst h2;simp
   ·rw [h3];simp [h4,h2]
  simp only [ref13_row.l1,lt_len hi,if_true,idx_nat hi,ya,between3,yj,yC,grd,yh,hprev.1,hprev.2,add64_1 (i:=i) (by omega)];rw [drop_cons hi,rowP];by_cases h:(decide (s<r.terms[i].cell)&&decide (r.terms[i].cell<(K:Int))&&(r.terms[i].factor != 0)&&aroundP r.terms[i].factor 1000)=true
  ·rw [h,yB];simp only [yb,yd,bne_iff_ne] at h;rw [if_neg (by simp [h.2,h.1.2];omega),hr r.terms[i].cell ⟨by omega,.inr ⟨by omega,r.terms[i],by
    rw [sub64_1 (by omega) (by omega),show i+1 - 1=i by omega,idx_nat hi],rfl⟩⟩]
  ·rw [if_pos (by
    simp only [yb,yd,bne_iff_ne,ne_eq] at h;simp only [yA,yb,yd,beq_iff_eq,yG,← yD];by_cases ha:aroundP r.terms[i].factor 1000=true
    ·left;simp only [ha,and_true] at h;rcases h2 with ⟨h2,h3⟩ | ⟨h2,-⟩ <;> omega
    ·exact .inr ha)]
   simp only [yD] at h;rw [h];rfl
 ·simp [ref13_row.l1,between9,rowP]
def graphT (sorts:List Int) (c:Constraint) (t:Table):Bool:=(t.kind==0&&((t.columns.length:Int)==2))&&(((idx t.columns 0).getD default==(idx t.columns 1).getD default)&&t.first==c.first&&((idx sorts ((idx t.columns 0).getD default)).getD default==c.size))
def graphP (m:Model) (c:Constraint):Bool:=(((c.row.terms.length:Int)==0)&&(c.row.bound==0))&&m.tables.any (graphT m.sorts c)
theorem graph_cols {sorts:List Int} {t:Table} (hc:t.columns.all (colOK sorts)=true) (h2:(t.columns.length:Int)=2):(∃ x,idx t.columns 0=some x)∧(∃ x,idx t.columns 1=some x)∧∃ x,idx sorts ((idx t.columns 0).getD default)=some x:=by
 obtain ⟨x,hx⟩:=idx_some (l:=t.columns) (i:=0) (by omega) (by omega);obtain ⟨y,hy⟩:=idx_some (l:=t.columns) (i:=1) (by omega) (by omega);refine ⟨⟨x,hx⟩,⟨y,hy⟩,?_⟩;rw [hx];exact ⟨_,idx_col (yp.1 hc x (idx_mem hx))⟩
theorem graph_1_eq {n} {j:Judge} {c t} (hc:t.columns.all (colOK j.model.sorts)=true):model_judge_graph_1 n t c j=some (graphT j.model.sorts c t):=by
 unfold model_judge_graph_1 graphT;by_cases h2:(t.kind==0&&((t.columns.length:Int)==2))=true
 ·have h2':=h2;simp only [yb,beq_iff_eq] at h2';obtain ⟨⟨x,hx⟩,⟨y,hy⟩,z,hz⟩:=graph_cols hc h2'.2;rw [hx] at hz;simp only [yh] at hz;simp [h2,hx,hy,hz,grd,Bool.and_assoc]
 ·simp only [yD] at h2;simp [h2,grd]
theorem model_graph_eq {n} {j:Judge} {c} (hc:∀ t∈j.model.tables,t.columns.all (colOK j.model.sorts)=true) (hl:j.model.tables.length<1000000) (hn:1000000≤n):model_judge_graph n j c=some (graphP j.model c):=by
 unfold model_judge_graph graphP;rw [ContainsFunc_LTable_api_Table_eq (p:=graphT j.model.sorts c) (λt ht=>graph_1_eq (hc t ht)) hl hn];simp [grd]
theorem ref_graph_eq {n m c} (hc:∀ t∈m.tables,t.columns.all (colOK m.sorts)=true) (hl:m.tables.length<1000000) (hn:1000000≤n):ref13_graph n m c=some (graphP m c):=by
 unfold ref13_graph graphP;by_cases h:(((c.row.terms.length:Int)==0)&&(c.row.bound==0))=true
 ·rw [h,yB];simp only [yb,beq_iff_eq] at h;rw [if_neg (by rw [h.1,h.2];decide)];have:=loopF_g (body:=ref13_graph.l1 n m c) (len:=m.tables.length) (st:=λi=>(i:Int)) (g:=λi=>some ((m.tables.drop i).any (graphT m.sorts c))) (λrec i hi hr=>?_) (λrec=>?_) n 0 (yr _) (by omega)
  ·simpa using this
  ·simp only [ref13_graph.l1,lt_len hi,if_true,idx_nat hi,ya,add64_1 (i:=i) (by omega),hr];rw [drop_cons hi,uQ];have hcol:=hc _ (yk hi);by_cases h2:(m.tables[i].kind==0&&((m.tables[i].columns.length:Int)==2))=true
   ·have h2':=h2;simp only [yb,beq_iff_eq] at h2';obtain ⟨⟨x,hx⟩,⟨y,hy⟩,z,hz⟩:=graph_cols hcol h2'.2;rw [hx] at hz;simp only [yh] at hz;simp only [h2,hx,hy,hz,grd,yj,yC,if_true,yh,yB,graphT];cases (x==y&&m.tables[i].first==c.first&&z==c.size) <;> simp
   ·simp only [yD] at h2;simp [h2,grd,graphT]
  ·simp [ref13_graph.l1]
 ·simp only [yD] at h;rw [h,yT,if_pos (by
   simp only [uc,ug] at h;simp only [yA,yd,bne_iff_ne];omega)]
theorem EqualTerm_eq {n a b} (hl:a.length<1000000) (hn:1000000≤n):slices_Equal_LTerm_api_Term n a b=some (decide (a=b)):=by
 unfold slices_Equal_LTerm_api_Term;by_cases h:a.length=b.length
 ·rw [if_neg (by simp [h])];have:=loopF_g (body:=slices_Equal_LTerm_api_Term.l1 n a b) (len:=a.length) (st:=λi=>(i:Int)) (g:=λi=>some (decide (a.drop i=b.drop i))) (λrec i hi hr=>?_) (λrec=>?_) n 0 (yr _) (by omega)
  ·simpa using this
  ·have hib:i<b.length:=by omega
   simp only [slices_Equal_LTerm_api_Term.l1,lt_len hi,if_true,idx_nat hi,idx_nat hib,ya,add64_1 (i:=i) (by omega),hr];rw [drop_cons hi,drop_cons hib];by_cases e:a[i]=b[i]
   ·simp only [e,decide_true,yS,yf,if_false,List.cons.injEq,true_and]
   ·simp only [e,decide_false,uj,if_true,List.cons.injEq,false_and]
  ·simp [slices_Equal_LTerm_api_Term.l1,h]
 ·rw [if_pos (by simp;omega)];have:¬ a=b:=λe=>h (by rw [e])
  simp [this]
theorem SameTerms_eq {n a b} (hl:a.length<1000000) (hn:1000000≤n):ref11_SameTerms n a b=some (decide (a=b)):=by
 unfold ref11_SameTerms;by_cases h:a.length=b.length
 ·rw [if_neg (by simp [h])];have:=loopF_g (body:=ref11_SameTerms.l1 n a b) (len:=a.length) (st:=λi=>(i:Int)) (g:=λi=>some (decide (a.drop i=b.drop i))) (λrec i hi hr=>?_) (λrec=>?_) n 0 (yr _) (by omega)
  ·simpa using this
  ·have hib:i<b.length:=by omega
   simp only [ref11_SameTerms.l1,lt_len hi,if_true,idx_nat hi,idx_nat hib,ya,add64_1 (i:=i) (by omega),hr];rw [drop_cons hi,drop_cons hib];by_cases e:a[i]=b[i]
   ·simp only [e,decide_true,yS,yf,if_false,List.cons.injEq,true_and]
   ·simp only [e,decide_false,uj,if_true,List.cons.injEq,false_and]
  ·simp [ref11_SameTerms.l1,h]
 ·rw [if_pos (by simp;omega)];have:¬ a=b:=λe=>h (by rw [e])
  simp [this]
theorem single_eq {n r c f b} (hl:r.terms.length<1000000) (hn:1000000≤n):model_single n r c f b=some (decide (r=(⟨[⟨c,f⟩],b⟩:Row))):=by
 unfold model_single;rw [EqualTerm_eq hl hn,ya];congr 1;rw [Bool.eq_iff_iff];cases r;simp
theorem SameRow_eq {n a b} (hl:a.terms.length<1000000) (hn:1000000≤n):ref11_SameRow n a b=some (decide (a=b)):=by
 unfold ref11_SameRow;rw [SameTerms_eq hl hn];simp only [yj,yC,grd,if_true,yh];congr 1;rw [Bool.eq_iff_iff];cases a;cases b;simp [and_comm]
structure SmallM (m:Model):Prop where
 sorts:m.sorts.length≤8
 tables:m.tables.length≤6
 tab:∀ t∈m.tables,t.name.length≤40∧t.columns.length≤12
 families:m.families.length≤20
 fam:∀ s∈m.families,s.length≤40
 constraints:m.constraints.length≤60
 con:∀ c∈m.constraints,c.row.terms.length≤20
 operations:m.operations.length≤8
 op:∀ o∈m.operations,o.name.length≤40∧o.sorts.length≤6
 actions:m.actions.length≤30
 act:∀ a∈m.actions,a.arguments.length≤6∧a.effect.delta.length≤20∧a.effect.hold.length≤10∧a.effect.updates.length≤40∧∀ r∈a.effect.hold,r.terms.length≤20
 hides:m.hides.length≤12
def boundRow (l:List Range) (i:Nat):Row:=⟨[⟨((i / 2:Nat):Int),if i % 2=0 then -1 else 1⟩],if i % 2=0 then neg64 ((idx l ((i / 2:Nat):Int)).getD default).lo else ((idx l ((i / 2:Nat):Int)).getD default).hi⟩
def famP (m:Model) (c:Constraint):Bool:=decide (0≤c.family)&&decide (c.family<(m.families.length:Int))
def plainP (K:Nat) (c:Constraint):Bool:=(((c.kind==0)&&(c.first==0))&&(c.size==0))&&rowOK K c.row
def acyP (m:Model) (c:Constraint):Bool:=c.kind==1&&graphP m c
def conP (m:Model) (l:List Range) (i:Nat) (c:Constraint):Bool:=famP m c&&(plainP l.length c||acyP m c)&&(!decide (i / 2<l.length)||(c.kind==0&&decide (c.row=boundRow l i)))
def consP (m:Model) (l:List Range):Bool:=decide (m.constraints.length≤512)&&decide (2*l.length≤m.constraints.length)&&allR (λi=>conP m l i ((idx m.constraints (i:Int)).getD default)) 0 m.constraints.length
theorem quo2 {i:Nat} (h:i<1000000):quo64 (i:Int) 2=some ((i / 2:Nat):Int):=by
 unfold quo64;rw [if_neg (by decide),Int.tdiv_eq_ediv_of_nonneg (by omega),w64_id (by omega) (by omega)];congr 1
theorem rem2 {i:Nat}:rem64 (i:Int) 2=some ((i % 2:Nat):Int):=by
 unfold rem64;rw [if_neg (by decide),Int.tmod_eq_emod_of_nonneg (by omega)];congr 1
theorem mul2 {i:Nat} (h:i<1000000):mul64 2 (i:Int)=((2*i:Nat):Int):=by
 unfold mul64;rw [w64_id (by omega) (by omega)];omega
theorem model_constraints_eq {n:Nat} {m} {l:List Range} (hS:SmallM m) (hc:∀ t∈m.tables,t.columns.all (colOK m.sorts)=true) (hK:l.length<100000) (hn:1000000≤n):model_judge_constraints n ⟨m,l⟩=some (consP m l):=by
 have hcl:=hS.constraints;have htl:=hS.tables;unfold model_judge_constraints consP;simp only [mul2 (show l.length<1000000 by omega)];by_cases h0:(decide (m.constraints.length≤512)&&decide (2*l.length≤m.constraints.length))=true
 ·rw [h0,yB];simp only [yb,yd] at h0;rw [if_neg (by simp;omega)];have:=loopF_all (body:=model_judge_constraints.l1 n ⟨m,l⟩) (len:=m.constraints.length) (n:=n) (st:=λi=>(i:Int)) (λi=>conP m l i ((idx m.constraints (i:Int)).getD default)) (some false) (some true) (λrec i hi=>?_) (λrec=>?_) (by omega)
  ·simp only [Int.natCast_zero] at this;rw [this];cases allR (λi=>conP m l i ((idx m.constraints (i:Int)).getD default)) 0 m.constraints.length <;> rfl
  ·have hterms:=hS.con _ (yk hi);simp only [model_judge_constraints.l1,jn,lt_len hi,if_true,idx_nat hi,ya,model_index,yh,model_row_eq (j:=⟨m,l⟩) (r:=m.constraints[i].row) (show m.constraints[i].row.terms.length<1000000 by omega) hn,model_graph_eq (j:=⟨m,l⟩) (c:=m.constraints[i]) hc (show m.tables.length<1000000 by omega) hn,yj,yC,grd,quo2 (show i<1000000 by omega),rem2,single_eq (r:=m.constraints[i].row) (show m.constraints[i].row.terms.length<1000000 by omega) hn,add64_1 (i:=i) (by omega)];have hfam:(decide (0≤m.constraints[i].family)&&decide (m.constraints[i].family<(m.families.length:Int)))=famP m m.constraints[i]:=rfl;rw [hfam];cases hf:famP m m.constraints[i] with
   | false=>simp [conP,hf]
   | true=>
    simp only [yS,yf,if_false];have hrest:∀ (X:Bool),X=(plainP l.length m.constraints[i]||acyP m m.constraints[i]) →
      (if X=true then (if decide (((i / 2:Nat):Int)<(l.length:Int))=true then (idx l ((i / 2:Nat):Int)).bind λx81=>(if (((i % 2:Nat):Int)==0)=true then (if (m.constraints[i].kind != 0||!decide (m.constraints[i].row=(⟨[⟨((i / 2:Nat):Int),-1⟩],neg64 x81.lo⟩:Row)))=true then some false else rec ((i+1:Nat):Int)) else (if (m.constraints[i].kind != 0||!decide (m.constraints[i].row=(⟨[⟨((i / 2:Nat):Int),1⟩],x81.hi⟩:Row)))=true then some false else rec ((i+1:Nat):Int))) else rec ((i+1:Nat):Int)) else some false)=if conP m l i m.constraints[i]=true then rec ((i+1:Nat):Int) else some false:=by
     intro X hX;unfold conP;rw [hf,← hX];cases X with
     | false=>simp
     | true=>
      simp only [if_true,yB];by_cases hlt:i / 2<l.length
      ·rw [if_pos (lt_nat hlt),idx_nat hlt,ya];simp only [hlt,decide_true,yS,y8,boundRow,idx_nat hlt,yh];by_cases hm:i % 2=0
       ·rw [if_pos (by simp [hm])];simp only [hm,if_true];cases hkk:(m.constraints[i].kind==0) <;> simp [bne,hkk]
       ·rw [if_neg (by simp;omega)];simp only [hm,if_false];cases hkk:(m.constraints[i].kind==0) <;> simp [bne,hkk]
      ·rw [if_neg (by rw [ge_nat (by omega)];simp)];simp [hlt]
    by_cases hk:m.constraints[i].kind=0
    ·rw [if_pos (by simp [hk])];have hX:(plainP l.length m.constraints[i]||acyP m m.constraints[i])=((m.constraints[i].first==0&&m.constraints[i].size==0)&&rowOK l.length m.constraints[i].row):=by
      simp [plainP,acyP,hk]
     rw [← hrest _ hX.symm];cases h1:(m.constraints[i].first==0) <;> cases h2:(m.constraints[i].size==0) <;> cases h3:rowOK l.length m.constraints[i].row <;> simp [bne,h1,h2]
    ·rw [if_neg (by simp [hk])];have hX:(plainP l.length m.constraints[i]||acyP m m.constraints[i])=(m.constraints[i].kind==1&&graphP m m.constraints[i]):=by
      simp [plainP,acyP,hk]
     rw [← hrest _ hX.symm];cases h1:(m.constraints[i].kind==1) <;> cases h3:graphP m m.constraints[i] <;> simp [bne,h1]
  ·simp [model_judge_constraints.l1]
 ·rw [if_pos (by
   simp only [yb,yd] at h0;simp only [yA,yd];omega)]
  simp only [yD] at h0;rw [h0,yT]
theorem consP_ref {m l} (h2:2*l.length≤m.constraints.length) :
  allR (λi=>conP m l i ((idx m.constraints (i:Int)).getD default)) 0 m.constraints.length=(allR (λi=>decide (((idx m.constraints ((2*i:Nat):Int)).getD default).row=boundRow l (2*i))&&decide (((idx m.constraints ((2*i+1:Nat):Int)).getD default).row=boundRow l (2*i+1))) 0 l.length
   && allR (λi=>famP m ((idx m.constraints (i:Int)).getD default)&&(plainP l.length ((idx m.constraints (i:Int)).getD default)||(decide (2*l.length≤i)&&acyP m ((idx m.constraints (i:Int)).getD default)))) 0 m.constraints.length):=by
 rw [Bool.eq_iff_iff,yb,allR_0,allR_0,allR_0];constructor
 ·intro h;refine ⟨λj hj=>?_,λi hi=>?_⟩
  ·have ha:=h (2*j) (by omega);have hb:=h (2*j+1) (by omega);simp only [conP,yb,yA,yG,yJ,yd] at ha hb ⊢;rcases ha.2 with e | e
   ·omega
   rcases hb.2 with f | f
   ·omega
   exact ⟨e.2,f.2⟩
  ·have ha:=h i hi;simp only [conP,yb,yA,yG,yJ,yd] at ha ⊢;refine ⟨ha.1.1,?_⟩;rcases ha.1.2 with e | e
   ·exact .inl e
   ·refine .inr ⟨?_,e⟩;rcases ha.2 with f | f
    ·omega
    ·simp only [acyP,yb,beq_iff_eq] at e;have:=f.1;simp only [beq_iff_eq] at this;omega
 ·rintro ⟨ha,hb⟩ i hi;have hb:=hb i hi;simp only [conP,yb,yA,yG,yJ,yd] at hb ⊢;refine ⟨⟨hb.1,hb.2.imp id (·.2)⟩,?_⟩;by_cases hlt:i / 2<l.length
  ·right;have ha:=ha (i / 2) hlt;simp only [yb,yd] at ha;rcases hb.2 with e | e
   ·refine ⟨?_,?_⟩
    ·simp only [plainP,yb] at e;exact e.1.1.1
    ·by_cases hm:i % 2=0
     ·have:=ha.1
      rwa [show 2*(i / 2)=i by omega] at this
     ·have:=ha.2
      rwa [show 2*(i / 2)+1=i by omega] at this
   ·omega
  ·exact .inl hlt
theorem ref13_constraints_eq {n:Nat} {m} (hS:SmallM m) (hL:layoutP m.sorts m.tables=true) (hn:1000000≤n):ref13_constraints n m=some (consP m (rangesP m.sorts true m.tables)):=by
 have hcl:=hS.constraints;have htl:=hS.tables;have hsl:=hS.sorts;obtain ⟨l1,l2,l3,l4⟩:=layoutP_tab hL;have hlen:=rangesP_len (sizes:=m.sorts) (s:=true) (l:=m.tables) λx hx=>(l4 x hx).2.2.2.2
 unfold ref13_constraints ref13_strict consP;rw [ref09_Ranges_eq hn (by omega) (by omega) (λt ht=>by have:=hS.tab t ht;omega),hL,if_pos rfl];generalize rangesP m.sorts true m.tables=l at hlen;simp only [ya,mul2 (show l.length<1000000 by omega)];by_cases h0:(decide (m.constraints.length≤512)&&decide (2*l.length≤m.constraints.length))=true
 ·rw [h0,yB];simp only [yb,yd] at h0;rw [if_neg (by simp;omega),consP_ref h0.2];have first:=loopF_all (body:=ref13_constraints.l1 n m l) (len:=l.length) (n:=n) (st:=λi=>(i:Int)) (λi=>decide (((idx m.constraints ((2*i:Nat):Int)).getD default).row=boundRow l (2*i))&&decide (((idx m.constraints ((2*i+1:Nat):Int)).getD default).row=boundRow l (2*i+1))) (some false) (loopF (ref13_constraints.l2 n m l) n 0) (λrec i hi=>?_) (λrec=>?_) (by omega)
  ·simp only [Int.natCast_zero] at first
   rw [first];have second:=loopF_all (body:=ref13_constraints.l2 n m l) (len:=m.constraints.length) (n:=n) (st:=λi=>(i:Int)) (λi=>famP m ((idx m.constraints (i:Int)).getD default)&&(plainP l.length ((idx m.constraints (i:Int)).getD default)||(decide (2*l.length≤i)&&acyP m ((idx m.constraints (i:Int)).getD default)))) (some false) (some true) (λrec i hi=>?_) (λrec=>?_) (by omega)
   ·simp only [Int.natCast_zero] at second;rw [second];cases allR (λi=>decide (((idx m.constraints ((2*i:Nat):Int)).getD default).row=boundRow l (2*i))&&decide (((idx m.constraints ((2*i+1:Nat):Int)).getD default).row=boundRow l (2*i+1))) 0 l.length <;> cases allR (λi=>famP m ((idx m.constraints (i:Int)).getD default)&&(plainP l.length ((idx m.constraints (i:Int)).getD default)||(decide (2*l.length≤i)&&acyP m ((idx m.constraints (i:Int)).getD default)))) 0 m.constraints.length <;> rfl
   ·have hterms:=hS.con _ (yk hi);have hd:decide (mul64 2 (l.length:Int)≤(i:Int))=decide (2*l.length≤i):=by rw [mul2 (by omega)];exact decide_eq_decide.2 (by omega)
    simp only [ref13_constraints.l2,lt_len hi,if_true,idx_nat hi,ya,yh,ref_row_eq (r:=m.constraints[i].row) (show m.constraints[i].row.terms.length<1000000 by omega) hn,ref_graph_eq (m:=m) (c:=m.constraints[i]) (λt ht=>(l4 t ht).2.2.2.1) (show m.tables.length<1000000 by omega) hn,yj,yC,grd,add64_1 (i:=i) (by omega),hd];have hfam:(decide (m.constraints[i].family<0)||decide ((m.families.length:Int)≤m.constraints[i].family)) = !famP m m.constraints[i]:=by
     unfold famP;rw [Bool.not_and,← decide_not,← decide_not];congr 1
     ·exact decide_eq_decide.2 (by omega)
     ·exact decide_eq_decide.2 (by omega)
    rw [hfam];cases famP m m.constraints[i] with
    | false=>simp
    | true=>
     have hp:((((m.constraints[i].kind==0)&&(m.constraints[i].first==0))&&(m.constraints[i].size==0))&&rowOK l.length m.constraints[i].row)=plainP l.length m.constraints[i]:=rfl;rw [hp];unfold acyP;cases plainP l.length m.constraints[i] <;> cases decide (2*l.length≤i) <;> cases (m.constraints[i].kind==1) <;> cases graphP m m.constraints[i] <;> simp
   ·simp [ref13_constraints.l2]
  ·have h2i:2*i<m.constraints.length:=by omega
   have h2j:2*i+1<m.constraints.length:=by omega
   have t1:=hS.con _ (yk h2i);have t2:=hS.con _ (yk h2j);have e1:boundRow l (2*i)=⟨[⟨(i:Int),-1⟩],neg64 l[i].lo⟩:=by
    unfold boundRow;rw [show 2*i / 2=i by omega,if_pos (by omega),if_pos (by omega),idx_nat hi];rfl
   have e2:boundRow l (2*i+1)=⟨[⟨(i:Int),1⟩],l[i].hi⟩:=by
    unfold boundRow;rw [show (2*i+1) / 2=i by omega,if_neg (by omega),if_neg (by omega),idx_nat hi];rfl
   have hadd:add64 ((2*i:Nat):Int) 1=((2*i+1:Nat):Int):=add64_1 (by omega);simp only [ref13_constraints.l1,lt_len hi,if_true,idx_nat hi,mul2 (show i<1000000 by omega),idx_nat h2i,hadd,idx_nat h2j,ya,yh,SameRow_eq (show m.constraints[2*i].row.terms.length<1000000 by omega) hn,SameRow_eq (show m.constraints[2*i+1].row.terms.length<1000000 by omega) hn,yj,yC,grd,add64_1 (i:=i) (by omega),e1,e2];cases decide (m.constraints[2*i].row=⟨[⟨(i:Int),-1⟩],neg64 l[i].lo⟩) <;> cases decide (m.constraints[2*i+1].row=⟨[⟨(i:Int),1⟩],l[i].hi⟩) <;> simp
  ·simp [ref13_constraints.l1]
 ·rw [if_pos (by
   simp only [yb,yd] at h0;simp only [yA,yd];omega)]
  simp only [yD] at h0;rw [h0,yT]
theorem loopF_lall {α S R:Type} {body:(S→Option R)→S→Option R} {l:List α} {n:Nat} {st:Nat→S} (p:α→Bool) (F T:Option R)
  (hb:∀ rec i (hi:i<l.length),body rec (st i)=if p l[i]=true then rec (st (i+1)) else F) (he:∀ rec,body rec (st l.length)=T) (hn:l.length<n):loopF body n (st 0)=if l.all p=true then T else F:=by
 have:=loopF_g (body:=body) (len:=l.length) (st:=st) (g:=λi=>if (l.drop i).all p=true then T else F) (λrec i hi hr=>?_) (λrec=>?_) n 0 (yr _) (by omega)
 ·simpa using this
 ·rw [hb rec i hi,drop_cons hi,uq,hr];cases p l[i] <;> simp
 ·rw [he];simp
def sizeAt (sizes:List Int) (c:Int):Int:=sizes.getD c.toNat 0
def digR (sizes:List Int):List Int→Int→List Int
 | [],_=>[]
 | c::l,k=>k.tmod (sizeAt sizes c)::digR sizes l (w64 (k.tdiv (sizeAt sizes c)))
def tupleP (sizes cols:List Int) (k:Int):List Int:=(digR sizes cols.reverse k).reverse
theorem sizeAt_ne {sizes:List Int} (hs:sizes.all sizeOK=true) {c:Int} (hc:colOK sizes c=true):1≤sizeAt sizes c∧sizeAt sizes c≤6:=by
 simp only [colOK,yb,yd] at hc;obtain ⟨k,rfl⟩:=yM hc.1;have hk:k<sizes.length:=by omega
 have hz:=yp.1 hs _ (yk hk);simp only [sizeOK,yb,yd] at hz;have hg:sizeAt sizes (k:Int)=sizes[k]:=by simp [sizeAt,List.getD,hk]
 rw [hg];exact hz
theorem sto_mid {r:Nat} {done:List Int} {x:Int}:sto (List.replicate (r+1) 0++done) (r:Int) x=some (List.replicate r 0++x::done):=by
 unfold sto;rw [if_pos (by simp;omega)];simp only [yv,yi];rw [List.replicate_succ',yX,List.set_append_right _ _ (by simp)];simp
theorem idx_mid {r:Nat} {done:List Int}:∃ x,idx (List.replicate (r+1) 0++done) (r:Int)=some x:=⟨_,idx_nat (by simp;omega)⟩
theorem take_rev {α:Type} {l:List α} {r:Nat} (h:r<l.length):(l.take (r+1)).reverse=l[r]::(l.take r).reverse:=by
 rw [yw h];simp
theorem cells_digits {n:Nat} {sizes:List Int} {t:Table} {i:Int} (hs:sizes.all sizeOK=true) (hc:t.columns.all (colOK sizes)=true) (hl:t.columns.length<1000000):∀ (m r:Nat) (done:List Int) (k:Int),r<m→r≤t.columns.length →
  loopF (cells_Tuple.l2 n sizes i t) m (List.replicate r 0++done,k,(r:Int) - 1)=some (i,(digR sizes (t.columns.take r).reverse k).reverse++done,true)
 | 0,_,_,_,h,_=>by omega
 | m+1,0,done,k,_,_=>by simp [loopF,cells_Tuple.l2,digR]
 | m+1,r+1,done,k,h,hr=>by
  have hrl:r<t.columns.length:=by omega
  have hcol:=yp.1 hc _ (yk hrl);have hsz:=sizeAt_ne hs hcol;have e:(((r+1:Nat):Int)) - 1=(r:Int):=by omega
  obtain ⟨x,hx⟩:=idx_mid (r:=r) (done:=done);have hrem:rem64 k (sizeAt sizes t.columns[r])=some (k.tmod (sizeAt sizes t.columns[r])):=by unfold rem64;rw [if_neg (by omega)]
  have hquo:quo64 k (sizeAt sizes t.columns[r])=some (w64 (k.tdiv (sizeAt sizes t.columns[r]))):=by unfold quo64;rw [if_neg (by omega)]
  have hcs:=idx_col hcol;have hsub:sub64 (r:Int) 1=(r:Int) - 1:=by unfold sub64;rw [w64_id (by omega) (by omega)]
  have hd:decide (0≤(r:Int))=true:=by simp
  unfold sizeAt at hrem hquo;simp only [loopF,cells_Tuple.l2,e,hd,if_true,idx_nat hrl,hcs,hrem,hquo,hx,sto_mid,ya,hsub];rw [cells_digits hs hc hl m r _ _ (by omega) (by omega),take_rev hrl];simp only [digR,sizeAt,List.reverse_cons,yX,List.singleton_append]
theorem ref_digits {n:Nat} {sizes cols:List Int} (hs:sizes.all sizeOK=true) (hc:cols.all (colOK sizes)=true) (hl:cols.length<1000000):∀ (m r:Nat) (done:List Int) (k:Int),r<m→r≤cols.length →
  loopF (ref09_nth.l1 n sizes cols) m (List.replicate r 0++done,k,(r:Int) - 1)=some ((digR sizes (cols.take r).reverse k).reverse++done)
 | 0,_,_,_,h,_=>by omega
 | m+1,0,done,k,_,_=>by simp [loopF,ref09_nth.l1,digR]
 | m+1,r+1,done,k,h,hr=>by
  have hrl:r<cols.length:=by omega
  have hcol:=yp.1 hc _ (yk hrl);have hsz:=sizeAt_ne hs hcol;have e:(((r+1:Nat):Int)) - 1=(r:Int):=by omega
  obtain ⟨x,hx⟩:=idx_mid (r:=r) (done:=done);have hrem:rem64 k (sizeAt sizes cols[r])=some (k.tmod (sizeAt sizes cols[r])):=by unfold rem64;rw [if_neg (by omega)]
  have hquo:quo64 k (sizeAt sizes cols[r])=some (w64 (k.tdiv (sizeAt sizes cols[r]))):=by unfold quo64;rw [if_neg (by omega)]
  have hcs:=idx_col hcol;have hsub:sub64 (r:Int) 1=(r:Int) - 1:=by unfold sub64;rw [w64_id (by omega) (by omega)]
  have hd:decide (0≤(r:Int))=true:=by simp
  unfold sizeAt at hrem hquo;simp only [loopF,ref09_nth.l1,e,hd,if_true,idx_nat hrl,hcs,hrem,hquo,hx,sto_mid,ya,hsub];rw [ref_digits hs hc hl m r _ _ (by omega) (by omega),take_rev hrl];simp only [digR,sizeAt,List.reverse_cons,yX,List.singleton_append]
theorem mkl_0 {b k:Nat} (h:k*b≤140737488355328):mkl b (k:Int) (0:Int)=some (List.replicate k 0):=by
 have e:((k*b:Nat):Int)=(k:Int)*(b:Int):=uh k b;unfold mkl;rw [if_pos ⟨by omega,by omega⟩];simp
theorem sub64_len {k:Nat} (h:k<1000000):sub64 (k:Int) 1=(k:Int) - 1:=by
 unfold sub64;rw [w64_id (by omega) (by omega)]
theorem ref09_nth_eq {n:Nat} {sizes cols:List Int} {k:Int} (hs:sizes.all sizeOK=true) (hc:cols.all (colOK sizes)=true) (hl:cols.length≤1000) (hn:1000000≤n):ref09_nth n sizes cols k=some (tupleP sizes cols k):=by
 unfold ref09_nth;rw [mkl_0 (by omega),ya,sub64_len (by omega)];have:=ref_digits (n:=n) hs hc (by omega) n cols.length [] k (by omega) (yn _);simpa [tupleP] using this
def hitP (sizes:List Int) (s:Bool) (cell:Int) (t:Table):Bool:=(strictP t.kind==s)&&(decide (0≤sub64 cell t.first)&&decide (sub64 cell t.first<widthP sizes t.columns 1))
def resT (sizes:List Int) (s:Bool) (cell:Int):List Table→Nat→Int×List Int×Bool
 | [],_=>(0,[],false)
 | t::l,i=>if hitP sizes s cell t=true then ((i:Int),tupleP sizes t.columns (sub64 cell t.first),true) else resT sizes s cell l (i+1)
def cellP (sizes:List Int) (tables:List Table) (s:Bool) (cell:Int):Int×List Int×Bool:=if (layoutP sizes tables&&decide (0≤cell))=true then resT sizes s cell tables 0 else (0,[],false)
theorem cells_Tuple_eq {n:Nat} {sizes:List Int} {tables:List Table} {s:Bool} {cell:Int} (hF:Fuel n) (hs:sizes.length≤1000) (ht:tables.length≤1000) (hc:∀ t∈tables,t.columns.length≤1000):cells_Tuple n sizes tables s cell=some (cellP sizes tables s cell):=by
 have hn:=hF.big;unfold cells_Tuple cellP;rw [cells_Valid_eq hF hs ht hc,ya];cases hL:layoutP sizes tables with
 | false=>simp
 | true=>
  obtain ⟨l1,l2,l3,l4⟩:=layoutP_tab hL;by_cases h0:0≤cell
  ·rw [if_neg (by simp;omega),if_pos (by simp [h0])];have:=loopF_g (body:=cells_Tuple.l1 n sizes tables s cell) (len:=tables.length) (st:=λi=>(i:Int)) (g:=λi=>some (resT sizes s cell (tables.drop i) i)) (λrec i hi hr=>?_) (λrec=>?_) n 0 (yr _) (by omega)
   ·simpa using this
   ·obtain ⟨-,-,c1,c2,c3,c4⟩:=l4 _ (yk hi);simp only [cells_Tuple.l1,lt_len hi,if_true,idx_nat hi,ya,cells_isStrict,cells_width_eq c2 (show tables[i].columns.length<4611686018427387904 by omega) (show tables[i].columns.length<n by omega),yj,yC,grd,yh,add64_1 (i:=i) (by omega),hr,mkl_0 (b:=8) (k:=tables[i].columns.length) (by omega),y0,sub64_len (show tables[i].columns.length<1000000 by omega)];have hdig:=cells_digits (n:=n) (i:=(i:Int)) l3 c2 (by omega) n tables[i].columns.length [] (sub64 cell tables[i].first) (by omega) (yn _);simp only [uv,List.take_length] at hdig;rw [hdig,drop_cons hi,resT];have hh:(((tables[i].kind==0||tables[i].kind==1) != s||decide (sub64 cell tables[i].first<0))||decide (widthP sizes tables[i].columns 1≤sub64 cell tables[i].first)) = !hitP sizes s cell tables[i]:=by
     unfold hitP strictP;rw [Bool.not_and,Bool.not_and,← decide_not,← decide_not,Bool.or_assoc];congr 1;congr 1
     ·exact decide_eq_decide.2 (by omega)
     ·exact decide_eq_decide.2 (by omega)
    rw [hh];cases hitP sizes s cell tables[i] <;> simp [tupleP]
   ·simp [cells_Tuple.l1,resT]
  ·rw [if_pos (by simp;omega),if_neg (by simp;omega)]
theorem ref09_Tuple_eq {n:Nat} {sizes:List Int} {tables:List Table} {s:Bool} {cell:Int} (hn:1000000≤n) (hs:sizes.length≤1000) (ht:tables.length≤1000) (hc:∀ t∈tables,t.columns.length≤1000∧t.name.length≤4096):ref09_Tuple n sizes tables s cell=some (cellP sizes tables s cell):=by
 unfold ref09_Tuple cellP;rw [ref09_Valid_eq hn hs ht hc,ya];cases hL:layoutP sizes tables with
 | false=>simp
 | true=>
  obtain ⟨l1,l2,l3,l4⟩:=layoutP_tab hL;rw [if_neg (by simp)];have:=loopF_g (body:=ref09_Tuple.l1 n sizes tables s cell) (len:=tables.length) (st:=λi=>(i:Int)) (g:=λi=>some (if decide (0≤cell)=true then resT sizes s cell (tables.drop i) i else (0,[],false))) (λrec i hi hr=>?_) (λrec=>?_) n 0 (yr _) (by omega)
  ·simpa using this
  ·obtain ⟨-,-,c1,c2,c3,c4⟩:=l4 _ (yk hi);have hnum:=ref09_number_eq (n:=n) (sizes:=sizes) (cols:=tables[i].columns) (by omega) (by omega) (by omega) (by omega);simp only [l3,c2,c1,decide_true,ux,if_true] at hnum;simp only [ref09_Tuple.l1,lt_len hi,if_true,idx_nat hi,ya,ref09_strict,hnum,yj,yC,grd,yh,add64_1 (i:=i) (by omega),hr,ref09_nth_eq l3 c2 (show tables[i].columns.length≤1000 by omega) hn];rw [drop_cons hi,resT];unfold hitP strictP;cases decide (0≤cell) with
   | false=>simp
   | true=>
    simp only [if_true,ux];by_cases h1:((tables[i].kind==0||tables[i].kind==1)==s&&decide (0≤sub64 cell tables[i].first)&&decide (sub64 cell tables[i].first<widthP sizes tables[i].columns 1))=true
    ·rw [if_pos h1,if_pos (by rw [← Bool.and_assoc];exact h1)]
    ·rw [if_neg h1,if_neg (by rw [← Bool.and_assoc];exact h1)]
  ·simp [ref09_Tuple.l1,resT]
theorem resT_lt {sizes:List Int} {s:Bool} {cell:Int}:∀ (l:List Table) (i:Nat),(resT sizes s cell l i).2.2=true→∃ k:Nat,(resT sizes s cell l i).1=(k:Int)∧i≤k∧k<i+l.length
 | [],_,h=>by simp [resT] at h
 | t::l,i,h=>by
  rw [resT] at h ⊢;split at h
  ·rename_i hh;rw [if_pos hh];exact ⟨i,rfl,yn _,by simp⟩
  ·rename_i hh;rw [if_neg hh];obtain ⟨k,e,k1,k2⟩:=resT_lt l (i+1) h;exact ⟨k,e,by omega,by simp only [yP];omega⟩
theorem cellP_idx {sizes:List Int} {tables:List Table} {s:Bool} {cell:Int} (h:(cellP sizes tables s cell).2.2=true):∃ t,idx tables (cellP sizes tables s cell).1=some t:=by
 unfold cellP at h ⊢;split at h
 ·rename_i hh;rw [if_pos hh];obtain ⟨k,e,-,k2⟩:=resT_lt tables 0 h;rw [e];exact ⟨_,idx_nat (by omega)⟩
 ·simp at h
theorem cellP_neg {sizes:List Int} {tables:List Table} {s:Bool} {cell:Int} (h:cell<0):(cellP sizes tables s cell).2.2=false:=by
 unfold cellP;rw [if_neg (by simp;omega)]
def updT (t:Table) (u:Update):Bool:=if (t.kind==2||t.kind==3)=true then ((u.kind==0)||(u.kind==1))&&(u.value==0) else ((u.kind==2)&&decide (t.range.lo≤u.value))&&decide (u.value≤t.range.hi)
def updP (m:Model) (u:Update):Bool:=(cellP m.sorts m.tables false u.cell).2.2&&updT ((idx m.tables (cellP m.sorts m.tables false u.cell).1).getD default) u
def updsP (m:Model):Int→List Update→Bool
 | _,[]=>true
 | last,u::l=>(decide (last<u.cell)&&updP m u)&&updsP m u.cell l
theorem model_update_eq {n:Nat} {m:Model} {l:List Range} {u:Update} (hF:Fuel n) (hS:SmallM m):model_judge_update n ⟨m,l⟩ u=some (updP m u):=by
 unfold model_judge_update updP;have hs:=hS.sorts;have ht:=hS.tables;simp only [];rw [cells_Tuple_eq hF (by omega) (by omega) (λt h=>by have:=hS.tab t h;omega),ya];cases hok:(cellP m.sorts m.tables false u.cell).2.2 with
 | false=>simp
 | true=>
  obtain ⟨t,ht⟩:=cellP_idx hok;simp only [ht,yS,yf,if_false,ya,yh,yB,jn,updT];by_cases h2:t.kind=2
  ·simp [h2]
  ·by_cases h3:t.kind=3
   ·simp [h3]
   ·simp [h2,h3]
def opP (m:Model) (o:Operation):Bool:=decide (o.sorts.length≤3)&&o.sorts.all λs=>decide (-1≤s)&&decide (s<(m.sorts.length:Int))
def opsP (m:Model):Bool:=m.operations.all (opP m)&&(decide (m.operations.length≤8)&&distP [] (m.operations.map (·.name)))
theorem map_take_snoc {α β:Type} {f:α→β} {l:List α} {i:Nat} (hi:i<l.length):(l.take i).map f++[f l[i]]=(l.take (i+1)).map f:=by
 rw [yw hi,uf];rfl
theorem model_operations_eq {n:Nat} {m:Model} {l:List Range} (hF:Fuel n) (hS:SmallM m):model_judge_operations n ⟨m,l⟩=some (opsP m):=by
 have hn:=hF.big;have hol:=hS.operations;unfold model_judge_operations opsP;have:=loopF_lall (body:=model_judge_operations.l1 n ⟨m,l⟩) (l:=m.operations) (n:=n) (st:=λi=>((m.operations.take i).map (·.name),(i:Int))) (opP m) (some false) (some (decide (m.operations.length≤8)&&distP [] (m.operations.map (·.name)))) (λrec i hi=>?_) (λrec=>?_) (by omega)
 ·simp only [List.take_zero,List.map_nil,Int.natCast_zero] at this;rw [this];cases m.operations.all (opP m) <;> rfl
 ·have hop:=hS.op _ (yk hi);simp only [model_judge_operations.l1,lt_len hi,if_true,idx_nat hi,ya];rw [app_some (by simp;omega),ya,ContainsFunc_Lint_eq (p:=λs=>!(decide (-1≤s)&&decide (s<(m.sorts.length:Int)))) (λx _=>by
   simp only [model_judge_operations_1,yi,Bool.not_and,← decide_not];congr 1
   ·exact decide_eq_decide.2 (by omega)
   ·exact decide_eq_decide.2 (by omega)) (by omega) (by omega)]
  simp only [yj,yC,grd,if_true,yh,add64_1 (i:=i) (by omega),map_take_snoc hi];have h3:decide (3<(m.operations[i].sorts.length:Int)) = !decide (m.operations[i].sorts.length≤3):=by rw [← decide_not];exact decide_eq_decide.2 (by omega)
  rw [h3,← Bool.not_not (m.operations[i].sorts.any _),any_not,← Bool.not_and];unfold opP;cases (decide (m.operations[i].sorts.length≤3)&&m.operations[i].sorts.all λs=>decide (-1≤s)&&decide (s<(m.sorts.length:Int))) <;> rfl
 ·simp only [model_judge_operations.l1,ge_len,yf,if_false,List.take_length];rw [model_distinct_eq hF (by simp;omega)];simp only [yj,yC,grd,if_true,yh,yL,yi];congr 1;exact decide_eq_decide.2 (by omega)
def deltaP (K:Nat):Int→List Change→Bool
 | _,[]=>true
 | last,d::l=>(decide (last<d.cell)&&decide (d.cell<(K:Int))&&(d.add != 0)&&aroundP d.add 1000000000)&&deltaP K d.cell l
def effP (m:Model) (K:Nat) (x:Effect):Bool:=deltaP K (-1) x.delta&&(updsP m (-1) x.updates&&(decide (x.hold.length≤8)&&decide (x.updates.length≤32)&&x.hold.all (rowOK K)))
theorem model_effect_eq {n m l x} (hF:Fuel n) (hS:SmallM m) (h1:x.delta.length≤1000) (h2:x.updates.length≤1000) (h3:x.hold.length≤1000) (h4:∀ r∈x.hold,r.terms.length≤1000):model_judge_effect n ⟨m,l⟩ x=some (effP m l.length x):=by
 have hn:=hF.big;have T:loopF (model_judge_effect.l2 n ⟨m,l⟩ x) n (-1,0)=some (updsP m (-1) x.updates&&(decide (x.hold.length≤8)&&decide (x.updates.length≤32)&&x.hold.all (rowOK l.length))):=by
  have:=loopF_I (body:=model_judge_effect.l2 n ⟨m,l⟩ x) (len:=x.updates.length) (st:=λ(s:Int) i=>(s,(i:Int))) (g:=λi s=>some (updsP m s (x.updates.drop i)&&(decide (x.hold.length≤8)&&decide (x.updates.length≤32)&&x.hold.all (rowOK l.length)))) (λ_ _=>True) (λrec i s hi _ hr=>?_) (λrec s _=>?_) n 0 (-1) (yr _) (by omega) trivial
  ·simpa using this
  ·simp only [model_judge_effect.l2,lt_len hi,if_true,idx_nat hi,ya,model_update_eq hF hS,yj,yC,grd,yh,add64_1 (i:=i) (by omega),hr x.updates[i].cell trivial];rw [drop_cons hi,updsP];by_cases hlt:s<x.updates[i].cell
   ·have hd:decide (x.updates[i].cell≤s)=false:=by simp;omega
    rw [hd];cases updP m x.updates[i] <;> simp [hlt]
   ·have hd:decide (x.updates[i].cell≤s)=true:=by simp;omega
    rw [hd];simp [hlt]
  ·have hc:slices_ContainsFunc_LRow_api_Row n x.hold (λq0=>model_judge_effect_1 n q0 ⟨m,l⟩)=some (x.hold.any λr=>!rowOK l.length r):=ContainsFunc_LRow_api_Row_eq (λr hr=>by
    unfold model_judge_effect_1;rw [model_row_eq (by have:=h4 r hr;omega) (by omega)];rfl) (by omega) (by omega)
   simp only [model_judge_effect.l2,ge_len,yf,if_false,hc,yj,yC,grd,if_true,yh,any_not,List.drop_length,updsP,yB,yi];congr 2
   ·exact decide_eq_decide.2 (by omega)
   ·exact decide_eq_decide.2 (by omega)
 have:=loopF_I (body:=model_judge_effect.l1 n ⟨m,l⟩ x) (len:=x.delta.length) (st:=λ(s:Int) i=>(s,(i:Int))) (g:=λi s=>some (deltaP l.length s (x.delta.drop i)&&(updsP m (-1) x.updates&&(decide (x.hold.length≤8)&&decide (x.updates.length≤32)&&x.hold.all (rowOK l.length))))) (λ_ _=>True) (λrec i s hi _ hr=>?_) (λrec s _=>?_) n 0 (-1) (yr _) (by omega) trivial
 ·simpa [model_judge_effect,effP] using this
 ·simp only [model_judge_effect.l1,lt_len hi,if_true,idx_nat hi,ya,around9,yj,yC,grd,yh,add64_1 (i:=i) (by omega),hr x.delta[i].cell trivial];rw [drop_cons hi,deltaP];by_cases h:(decide (s<x.delta[i].cell)&&decide (x.delta[i].cell<(l.length:Int))&&(x.delta[i].add != 0)&&aroundP x.delta[i].add 1000000000)=true
  ·rw [h,yB];simp only [yb,yd,bne_iff_ne] at h;rw [if_neg (by simp [h.2,h.1.2];omega)]
  ·rw [if_pos (by
    simp only [yb,yd,bne_iff_ne,ne_eq] at h;simp only [yA,yd,beq_iff_eq,yG,← yD];by_cases ha:aroundP x.delta[i].add 1000000000=true
    ·left;simp only [ha,and_true] at h;omega
    ·exact .inr ha)]
   simp only [yD] at h;rw [h];rfl
 ·simp only [model_judge_effect.l1,ge_len,yf,if_false,T,List.drop_length,deltaP,yB]
theorem ref_effect_eq {n m x} (hn:1000000≤n) (hS:SmallM m) (hL:layoutP m.sorts m.tables=true) (h1:x.delta.length≤1000) (h2:x.updates.length≤1000) (h3:x.hold.length≤1000) (h4:∀ r∈x.hold,r.terms.length≤1000):ref13_effect n m x=some (effP m (rangesP m.sorts true m.tables).length x):=by
 have htl:=hS.tables;have hsl:=hS.sorts;have hcs:∀ t∈m.tables,t.columns.length≤1000∧t.name.length≤4096:=λt ht=>by have:=hS.tab t ht;omega
 unfold ref13_effect ref13_strict;rw [ref09_Ranges_eq hn (by omega) (by omega) hcs,hL,if_pos rfl];generalize rangesP m.sorts true m.tables=l;simp only [ya];have T3:loopF (ref13_effect.l3 n m x) n 0=some (updsP m (-1) x.updates&&(decide (x.hold.length≤8)&&decide (x.updates.length≤32))):=by
  have:=loopF_I (body:=ref13_effect.l3 n m x) (len:=x.updates.length) (st:=λ(_:Int) i=>(i:Int)) (g:=λi s=>some (updsP m s (x.updates.drop i)&&(decide (x.hold.length≤8)&&decide (x.updates.length≤32)))) (λi s=>-1≤s∧((i=0∧s = -1)∨(0<i∧∃ y,idx x.updates (sub64 (i:Int) 1)=some y∧y.cell=s))) (λrec i s hi hI hr=>?_) (λrec s _=>?_) n 0 (-1) (yr _) (by omega) ⟨by omega,.inl ⟨rfl,rfl⟩⟩
  ·simpa using this
  ·obtain ⟨h1,h2⟩:=hI;have hprev:(decide (0<(i:Int))&&decide (x.updates[i].cell≤((idx x.updates (sub64 (i:Int) 1)).getD default).cell))=(decide (0<i)&&decide (x.updates[i].cell≤s))∧(!(decide (0<(i:Int)))||(idx x.updates (sub64 (i:Int) 1)).isSome)=true:=by
    rcases h2 with ⟨h2,h3⟩ | ⟨h2,y,h3,h4⟩
    ·subst h2;simp
    ·rw [h3];simp [h4,h2]
   have hnext:(-1≤x.updates[i].cell)→rec ((i+1:Nat):Int)=some (updsP m x.updates[i].cell (x.updates.drop (i+1))&&(decide (x.hold.length≤8)&&decide (x.updates.length≤32))):=λh=>hr x.updates[i].cell ⟨h,.inr ⟨by omega,x.updates[i],by
     rw [sub64_1 (by omega) (by omega),show i+1 - 1=i by omega,idx_nat hi],rfl⟩⟩
   simp only [ref13_effect.l3,lt_len hi,if_true,idx_nat hi,ya,ref09_Tuple_eq (cell:=x.updates[i].cell) (s:=false) hn (show m.sorts.length≤1000 by omega) (show m.tables.length≤1000 by omega) hcs,hprev.1,hprev.2,yC,grd,ref13_set,add64_1 (i:=i) (by omega)];rw [drop_cons hi,updsP];unfold updP;cases hok:(cellP m.sorts m.tables false x.updates[i].cell).2.2 with
   | false=>simp
   | true=>
    obtain ⟨t,ht⟩:=cellP_idx hok;have hge:0≤x.updates[i].cell:=by
     by_cases h:x.updates[i].cell<0
     ·rw [cellP_neg h] at hok;cases hok
     ·omega
    have hasc:(decide (0<i)&&decide (x.updates[i].cell≤s)) = !decide (s<x.updates[i].cell):=by
     rw [← decide_not,← Bool.decide_and];refine decide_eq_decide.2 ?_;rcases h2 with ⟨h2,h3⟩ | ⟨h2,-⟩ <;> omega
    rw [hasc,hnext (by omega)];simp only [ht,yS,y8,ya,yh,yB];cases decide (s<x.updates[i].cell) with
    | false=>simp
    | true=>
     simp only [yS,yf,if_false,yB];unfold updT;by_cases hset:(t.kind==2||t.kind==3)=true
     ·rw [hset];simp only [if_true,yB,yS,yT,yf,if_false];cases hk0:(x.updates[i].kind==0) <;> cases hk1:(x.updates[i].kind==1) <;> cases hv:(x.updates[i].value==0) <;> simp [bne,hk0,hk1,hv]
     ·simp only [yD] at hset;rw [hset];simp only [yT,yf,if_false,uj,yB];have e1:decide (x.updates[i].value<t.range.lo) = !decide (t.range.lo≤x.updates[i].value):=by rw [← decide_not];exact decide_eq_decide.2 (by omega)
      have e2:decide (t.range.hi<x.updates[i].value) = !decide (x.updates[i].value≤t.range.hi):=by rw [← decide_not];exact decide_eq_decide.2 (by omega)
      rw [e1,e2];cases hk0:(x.updates[i].kind==2) <;> cases decide (t.range.lo≤x.updates[i].value) <;> cases decide (x.updates[i].value≤t.range.hi) <;> simp [bne,hk0]
  ·simp only [ref13_effect.l3,ge_len,yf,if_false,List.drop_length,updsP,yB,yi];congr 1
   ·exact decide_eq_decide.2 (by omega)
   ·exact decide_eq_decide.2 (by omega)
 have T2:loopF (ref13_effect.l2 n m x l) n 0=if x.hold.all (rowOK l.length)=true then some (updsP m (-1) x.updates&&(decide (x.hold.length≤8)&&decide (x.updates.length≤32))) else some false:=by
  have:=loopF_lall (body:=ref13_effect.l2 n m x l) (l:=x.hold) (n:=n) (st:=λi=>(i:Int)) (rowOK l.length) (some false) (some (updsP m (-1) x.updates&&(decide (x.hold.length≤8)&&decide (x.updates.length≤32)))) (λrec i hi=>?_) (λrec=>?_) (by omega)
  ·simpa using this
  ·simp only [ref13_effect.l2,lt_len hi,if_true,idx_nat hi,ya,ref_row_eq (show x.hold[i].terms.length<1000000 by have:=h4 _ (yk hi);omega) hn,add64_1 (i:=i) (by omega)];cases rowOK l.length x.hold[i] <;> simp
  ·simp only [ref13_effect.l2,ge_len,yf,if_false,T3]
 have:=loopF_I (body:=ref13_effect.l1 n m x l) (len:=x.delta.length) (st:=λ(_:Int) i=>(i:Int)) (g:=λi s=>some (deltaP l.length s (x.delta.drop i)&&(updsP m (-1) x.updates&&(decide (x.hold.length≤8)&&decide (x.updates.length≤32)&&x.hold.all (rowOK l.length))))) (λi s=>-1≤s∧((i=0∧s = -1)∨(0<i∧∃ y,idx x.delta (sub64 (i:Int) 1)=some y∧y.cell=s))) (λrec i s hi hI hr=>?_) (λrec s _=>?_) n 0 (-1) (yr _) (by omega) ⟨by omega,.inl ⟨rfl,rfl⟩⟩
 ·simpa [effP] using this
 ·obtain ⟨h1,h2⟩:=hI;have hprev:(decide (0<(i:Int))&&decide (x.delta[i].cell≤((idx x.delta (sub64 (i:Int) 1)).getD default).cell))=(decide (0<i)&&decide (x.delta[i].cell≤s))∧(!(decide (0<(i:Int)))||(idx x.delta (sub64 (i:Int) 1)).isSome)=true:=by
   rcases h2 with ⟨h2,h3⟩ | ⟨h2,y,h3,h4⟩
   ·subst h2;simp
   ·rw [h3];simp [h4,h2]
  simp only [ref13_effect.l1,lt_len hi,if_true,idx_nat hi,ya,between9,yj,yC,grd,yh,hprev.1,hprev.2,add64_1 (i:=i) (by omega)];rw [drop_cons hi,deltaP];by_cases h:(decide (s<x.delta[i].cell)&&decide (x.delta[i].cell<(l.length:Int))&&(x.delta[i].add != 0)&&aroundP x.delta[i].add 1000000000)=true
  ·rw [h,yB];simp only [yb,yd,bne_iff_ne] at h;rw [if_neg (by simp [h.2,h.1.2];omega),hr x.delta[i].cell ⟨by omega,.inr ⟨by omega,x.delta[i],by
    rw [sub64_1 (by omega) (by omega),show i+1 - 1=i by omega,idx_nat hi],rfl⟩⟩]
  ·rw [if_pos (by
    simp only [yb,yd,bne_iff_ne,ne_eq] at h;simp only [yA,yb,yd,beq_iff_eq,yG,← yD];by_cases ha:aroundP x.delta[i].add 1000000000=true
    ·left;simp only [ha,and_true] at h;rcases h2 with ⟨h2,h3⟩ | ⟨h2,-⟩ <;> omega
    ·exact .inr ha)]
   simp only [yD] at h;rw [h];rfl
 ·simp only [ref13_effect.l1,ge_len,yf,if_false,T2,List.drop_length,deltaP,yB];cases x.hold.all (rowOK l.length) <;> simp
def cmpP:List Int→List Int→Int
 | [],[]=>0
 | [],_::_=>-1
 | _::_,[]=>1
 | x::l,y::k=>if x<y then -1 else if y<x then 1 else cmpP l k
def lessP:List Int→List Int→Bool
 | [],[]=>false
 | [],_::_=>true
 | _::_,[]=>false
 | x::l,y::k=>if x=y then lessP l k else decide (x<y)
theorem cmp_less:∀ a b:List Int,decide (0≤cmpP a b) = !lessP a b
 | [],[]=>rfl
 | [],_::_=>rfl
 | _::_,[]=>rfl
 | x::l,y::k=>by
  simp only [cmpP,lessP];by_cases h:x=y
  ·subst h;simp [cmp_less l k]
  ·by_cases h2:x<y
   ·simp [h,h2]
   ·have:y<x:=by omega
    simp [h,h2,this]
theorem Compare_eq {n a b} (hl:a.length<1000000) (hn:1000000≤n):slices_Compare_Lint_int n a b=some (cmpP a b):=by
 have:=loopF_g (body:=slices_Compare_Lint_int.l1 n a b) (len:=a.length) (st:=λi=>(i:Int)) (g:=λi=>some (cmpP (a.drop i) (b.drop i))) (λrec i hi hr=>?_) (λrec=>?_) n 0 (yr _) (by omega)
 ·simpa [slices_Compare_Lint_int] using this
 ·simp only [slices_Compare_Lint_int.l1,lt_len hi,if_true,idx_nat hi,ya,add64_1 (i:=i) (by omega),hr];rw [drop_cons hi];by_cases hb:i<b.length
  ·rw [if_neg (by simp;omega),idx_nat hb,drop_cons hb];simp only [ya,cmp_Compare_int,cmp_isNaN_int,uG,yf,if_false,cmpP,yd];by_cases h1:a[i]<b[i]
   ·simp [h1]
   ·by_cases h2:b[i]<a[i]
    ·simp [h1,h2]
    ·simp [h1,h2]
  ·rw [if_pos (by simp;omega),show b.drop i=[] from List.drop_eq_nil_of_le (by omega)];rfl
 ·simp only [slices_Compare_Lint_int.l1,ge_len,yf,if_false,List.drop_length];by_cases hb:a.length<b.length
  ·rw [if_pos (by simpa using hb),drop_cons hb];rfl
  ·rw [if_neg (by simpa using hb),List.drop_eq_nil_of_le (by omega)];rfl
theorem ref_less_eq {n a b} (hl:a.length<1000000) (hn:1000000≤n):ref13_less n a b=some (lessP a b):=by
 have:=loopF_g (body:=ref13_less.l1 n a b) (len:=min a.length b.length) (st:=λi=>(i:Int)) (g:=λi=>some (lessP (a.drop i) (b.drop i))) (λrec i hi hr=>?_) (λrec=>?_) n 0 (yr _) (by omega)
 ·simpa [ref13_less] using this
 ·have ha:i<a.length:=by omega
  have hb:i<b.length:=by omega
  simp only [ref13_less.l1,lt_len ha,lt_len hb,uP,if_true,idx_nat ha,idx_nat hb,ya,add64_1 (i:=i) (by omega),hr];rw [drop_cons ha,drop_cons hb];by_cases h:a[i]=b[i]
  ·simp [h,lessP]
  ·simp [h,lessP]
 ·simp only [ref13_less.l1];rw [if_neg (by simp;omega)];by_cases ha:a.length≤b.length
  ·rw [Nat.min_eq_left ha,List.drop_length];by_cases hb:a.length<b.length
   ·rw [drop_cons hb];simp [lessP,hb]
   ·rw [List.drop_eq_nil_of_le (by omega)];simp [lessP];omega
  ·rw [Nat.min_eq_right (by omega),List.drop_length,drop_cons (by omega)];simp [lessP];omega
def argP (m:Model) (s x:Int):Bool:=(!decide (s<0)||aroundP x 9999)&&(!decide (0≤s)||(decide (0≤x)&&decide (x<(idx m.sorts s).getD default)))
def argsP (m:Model):List Int→List Int→Bool
 | s::l,x::k=>argP m s x&&argsP m l k
 | _,_=>true
def opAt (m:Model) (a:Action):Operation:=(idx m.operations a.operation).getD default
def ordP (b a:Action):Bool:=!decide (a.operation<b.operation)&&(!(b.operation==a.operation)||lessP b.arguments a.arguments)
def actP (m:Model) (K:Nat) (i:Nat) (a:Action):Bool:=
 (decide (0≤a.operation)&&decide (a.operation<(m.operations.length:Int)))&&(a.arguments.length==(opAt m a).sorts.length)&&argsP m (opAt m a).sorts a.arguments&&(decide (i=0)||ordP ((idx m.actions ((i - 1:Nat):Int)).getD default) a)&&effP m K a.effect
def actsP (m:Model) (K:Nat):Bool:=decide (m.actions.length≤256)&&allR (λi=>actP m K i ((idx m.actions (i:Int)).getD default)) 0 m.actions.length
theorem argsP_drop {m} {s x:List Int} {k:Nat} (h1:k<s.length) (h2:k<x.length):argsP m (s.drop k) (x.drop k)=(argP m s[k] x[k]&&argsP m (s.drop (k+1)) (x.drop (k+1))):=by
 rw [drop_cons h1,drop_cons h2];rfl
theorem opAt_idx {m a} (h:(decide (0≤a.operation)&&decide (a.operation<(m.operations.length:Int)))=true):idx m.operations a.operation=some (opAt m a)∧opAt m a∈m.operations:=by
 simp only [yb,yd] at h;obtain ⟨o,ho⟩:=idx_some h.1 h.2;refine ⟨by rw [ho,opAt,ho];rfl,?_⟩;rw [opAt,ho];exact idx_mem ho
theorem idx_sort {m:Model} {s:Int} (h0:0≤s) (h:s<(m.sorts.length:Int)):idx m.sorts s=some ((idx m.sorts s).getD default):=by
 obtain ⟨x,hx⟩:=idx_some h0 h;rw [hx];rfl
theorem opsP_sorts {m} (h:opsP m=true):∀ o∈m.operations,o.sorts.length≤3∧∀ s∈o.sorts,-1≤s∧s<(m.sorts.length:Int):=by
 simp only [opsP,yb,yp] at h;intro o ho;have:=h.1 o ho;simp only [opP,yb,yd,yp] at this;exact this
theorem ord_model {b a}:((decide (a.operation<b.operation))||((b.operation==a.operation)&&(decide (0≤cmpP b.arguments a.arguments)))) = !ordP b a:=by
 rw [cmp_less];unfold ordP;cases decide (a.operation<b.operation) <;> cases (b.operation==a.operation) <;> cases lessP b.arguments a.arguments <;> rfl
theorem ord_ref {b a}:((decide (a.operation<b.operation))||((b.operation==a.operation)&&(!lessP b.arguments a.arguments))) = !ordP b a:=by
 unfold ordP;cases decide (a.operation<b.operation) <;> cases (b.operation==a.operation) <;> cases lessP b.arguments a.arguments <;> rfl
theorem model_actions_eq {n:Nat} {m} {l:List Range} (hF:Fuel n) (hS:SmallM m) (hO:opsP m=true):model_judge_actions n ⟨m,l⟩=some (actsP m l.length):=by
 have hn:=hF.big;have hal:=hS.actions;unfold model_judge_actions actsP;by_cases h0:m.actions.length≤256
 ·rw [if_neg (by simp;omega),decide_eq_true h0,yB];have:=loopF_all (body:=model_judge_actions.l1 n ⟨m,l⟩) (len:=m.actions.length) (n:=n) (st:=λi=>(i:Int)) (λi=>actP m l.length i ((idx m.actions (i:Int)).getD default)) (some false) (some true) (λrec i hi=>?_) (λrec=>?_) (by omega)
  ·simp only [Int.natCast_zero] at this;rw [this];cases allR (λi=>actP m l.length i ((idx m.actions (i:Int)).getD default)) 0 m.actions.length <;> rfl
  ·have hmem:=yk hi;obtain ⟨a1,a2,a3,a4,a5⟩:=hS.act _ hmem;simp only [model_judge_actions.l1,lt_len hi,if_true,idx_nat hi,ya,model_index,yh];unfold actP;cases hop:(decide (0≤m.actions[i].operation)&&decide (m.actions[i].operation<(m.operations.length:Int))) with
   | false=>simp [grd]
   | true=>
    obtain ⟨ho,hom⟩:=opAt_idx hop;obtain ⟨o1,o2⟩:=opsP_sorts hO _ hom;simp only [ho,yj,yC,grd,if_true,yh,yS,y8,yB,ya];by_cases hlen:m.actions[i].arguments.length=(opAt m m.actions[i]).sorts.length
    ·rw [if_neg (by simp [hlen])];have hle:(m.actions[i].arguments.length==(opAt m m.actions[i]).sorts.length)=true:=by simp [hlen]
     rw [hle,yB];have inner:=loopF_g (body:=model_judge_actions.l2 n ⟨m,l⟩ i rec m.actions[i] (opAt m m.actions[i])) (len:=(opAt m m.actions[i]).sorts.length) (st:=λk=>(k:Int)) (g:=λk=>if argsP m ((opAt m m.actions[i]).sorts.drop k) (m.actions[i].arguments.drop k)=true then (if ((decide (i=0)||ordP ((idx m.actions ((i - 1:Nat):Int)).getD default) m.actions[i])&&effP m l.length m.actions[i].effect)=true then rec ((i+1:Nat):Int) else some false) else some false) (λrec' k hk hr'=>?_) (λrec'=>?_) n 0 (yr _) (by omega)
     ·simp only [Int.natCast_zero,List.drop_zero] at inner;rw [inner];cases argsP m (opAt m m.actions[i]).sorts m.actions[i].arguments <;> simp
     ·have hk2:k<m.actions[i].arguments.length:=by omega
      have hs2:=o2 _ (yk hk);simp only [model_judge_actions.l2,lt_len hk,if_true,idx_nat hk,idx_nat hk2,ya,around4,yj,yC,grd,yh,add64_1 (i:=k) (by omega),hr',model_index];rw [argsP_drop hk hk2];unfold argP;by_cases hneg:(opAt m m.actions[i]).sorts[k]<0
      ·have hd1:decide ((opAt m m.actions[i]).sorts[k]<0)=true:=by simp [hneg]
       have hd2:decide (0≤(opAt m m.actions[i]).sorts[k])=false:=by simp;omega
       rw [hd1,hd2];cases aroundP m.actions[i].arguments[k] 9999 <;> simp
      ·have hd1:decide ((opAt m m.actions[i]).sorts[k]<0)=false:=by simp;omega
       have hd2:decide (0≤(opAt m m.actions[i]).sorts[k])=true:=by simp;omega
       obtain ⟨z,hz⟩:=idx_some (l:=m.sorts) (i:=(opAt m m.actions[i]).sorts[k]) (by omega) hs2.2;rw [hz,hd1,hd2];by_cases h1:0≤m.actions[i].arguments[k]
       ·by_cases h2:m.actions[i].arguments[k]<z
        ·have h2':¬ z≤m.actions[i].arguments[k]:=by omega
         simp [h1,h2,h2']
        ·have h2':z≤m.actions[i].arguments[k]:=by omega
         simp [h1,h2,h2']
       ·simp [h1]
     ·simp only [model_judge_actions.l2,ge_len,yf,if_false,jn,List.drop_length];rw [model_effect_eq hF hS (by omega) (by omega) (by omega) (λr hr=>by have:=a5 r hr;omega)];simp only [ya,add64_1 (i:=i) (by omega)];have hargs:argsP m [] (m.actions[i].arguments.drop (opAt m m.actions[i]).sorts.length)=true:=rfl;rw [hargs,if_pos rfl];by_cases h0i:i=0
      ·subst h0i;rw [if_neg (by simp)];cases effP m l.length m.actions[0].effect <;> simp
      ·rw [if_pos (by simp;omega),sub64_1 (by omega) (by omega)];have hi1:i - 1<m.actions.length:=by omega
       have b1:=(hS.act _ (yk hi1)).1;simp only [idx_nat hi1,ya,ord_model,yh,Compare_eq (a:=m.actions[i - 1].arguments) (b:=m.actions[i].arguments) (show m.actions[i - 1].arguments.length<1000000 by omega) (show 1000000≤n by omega),yj,yC,if_true,h0i,decide_false,y8];cases ordP m.actions[i - 1] m.actions[i] <;> cases effP m l.length m.actions[i].effect <;> simp [grd]
    ·rw [if_pos (by simp;omega)];have hle:(m.actions[i].arguments.length==(opAt m m.actions[i]).sorts.length)=false:=by simp [hlen]
     rw [hle];simp
  ·simp [model_judge_actions.l1]
 ·rw [if_pos (by simp;omega),decide_eq_false h0,yT]
theorem ref13_actions_eq {n:Nat} {m:Model} (hn:1000000≤n) (hS:SmallM m) (hL:layoutP m.sorts m.tables=true):ref13_actions n m=some (opsP m&&actsP m (rangesP m.sorts true m.tables).length):=by
 have hal:=hS.actions;have hol:=hS.operations;have hef:∀ a∈m.actions,ref13_effect n m a.effect=some (effP m (rangesP m.sorts true m.tables).length a.effect):=λa ha=>by
  obtain ⟨a1,a2,a3,a4,a5⟩:=hS.act _ ha;exact ref_effect_eq hn hS hL (by omega) (by omega) (by omega) (λr hr=>by have:=a5 r hr;omega)
 generalize (rangesP m.sorts true m.tables).length=K at hef;have T:opsP m=true→loopF (ref13_actions.l3 n m) n 0=some (allR (λi=>actP m K i ((idx m.actions (i:Int)).getD default)) 0 m.actions.length):=λhO=>by
  have:=loopF_all (body:=ref13_actions.l3 n m) (len:=m.actions.length) (n:=n) (st:=λi=>(i:Int)) (λi=>actP m K i ((idx m.actions (i:Int)).getD default)) (some false) (some true) (λrec i hi=>?_) (λrec=>?_) (by omega)
  ·simp only [Int.natCast_zero] at this;rw [this];cases allR (λi=>actP m K i ((idx m.actions (i:Int)).getD default)) 0 m.actions.length <;> rfl
  ·have hmem:=yk hi;obtain ⟨a1,a2,a3,a4,a5⟩:=hS.act _ hmem;simp only [ref13_actions.l3,lt_len hi,if_true,idx_nat hi,ya,yh];have hneg:(decide (m.actions[i].operation<0)||decide ((m.operations.length:Int)≤m.actions[i].operation)) = !(decide (0≤m.actions[i].operation)&&decide (m.actions[i].operation<(m.operations.length:Int))):=by
    rw [Bool.not_and,← decide_not,← decide_not];congr 1
    ·exact decide_eq_decide.2 (by omega)
    ·exact decide_eq_decide.2 (by omega)
   rw [hneg];unfold actP;cases hop:(decide (0≤m.actions[i].operation)&&decide (m.actions[i].operation<(m.operations.length:Int))) with
   | false=>simp [grd]
   | true=>
    obtain ⟨ho,hom⟩:=opAt_idx hop;obtain ⟨o1,o2⟩:=opsP_sorts hO _ hom;simp only [ho,yj,yC,grd,if_true,yh,yS,y8,yB];by_cases hlen:m.actions[i].arguments.length=(opAt m m.actions[i]).sorts.length
    ·rw [if_neg (by simp [hlen])];have hle:(m.actions[i].arguments.length==(opAt m m.actions[i]).sorts.length)=true:=by simp [hlen]
     rw [hle,yB];have inner:=loopF_g (body:=ref13_actions.l4 n m i rec m.actions[i]) (len:=m.actions[i].arguments.length) (st:=λk=>(k:Int)) (g:=λk=>if argsP m ((opAt m m.actions[i]).sorts.drop k) (m.actions[i].arguments.drop k)=true then (if ((decide (i=0)||ordP ((idx m.actions ((i - 1:Nat):Int)).getD default) m.actions[i])&&effP m K m.actions[i].effect)=true then rec ((i+1:Nat):Int) else some false) else some false) (λrec' k hk2 hr'=>?_) (λrec'=>?_) n 0 (yr _) (by omega)
     ·simp only [Int.natCast_zero,List.drop_zero] at inner;rw [inner];cases argsP m (opAt m m.actions[i]).sorts m.actions[i].arguments <;> simp
     ·have hk:k<(opAt m m.actions[i]).sorts.length:=by omega
      have hs2:=o2 _ (yk hk);simp only [ref13_actions.l4,lt_len hk2,if_true,ho,idx_nat hk,idx_nat hk2,ya,between4,yj,yC,grd,yh,add64_1 (i:=k) (by omega),hr'];rw [argsP_drop hk hk2];unfold argP;by_cases hneg:(opAt m m.actions[i]).sorts[k]<0
      ·have hd1:decide ((opAt m m.actions[i]).sorts[k]<0)=true:=by simp [hneg]
       have hd2:decide (0≤(opAt m m.actions[i]).sorts[k])=false:=by simp;omega
       rw [hd1,hd2];cases aroundP m.actions[i].arguments[k] 9999 <;> simp
      ·have hd1:decide ((opAt m m.actions[i]).sorts[k]<0)=false:=by simp;omega
       have hd2:decide (0≤(opAt m m.actions[i]).sorts[k])=true:=by simp;omega
       rw [idx_sort (m:=m) (s:=(opAt m m.actions[i]).sorts[k]) (by omega) hs2.2,hd1,hd2];simp only [yh];generalize (idx m.sorts (opAt m m.actions[i]).sorts[k]).getD default=z;by_cases h1:m.actions[i].arguments[k]<0
       ·have h1':¬ 0≤m.actions[i].arguments[k]:=by omega
        simp [h1,h1']
       ·have h1':0≤m.actions[i].arguments[k]:=by omega
        by_cases h2:z≤m.actions[i].arguments[k]
        ·have h2':¬ m.actions[i].arguments[k]<z:=by omega
         simp [h1,h1',h2,h2']
        ·have h2':m.actions[i].arguments[k]<z:=by omega
         simp [h1,h1',h2,h2']
     ·simp only [ref13_actions.l4,ge_len,yf,if_false,jn,List.drop_length,hef _ hmem];simp only [ya,add64_1 (i:=i) (by omega)];have hargs:argsP m ((opAt m m.actions[i]).sorts.drop m.actions[i].arguments.length) []=true:=by cases (opAt m m.actions[i]).sorts.drop m.actions[i].arguments.length <;> rfl
      rw [hargs,if_pos rfl];by_cases h0i:i=0
      ·subst h0i;rw [if_neg (by simp)];cases effP m K m.actions[0].effect <;> simp
      ·rw [if_pos (by simp;omega),sub64_1 (by omega) (by omega)];have hi1:i - 1<m.actions.length:=by omega
       have b1:=(hS.act _ (yk hi1)).1;simp only [idx_nat hi1,ya,ord_ref,yh,ref_less_eq (a:=m.actions[i - 1].arguments) (b:=m.actions[i].arguments) (show m.actions[i - 1].arguments.length<1000000 by omega) (show 1000000≤n by omega),yj,yC,if_true,h0i,decide_false,y8];cases ordP m.actions[i - 1] m.actions[i] <;> cases effP m K m.actions[i].effect <;> simp [grd]
    ·rw [if_pos (by simp;omega)];have hle:(m.actions[i].arguments.length==(opAt m m.actions[i]).sorts.length)=false:=by simp [hlen]
     rw [hle];simp
  ·simp [ref13_actions.l3]
 unfold ref13_actions;have:=loopF_lall (body:=ref13_actions.l1 n m) (l:=m.operations) (n:=n) (st:=λi=>((m.operations.take i).map (·.name),(i:Int))) (opP m) (some false) (if (decide (m.operations.length≤8)&&distP [] (m.operations.map (·.name))&&decide (m.actions.length≤256))=true then loopF (ref13_actions.l3 n m) n 0 else some false) (λrec i hi=>?_) (λrec=>?_) (by omega)
 ·simp only [List.take_zero,List.map_nil,Int.natCast_zero] at this;rw [this];unfold actsP;cases hO:opsP m with
  | true=>
   have hO':=hO;simp only [opsP,yb] at hO';rw [hO'.1,hO'.2.1,hO'.2.2,T hO];cases decide (m.actions.length≤256) <;> rfl
  | false=>
   unfold opsP at hO;cases h1:m.operations.all (opP m) with
   | false=>simp
   | true=>
    rw [h1,yB] at hO;rw [hO];simp
 ·have hop:=hS.op _ (yk hi);simp only [ref13_actions.l1,lt_len hi,if_true,idx_nat hi,ya];rw [app_some (by simp;omega),ya,map_take_snoc hi];generalize hX:(m.operations.take (i+1)).map (·.name)=X;have inner:=loopF_lall (body:=ref13_actions.l2 n m i rec m.operations[i] X) (l:=m.operations[i].sorts) (n:=n) (st:=λk=>(k:Int)) (λs=>decide (-1≤s)&&decide (s<(m.sorts.length:Int))) (some false) (if decide (m.operations[i].sorts.length≤3)=true then rec (X,((i+1:Nat):Int)) else some false) (λrec' k hk=>?_) (λrec'=>?_) (by omega)
  ·simp only [Int.natCast_zero] at inner;rw [inner];unfold opP;cases decide (m.operations[i].sorts.length≤3) <;> cases (m.operations[i].sorts.all λs=>decide (-1≤s)&&decide (s<(m.sorts.length:Int))) <;> simp
  ·simp only [ref13_actions.l2,lt_len hk,if_true,idx_nat hk,ya,yj,yC,grd,yh,add64_1 (i:=k) (by omega)];have e1:decide (m.operations[i].sorts[k] < -1) = !decide (-1≤m.operations[i].sorts[k]):=by rw [← decide_not];exact decide_eq_decide.2 (by omega)
   have e2:decide ((m.sorts.length:Int)≤m.operations[i].sorts[k]) = !decide (m.operations[i].sorts[k]<(m.sorts.length:Int)):=by rw [← decide_not];exact decide_eq_decide.2 (by omega)
   rw [e1,e2];cases decide (-1≤m.operations[i].sorts[k]) <;> cases decide (m.operations[i].sorts[k]<(m.sorts.length:Int)) <;> simp
  ·simp only [ref13_actions.l2,ge_len,yf,if_false,add64_1 (i:=i) (by omega)];by_cases h3:m.operations[i].sorts.length≤3
   ·rw [if_neg (by simp;omega),if_pos (by simp [h3])]
   ·rw [if_pos (by simp;omega),if_neg (by simp [h3])]
 ·simp only [ref13_actions.l1,ge_len,yf,if_false,List.take_length];rw [ref13_distinct_eq hn (by simp;omega) (λw hw=>by
   simp only [yV] at hw;obtain ⟨o,ho,rfl⟩:=hw;have:=(hS.op o ho).1;omega)]
  simp only [yj,yC,grd,if_true,yh];have e1:decide (8<(m.operations.length:Int)) = !decide (m.operations.length≤8):=by rw [← decide_not];exact decide_eq_decide.2 (by omega)
  have e2:decide (256<(m.actions.length:Int)) = !decide (m.actions.length≤256):=by rw [← decide_not];exact decide_eq_decide.2 (by omega)
  rw [e1,e2];cases decide (m.operations.length≤8) <;> cases distP [] (m.operations.map (·.name)) <;> cases decide (m.actions.length≤256) <;> simp
def leadsP (hs:List Hide):Nat→Int→Int→Bool
 | 0,a,b=>a==b
 | k+1,a,b=>a==b||hs.any λh=>h.table==a&&leadsP hs k h.to b
def hideP (m:Model) (h:Hide):Bool:=
 (((decide (0≤h.table)&&decide (h.table<(m.tables.length:Int)))&&(decide (0≤h.to)&&decide (h.to<(m.tables.length:Int))))&&(h.table != h.to)) &&
 (((((idx m.tables h.table).getD default).kind==0)&&(((idx m.tables h.to).getD default).kind==0))&&((decide (0≤h.column)&&decide (h.column<(((idx m.tables h.table).getD default).columns.length:Int)))&&(((((idx m.tables h.to).getD default).columns.length:Int)==1)&&((idx ((idx m.tables h.to).getD default).columns 0).getD default==(idx ((idx m.tables h.table).getD default).columns h.column).getD default))))
def hidesP (m:Model):Bool:=decide (m.hides.length≤12)&&(m.hides.all (hideP m)&&m.hides.all λh=>!leadsP m.hides m.tables.length h.to h.table)
theorem leads_loop {m n self a b k} (hl:m.hides.length<n) (hl2:m.hides.length<1000000) (hk:k+1<1000000) (hself:∀ x,self m x b (k:Int)=some (leadsP m.hides k x b)) :
  loopF (ref13_leads.l1 n self m a b ((k+1:Nat):Int)) n 0=some (m.hides.any λh=>h.table==a&&leadsP m.hides k h.to b):=by
 have:=loopF_g (body:=ref13_leads.l1 n self m a b ((k+1:Nat):Int)) (len:=m.hides.length) (st:=λi=>(i:Int)) (g:=λi=>some ((m.hides.drop i).any λh=>h.table==a&&leadsP m.hides k h.to b)) (λrec i hi hr=>?_) (λrec=>?_) n 0 (yr _) (by omega)
 ·simpa using this
 ·have h0:decide (0<((k+1:Nat):Int))=true:=by simp
  have hsub:sub64 ((k+1:Nat):Int) 1=(k:Int):=by rw [sub64_1 (by omega) (by omega)];simp
  simp only [ref13_leads.l1,lt_len hi,h0,uP,if_true,idx_nat hi,ya,yj,yC,grd,yh,hsub,hself,add64_1 (i:=i) (by omega),hr];rw [drop_cons hi,uQ];cases (m.hides[i].table==a&&leadsP m.hides k m.hides[i].to b) <;> simp
 ·simp [ref13_leads.l1]
theorem ref_leads {m} (hl:m.hides.length<1000000):∀ (k n:Nat) (a b:Int),k<1000000→1000000+k<n→ref13_leads n m a b (k:Int)=some (leadsP m.hides k a b)
 | 0,0,_,_,_,h=>by omega
 | 0,n+1,a,b,_,h=>by
  simp only [ref13_leads,ref13_leads.body,leadsP];by_cases e:a=b
  ·simp [e]
  ·rw [if_neg (by simpa using e)];have hh:(a==b)=false:=by simpa using e
   rw [loopF_1 (by omega),hh];simp [ref13_leads.l1]
 | k+1,0,_,_,_,h=>by omega
 | k+1,n+1,a,b,hk,h=>by
  simp only [ref13_leads,ref13_leads.body,leadsP];by_cases e:a=b
  ·simp [e]
  ·rw [if_neg (by simpa using e),leads_loop (by omega) hl hk λx=>ref_leads hl k n x b (by omega) (by omega)];have hh:(a==b)=false:=by simpa using e
   rw [hh,y8]
theorem hide_idx {m:Model} {h:Hide} (h0:0≤h.table∧h.table<(m.tables.length:Int)) (h1:0≤h.to∧h.to<(m.tables.length:Int)):∃ t u,idx m.tables h.table=some t∧idx m.tables h.to=some u:=by
 obtain ⟨t,ht⟩:=idx_some h0.1 h0.2;obtain ⟨u,hu⟩:=idx_some h1.1 h1.2;exact ⟨t,u,ht,hu⟩
theorem ref13_hidden_eq {n:Nat} {m:Model} (hn:4294967296≤n) (hS:SmallM m):ref13_hidden n m=some (hidesP m):=by
 have hhl:=hS.hides;have htl:=hS.tables;unfold ref13_hidden hidesP;rw [if_neg (by simp;omega),decide_eq_true hhl,yB];have T:loopF (ref13_hidden.l2 n m) n 0=some (m.hides.all λh=>!leadsP m.hides m.tables.length h.to h.table):=by
  have:=loopF_lall (body:=ref13_hidden.l2 n m) (l:=m.hides) (n:=n) (st:=λi=>(i:Int)) (λh=>!leadsP m.hides m.tables.length h.to h.table) (some false) (some true) (λrec i hi=>?_) (λrec=>?_) (by omega)
  ·simp only [Int.natCast_zero] at this;rw [this];cases (m.hides.all λh=>!leadsP m.hides m.tables.length h.to h.table) <;> rfl
  ·simp only [ref13_hidden.l2,lt_len hi,if_true,idx_nat hi,ya,ref_leads (m:=m) (by omega) m.tables.length n m.hides[i].to m.hides[i].table (by omega) (by omega),add64_1 (i:=i) (by omega)];cases leadsP m.hides m.tables.length m.hides[i].to m.hides[i].table <;> simp
  ·simp [ref13_hidden.l2]
 have:=loopF_lall (body:=ref13_hidden.l1 n m) (l:=m.hides) (n:=n) (st:=λi=>(i:Int)) (hideP m) (some false) (some (m.hides.all λh=>!leadsP m.hides m.tables.length h.to h.table)) (λrec i hi=>?_) (λrec=>?_) (by omega)
 ·simp only [Int.natCast_zero] at this;rw [this];cases m.hides.all (hideP m) <;> simp
 ·simp only [ref13_hidden.l1,lt_len hi,if_true,idx_nat hi,ya,add64_1 (i:=i) (by omega)];generalize m.hides[i]=h;by_cases hb:(((0≤h.table∧h.table<(m.tables.length:Int))∧(0≤h.to∧h.to<(m.tables.length:Int)))∧h.table≠h.to)
  ·rw [if_neg (by simp;omega)];obtain ⟨t,u,ht,hu⟩:=hide_idx hb.1.1 hb.1.2;have hhp:hideP m h=(((t.kind==0)&&(u.kind==0))&&((decide (0≤h.column)&&decide (h.column<(t.columns.length:Int)))&&(((u.columns.length:Int)==1)&&((idx u.columns 0).getD default==(idx t.columns h.column).getD default)))):=by
    unfold hideP;rw [ht,hu];simp [hb]
   simp only [ht,hu,ya];rw [hhp];by_cases hk:(((t.kind==0)&&(u.kind==0))&&((decide (0≤h.column)&&decide (h.column<(t.columns.length:Int)))&&((u.columns.length:Int)==1)))=true
   ·have hk':=hk;simp only [yb,yd,beq_iff_eq] at hk';obtain ⟨⟨k1,k2⟩,⟨k3,k4⟩,k5⟩:=hk';obtain ⟨x,hx⟩:=idx_some (l:=u.columns) (i:=0) (by omega) (by omega);obtain ⟨y,hy⟩:=idx_some k3 k4;have n1:¬ h.column<0:=by omega
    have n2:¬ (t.columns.length:Int)≤h.column:=by omega
    simp only [k1,k2,k3,k4,k5,n1,n2,hx,hy,yh,decide_true,decide_false,beq_self_eq_true,uG,yj,yC,Bool.or_false,yB,grd,if_true];by_cases hxy:x=y
    ·simp [hxy]
    ·simp [hxy]
   ·have hf:(((((t.kind != 0)||(u.kind != 0))||(decide (h.column<0)))||(decide ((t.columns.length:Int)≤h.column)))||((u.columns.length:Int) != 1))=true:=by
     simp only [yb,yd,beq_iff_eq] at hk;simp only [yA,bne_iff_ne,yd];omega
    simp only [hf,uM,grd,if_true];rw [← Bool.and_assoc (decide (0≤h.column)&&decide (h.column<(t.columns.length:Int))),← Bool.and_assoc];simp only [yD] at hk;rw [hk];rfl
  ·rw [if_pos (by simp;omega)];have hhp:hideP m h=false:=by
    unfold hideP;cases hx:(((decide (0≤h.table)&&decide (h.table<(m.tables.length:Int)))&&(decide (0≤h.to)&&decide (h.to<(m.tables.length:Int))))&&(h.table != h.to)) with
    | false=>rfl
    | true=>
     simp only [yb,yd,bne_iff_ne] at hx;exact absurd hx hb
   rw [hhp];rfl
 ·simp only [ref13_hidden.l1,ge_len,yf,if_false,T]
theorem nodup_len:∀ (T:Nat) (l:List Int),l.Nodup→(∀ x∈l,0≤x∧x<(T:Int))→l.length≤T
 | 0,l,_,h=>by
  cases l with
  | nil=>simp
  | cons x l=>have:=h x (by simp);omega
 | T+1,l,hn,h=>by
  by_cases hm:(T:Int)∈l
  ·have h1:=nodup_len T (l.erase (T:Int)) (hn.erase _) (λx hx=>by
    have:=(hn.mem_erase_iff).1 hx;have:=h x this.2;omega)
   rw [List.length_erase_of_mem hm] at h1;omega
  ·have:=nodup_len T l hn (λx hx=>by
    have:=h x hx;have:x≠(T:Int):=λe=>hm (e▸hx)
    omega)
   omega
theorem leadsP_mono {hs}:∀ {k:Nat} {a b:Int},leadsP hs k a b=true→leadsP hs (k+1) a b=true
 | 0,a,b,h=>by
  simp only [leadsP] at h;simp only [leadsP,h,uM]
 | k+1,a,b,h=>by
  rw [leadsP] at h ⊢;simp only [yA,un,yb] at h ⊢;rcases h with h | ⟨x,hx,h1,h2⟩
  ·exact .inl h
  ·exact .inr ⟨x,hx,h1,leadsP_mono h2⟩
theorem leadsP_le {hs k j a b} (h:leadsP hs k a b=true) (hkj:k≤j):leadsP hs j a b=true:=by
 obtain ⟨d,rfl⟩:=Nat.exists_eq_add_of_le hkj;clear hkj
 induction d with
 | zero=>exact h
 | succ d ih=>exact leadsP_mono ih
theorem leadsP_refl {hs k a}:leadsP hs k a a=true:=by cases k <;> simp [leadsP]
theorem leadsP_snoc {hs h} (hh:h∈hs):∀ {k:Nat} {a:Int},leadsP hs k a h.table=true→leadsP hs (k+1) a h.to=true
 | 0,a,e=>by
  simp only [leadsP,beq_iff_eq] at e;simp only [leadsP,yA,un,yb,beq_iff_eq];exact .inr ⟨h,hh,e.symm,rfl⟩
 | k+1,a,e=>by
  rw [leadsP] at e ⊢;simp only [yA,un,yb,beq_iff_eq] at e ⊢;rcases e with e | ⟨x,hx,h1,h2⟩
  ·exact .inr ⟨h,hh,e.symm,leadsP_refl⟩
  ·exact .inr ⟨x,hx,h1,leadsP_snoc hh h2⟩
def walkP (f:Int→Hide) (s:Int):Nat→Int
 | 0=>s
 | k+1=>(f (walkP f s k)).to
theorem sink_ex {hs:List Hide} {T:Nat} {S:List Int} (hS:S≠[]) (hb:∀ t∈S,0≤t∧t<(T:Int)) (hac:∀ h∈hs,leadsP hs T h.to h.table=false):∃ t∈S,∀ h∈hs,¬ (h.table=t∧h.to∈S):=by
 apply Classical.byContradiction;intro hno;have hedge:∀ t,t∈S→∃ h,h∈hs∧h.table=t∧h.to∈S:=λt ht=>by
  apply Classical.byContradiction;intro hn;exact hno ⟨t,ht,λh hh he=>hn ⟨h,hh,he.1,he.2⟩⟩
 obtain ⟨s,hs0⟩:∃ s,s∈S:=by
  cases S with
  | nil=>exact absurd rfl hS
  | cons x l=>exact ⟨x,by simp⟩
 obtain ⟨f,hf⟩:∃ f:Int→Hide,∀ t,t∈S→f t∈hs∧(f t).table=t∧(f t).to∈S:=by
  refine ⟨λt=>if ht:t∈S then Classical.choose (hedge t ht) else default,λt ht=>?_⟩;simp only [ht,dite_true];exact Classical.choose_spec (hedge t ht)
 have hw:∀ k,walkP f s k∈S:=λk=>by
  induction k with
  | zero=>exact hs0
  | succ k ih=>exact (hf _ ih).2.2
 have hlead:∀ d i,leadsP hs d (walkP f s i) (walkP f s (i+d))=true:=λd=>by
  induction d with
  | zero=>intro i;exact leadsP_refl
  | succ d ih=>
   intro i;simp only [leadsP,yA,un,yb,beq_iff_eq];refine .inr ⟨f (walkP f s i),(hf _ (hw i)).1,(hf _ (hw i)).2.1,?_⟩;have:=ih (i+1);rw [show i+1+d=i+(d+1) by omega] at this;exact this
 have hne:∀ i j,i<j→j≤T→walkP f s i≠walkP f s j:=λi j hij hj e=>by
  have h1:=hlead (j - i - 1) (i+1);rw [show i+1+(j - i - 1)=j by omega,← e] at h1;have h2:=hac _ (hf _ (hw i)).1;rw [(hf _ (hw i)).2.1] at h2;have h3:leadsP hs T (f (walkP f s i)).to (walkP f s i)=true:=leadsP_le h1 (by omega);rw [h3] at h2;cases h2
 have hlen:=nodup_len T ((List.range (T+1)).map (walkP f s)) (by
  rw [List.Nodup,List.pairwise_map];exact List.Pairwise.imp_of_mem (λ{a b} _ hb hab=>hne a b hab (by have:=ui.1 hb;omega)) List.pairwise_lt_range) (λx hx=>by
  simp only [yV] at hx;obtain ⟨k,-,rfl⟩:=hx;exact hb _ (hw k))
 simp at hlen;omega
def keysOf (m:GMap Int Bool):List Int:=m.es.map λe=>e.2.1
structure WfM (m:GMap Int Bool):Prop where
 tru:∀ e∈m.es,e.2.2=true
 nd:(m.es.map (·.1)).Nodup
 lt:∀ e∈m.es,e.1<m.clock
theorem WfM.get {m} (h:WfM m) (k):(m.get? k).getD false=decide (k∈keysOf m):=by
 unfold GMap.get?;rw [findK_get k m.es h.tru];rfl
theorem WfM.empty:WfM (GMap.empty:GMap Int Bool):=⟨λe he=>(by simp [GMap.empty] at he),by simp [GMap.empty],λe he=>(by simp [GMap.empty] at he)⟩
theorem findK_at (k):∀ (es:List (Nat×Int×Bool)) (p:Nat×Bool),findK k es=some p→∃ h:p.1<es.length,es[p.1].2.1=k
 | [],_,h=>by simp [findK] at h
 | e::es,p,h=>by
  simp only [findK] at h;split at h
  ·rename_i hk;cases h;exact ⟨by simp,hk.symm⟩
  ·simp only [Option.map_eq_some_iff] at h;obtain ⟨q,h1,rfl⟩:=h;obtain ⟨h2,h3⟩:=findK_at k es q h1;exact ⟨by simp only [yP];omega,by simpa using h3⟩
theorem modify_births (f) (hf:∀ e,(f e).1=e.1):∀ (es:List (Nat×Int×Bool)) (i:Nat),(es.modify i f).map (·.1)=es.map (·.1)
 | [],_=>by simp
 | e::es,0=>by simp [hf]
 | e::es,i+1=>by simp [modify_births f hf es i]
theorem WfM.put {m} (h:WfM m) (k):WfM (m.put k true)∧(m.put k true).es.length≤m.es.length+1∧∀ t,t∈keysOf (m.put k true)↔t∈keysOf m∨t=k:=by
 unfold GMap.put keysOf;cases hk:findK k m.es with
 | none=>
  simp only [];refine ⟨⟨λe he=>?_,?_,λe he=>?_⟩,by simp,λt=>by simp⟩
  ·simp only [yH,yK] at he;rcases he with he | rfl
   ·exact h.tru e he
   ·rfl
  ·simp only [uf,yN,List.map_nil];rw [List.nodup_append];refine ⟨h.nd,by simp,λa ha b hb=>?_⟩;simp only [yK] at hb;subst hb;simp only [yV] at ha;obtain ⟨e,he,rfl⟩:=ha;have:=h.lt e he;omega
  ·simp only [yH,yK] at he;rcases he with he | rfl
   ·have:=h.lt e he;simp only [];omega
   ·simp
 | some p=>
  obtain ⟨i,b⟩:=p;simp only [];have hb:=modify_births (λe:Nat×Int×Bool=>(e.1,e.2.1,true)) (λe=>rfl) m.es i;refine ⟨⟨modify_all (p:=λe=>e.2.2=true) _ (λe=>rfl) m.es i h.tru,by rw [hb];exact h.nd,λe he=>?_⟩,by simp,λt=>?_⟩
  ·have:e.1∈m.es.map (·.1):=by rw [← hb];exact List.mem_map_of_mem he
   simp only [yV] at this;obtain ⟨x,hx,e1⟩:=this;have:=h.lt x hx;simp only [];omega
  ·rw [modify_keys (λe:Nat×Int×Bool=>(e.1,e.2.1,true)) (λe=>rfl) m.es i];constructor
   ·exact .inl
   ·rintro (h1 | rfl)
    ·exact h1
    ·exact findK_yes _ m.es _ hk
theorem WfM.del {m} (h:WfM m) {e} (he:e∈m.es):WfM (m.del e.2.1)∧(m.del e.2.1).clock=m.clock∧(m.del e.2.1).es.length+1=m.es.length∧(m.del e.2.1).es.Sublist m.es∧∀ t,t∈keysOf m→t≠e.2.1→t∈keysOf (m.del e.2.1):=by
 unfold GMap.del keysOf;cases hk:findK e.2.1 m.es with
 | none=>exact absurd (List.mem_map_of_mem (f:=λe:Nat×Int×Bool=>e.2.1) he) (findK_no _ m.es hk)
 | some p=>
  obtain ⟨i,b⟩:=p;obtain ⟨hi,hik⟩:=findK_at _ m.es _ hk;simp only [] at hi hik ⊢;have hsub:=List.eraseIdx_sublist m.es i;refine ⟨⟨λx hx=>h.tru x (hsub.subset hx),(hsub.map _).nodup h.nd,λx hx=>h.lt x (hsub.subset hx)⟩,trivial,?_,hsub,λt ht hne=>?_⟩
  ·rw [List.length_eraseIdx_of_lt hi];omega
  ·simp only [yV] at ht ⊢;obtain ⟨x,hx,rfl⟩:=ht;obtain ⟨j,hj,rfl⟩:=List.mem_iff_getElem.1 hx;refine ⟨_,?_,rfl⟩;rw [List.mem_eraseIdx_iff_getElem];refine ⟨j,hj,λe1=>hne ?_,rfl⟩;subst e1;exact hik
theorem left_less {m m':GMap Int Bool} {seen:List Nat} {e:Nat×Int×Bool} (he:e∈m.left seen) (hs:m'.es.Sublist m.es):(m'.left (seen++[e.1])).length<(m.left seen).length:=by
 unfold GMap.left at he ⊢;have h1:(m'.es.filter λx=>!(seen++[e.1]).contains x.1).length≤(m.es.filter λx=>!(seen++[e.1]).contains x.1).length:=(hs.filter _).length_le;have h2:(m.es.filter λx=>!(seen++[e.1]).contains x.1)=(m.es.filter λx=>!seen.contains x.1).filter λx=>!(x.1==e.1):=by
  rw [List.filter_filter];congr 1;funext x;rw [Bool.eq_iff_iff];simp;constructor
  ·rintro ⟨a,b⟩;exact ⟨b,a⟩
  ·rintro ⟨a,b⟩;exact ⟨b,a⟩
 have h3:((m.es.filter λx=>!seen.contains x.1).filter λx=>!(x.1==e.1)).length<(m.es.filter λx=>!seen.contains x.1).length:=
  List.length_filter_lt_length_iff_exists.2 ⟨e,he,by simp⟩
 rw [h2] at h1;omega
theorem hidden_round {n:Nat} {j:Judge} {m0:GMap Int Bool} {i:Int} {rec:(GMap Int Bool×Int)→Option Bool} {r:Bool} (hn:1000000≤n) (hh:j.model.hides.length<1000000) (J:GMap Int Bool→List Nat→Prop)
  (hwf:∀ m seen,J m seen→WfM m∧m.clock=m0.clock) (hover:∀ m seen,J m seen→m.left seen=[]→rec (m,add64 i 1)=some r)
  (hstep:∀ m seen e,J m seen→e∈m.left seen→J (if (j.model.hides.any λh=>h.table==e.2.1&&decide (h.to∈keysOf m))=true then m else m.del e.2.1) (seen++[e.1]))
  (h0:J m0 []) (hl:m0.es.length<1000000):loopF (model_judge_hidden.l4 n j m0 i rec) n (m0,[],m0.clock)=some r:=by
 refine loopF_M (body:=model_judge_hidden.l4 n j m0 i rec) (λs=>(s.1.left s.2.1).length) (λs=>J s.1 s.2.1∧s.2.2=m0.clock) (λ_ o=>o=some r) (λrec' s hI hr=>?_) n _ ⟨h0,rfl⟩ ?_
 ·obtain ⟨m,seen,last⟩:=s;obtain ⟨hJ,hlast⟩:=hI;simp only [] at hJ hlast hr;subst hlast;obtain ⟨hw,hc⟩:=hwf m seen hJ;simp only [model_judge_hidden.l4,stepM];have hold:m.old m0.clock m0.clock=true:=by
   simp only [GMap.old,yb,yp,yd];exact ⟨λe he=>by have:=hw.lt e he;omega,yn _⟩
  rw [hold];unfold grd;rw [if_pos rfl];cases hleft:m.left seen with
  | nil=>
   simp only [List.isEmpty_nil,if_true];exact hover m seen hJ hleft
  | cons x l=>
   rw [← hleft,if_neg (by rw [hleft];simp)];refine chooseAll_all (by rw [hleft];simp) (λe he=>?_);have hem:e∈m.es:=(List.mem_filter.1 he).1;rw [if_pos (by simpa using hw.nd),ContainsFunc_LHide_api_Hide_eq (p:=λh=>h.table==e.2.1&&decide (h.to∈keysOf m)) (λh _=>by
    unfold model_judge_hidden_1;rw [hw.get]) hh hn,ya]
   have hst:=hstep m seen e hJ he;cases hb:(j.model.hides.any λh=>h.table==e.2.1&&decide (h.to∈keysOf m)) with
   | true=>
    rw [hb] at hst;rw [if_neg (by simp)];exact hr (m,seen++[e.1],m.clock) ⟨hst,hc⟩ (left_less he (List.Sublist.refl _))
   | false=>
    rw [hb] at hst;rw [if_pos (by simp)];exact hr (m.del e.2.1,seen++[e.1],m.clock) ⟨hst,hc⟩ (left_less he (hw.del hem).2.2.2.1)
 ·have:(m0.left []).length≤m0.es.length:=List.length_filter_le _ _;simp only [];omega
end Go.Proofs.YtehefbidnkfciaaGreatDoor
