/- Part of the proof of one law of the seat. -/
import Derived.Test.YtehefbidnkfciaaGreatDoorGq04
set_option linter.unusedVariables false
set_option linter.unusedSectionVars false
set_option linter.unusedSimpArgs false
set_option maxHeartbeats 4000000
namespace Go.Proofs.YtehefbidnkfciaaGreatDoor
open Go Go.RowKit
abbrev yv:=@_root_.List.take_succ_eq_append_getElem
abbrev yC:=@_root_.Bool.or_true
abbrev yF:=@_root_.Bool.not_eq_true
abbrev yU:=@_root_.Bool.false_and
abbrev y0:=@_root_.List.length_replicate
abbrev ui:=@_root_.Bool.not_false
abbrev un:=@_root_.Bool.or_eq_false_iff
abbrev uL:=@_root_.List.any_cons
abbrev uO:=@_root_.Bool.true_or
theorem zc0 (n t0 t1 r) (h:zba n t0 t1=some r):Pure pg 16 [Model.enc t0,Question.enc t1] (.tup [Question.enc r.1,.sl 3 (List.map Swap.enc r.2)]):=by
 refine Pure.ot Tryz.func16 I Tryz.ntmps16 I λA w=>.S 2 I<|.allocZ I I I I (.agg Zc34 (ds':=[.int 0,.int 0,.bool false,.int 0]) (.e (.e (.e .e1)))) I<|.p I (.nilS 3 (α:=Swap) Swap.enc I)<|.nil<|.S 1 I<|.Z h I (zcx _ _) λx1 h=>.A 1 I<|.p I (.extract I I I)<|.p I (.extract I I I)<|.A 2 I<|.nil<|.seq<|.seq<|.plain 8 I<|.A 3 I<|gK h λc3 h=>gK h λc4 h=>.jO 4 (!((zJ n ((x1.1).getD default) t1).getD default)) I (λb2=>?_) ?_
 ·refine .A 2 I<|.q I (.callLe I (kC I) I (.cons (.ofEq (zcr (someD (impF c3 b2)))) .e1) (zbA _ _ _ _ (someD (impF c4 b2))))<|.A 1 I<|.nil I
 refine .nil<|.nil<|.K [3,4,6,21] I<|.condS I h (λh=>?_) λh=>?_
 ·refine .sr<|.p I (.castD (Question.enc (⟨0,0,(⟨false,0⟩:Target)⟩:Question)) I (.build I Pl34 (.agg Zc34 (ds':=[_,_,_,_]) (.e (.e (.e .e1)))) I I))<|.store I I I I I I (.ofD I) C34 I (yd I)<|.p I (.nilS 3 (α:=Swap) Swap.enc I)<|.nil<|.ret ?_
  cases h
  exact zbz I I Y34 (.v (.v (.v .v1))) I (.d _)
 ·refine .skip<|.S 2 I<|bK h λp_5 hp_5 h=>bK h λx6 q6 h=>.p I (.callLe I (kC I) I (.cons (.ofEq (zcr hp_5)) .e1) (zaL _ _ _ _ q6))<|.p I (.call I (kC I) I (zaD n x6))<|bK h λx7 q7 h=>zm2 I I I I I I I I I I q7<|.allocStore I I I I I I I I (by simp) I I Z34<|.nil<|.seq<|bK h λp_8 hp_8 h=>bK h λx9 q9 h=>.drawA 8 Hm I<|.first 1 I (by decide +kernel) (by decide +kernel) (by decide +kernel) I (.m I (.nil ⟨I,I⟩))<|.via 1 #[true,true,true,true,true,true,true,false] ⟨[(4,.loc 0 0),(34,.d (.sl 3 (List.map Swap.enc ((x9.get? t1).getD []))))],[.box 34 [.d (.int x7.e),.d (.int x7.f),.d (.bool x7.target.hold),.d (.int x7.target.index)],.dead]⟩ ?_ λsA0=>?_
  ·refine .step 7 [] (by decide +kernel) (.cons (i:=7) I (.z I (.nil ⟨I,I⟩)) ?_ .nil)
   refine .done (by decide +kernel)<|.K [4,5] I<|.ret ?_
   cases h
   exact zbz I I Y34 (.v (.v (.v .v1))) I (.d _)
  refine .via 2 #[true,true,true,true,true,true,false,false] ⟨[(4,.loc 0 0),(29,.d (Question.enc x7)),(34,.d (.sl 3 (List.map Swap.enc ((x9.get? t1).getD []))))],[.box 34 [.d (.int 0),.d (.int 0),.d (.bool false),.d (.int 0)],.dead]⟩ ?_ λsA1=>?_
  ·refine .step 6 [] (by decide +kernel) (.cons (i:=6) I (.store I I I I I I (.ofD I) C34 I (yd I) (.nil ⟨I,I⟩)) ?_ .nil)
   exact .keepT [4,34] (.c2 I .nil) (.to #[true,true,true,true,true,true,true,false] (by decide +kernel) sA0)
  refine .via 2 #[true,true,true,true,true,false,true,false] ⟨[(4,.loc 0 0),(32,.d (GMap.dat (λq:Question=>Value.agg (Question.vals q).toArray) (λl=>D.sl 3 (List.map Swap.enc l)) x9)),(33,.d (Question.enc t1))],[.box 34 [.d (.int x7.e),.d (.int x7.f),.d (.bool x7.target.hold),.d (.int x7.target.index)],.dead]⟩ ?_ λsA2=>?_
  ·refine .step 5 [] (by decide +kernel) (.cons (i:=5) I (.p I (.mapGetD (ke:=(λq:Question=>Value.agg (Question.vals q).toArray)) (ve:=(λl=>D.sl 3 (List.map Swap.enc l))) I U95 KT34 I I (z:=([]:List Swap)) (.nil Zv42) (hkd:=.struct (Question.vals t1))) (.nil ⟨I,I⟩)) ?_ .nil)
   exact .keepT [4,34] (.c2 I .nil) (.to #[true,true,true,true,true,true,true,false] (by decide +kernel) sA0)
  refine .via 3 #[true,true,true,true,true,false,false,false] ⟨[(4,.loc 0 0),(29,.d (Question.enc x7)),(32,.d (GMap.dat (λq:Question=>Value.agg (Question.vals q).toArray) (λl=>D.sl 3 (List.map Swap.enc l)) x9)),(33,.d (Question.enc t1))],[.box 34 [.d (.int 0),.d (.int 0),.d (.bool false),.d (.int 0)],.dead]⟩ ?_ λsA3=>?_
  ·refine .step 5 [6] (by decide +kernel) (.cons (i:=5) I (.p I (.mapGetD (ke:=(λq:Question=>Value.agg (Question.vals q).toArray)) (ve:=(λl=>D.sl 3 (List.map Swap.enc l))) I U95 KT34 I I (z:=([]:List Swap)) (.nil Zv42) (hkd:=.struct (Question.vals t1))) (.nil ⟨I,I⟩)) ?_ (.cons (i:=6) I (.store I I I I I I (.ofD I) C34 I (yd I) (.nil ⟨I,I⟩)) ?_ .nil))
   ·exact .keepT [4,29,34] (.c2 I<|.c I .nil) (.to #[true,true,true,true,true,true,false,false] (by decide +kernel) sA1)
   ·exact .keepT [4,32,33] (.c2 I<|.c I .nil) (.to #[true,true,true,true,true,false,true,false] (by decide +kernel) sA2)
  refine .via 3 #[true,true,true,true,false,false,true,false] ⟨[(3,.d (.ref (Question.enc t1))),(4,.loc 0 0),(32,.d (GMap.dat (λq:Question=>Value.agg (Question.vals q).toArray) (λl=>D.sl 3 (List.map Swap.enc l)) x9))],[.box 34 [.d (.int x7.e),.d (.int x7.f),.d (.bool x7.target.hold),.d (.int x7.target.index)],.dead]⟩ ?_ λsA4=>?_
  ·refine .step 4 [] (by decide +kernel) (.cons (i:=4) I (.p I (.ld Y34 I) (.nil ⟨I,I⟩)) ?_ .nil)
   exact .keepT [4,32,33] (.c2 I<|.c I .nil) (.to #[true,true,true,true,true,false,true,false] (by decide +kernel) sA2)
  refine .via 3 #[false,true,true,true,true,true,false,false] ⟨[(4,.loc 0 0),(8,.d (.ref (Question.enc x7))),(34,.d (.sl 3 (List.map Swap.enc ((x9.get? t1).getD []))))],[.box 34 [.d (.int 0),.d (.int 0),.d (.bool false),.d (.int 0)],.dead]⟩ ?_ λsA5=>?_
  ·refine .step 0 [] (by decide +kernel) (.cons (i:=0) I (.p I (.ld Y34 I) (.nil ⟨I,I⟩)) ?_ .nil)
   exact .keepT [4,29,34] (.c2 I<|.c I .nil) (.to #[true,true,true,true,true,true,false,false] (by decide +kernel) sA1)
  refine .via 4 #[true,true,true,true,false,false,false,false] ⟨[(3,.d (.ref (Question.enc t1))),(4,.loc 0 0),(29,.d (Question.enc x7)),(32,.d (GMap.dat (λq:Question=>Value.agg (Question.vals q).toArray) (λl=>D.sl 3 (List.map Swap.enc l)) x9))],[.box 34 [.d (.int 0),.d (.int 0),.d (.bool false),.d (.int 0)],.dead]⟩ ?_ λsA6=>?_
  ·refine .step 4 [6] (by decide +kernel) (.cons (i:=4) I (.p I (.ld Y34 I) (.nil ⟨I,I⟩)) ?_ (.cons (i:=6) I (.store I I I I I I (.ofD I) C34 I (yd I) (.nil ⟨I,I⟩)) ?_ .nil))
   ·exact .keepT [4,29,32,33] (.c4 I .nil) (.to #[true,true,true,true,true,false,false,false] (by decide +kernel) sA3)
   ·exact .keepT [3,4,32] (.c2 I<|.c I .nil) (.to #[true,true,true,true,false,false,true,false] (by decide +kernel) sA4)
  refine .via 4 #[true,true,true,false,true,false,false,false] ⟨[(4,.loc 0 0),(29,.d (Question.enc x7)),(30,.d (optD Layout.enc x1.1)),(31,.d (Question.enc x7)),(33,.d (Question.enc t1))],[.box 34 [.d (.int 0),.d (.int 0),.d (.bool false),.d (.int 0)],.dead]⟩ ?_ λsA7=>?_
  ·refine .step 3 [] (by decide +kernel) (.cons (i:=3) I (.p I (.callLe I (kC I) I (.cons (.ofEq (zcr hp_8)) .e1) (zaL _ _ _ _ q9)) (.nil ⟨I,I⟩)) ?_ .nil)
   exact .keepT [4,29,32,33] (.c4 I .nil) (.to #[true,true,true,true,true,false,false,false] (by decide +kernel) sA3)
  refine .via 4 #[false,true,true,true,true,false,false,false] ⟨[(4,.loc 0 0),(8,.d (.ref (Question.enc x7))),(32,.d (GMap.dat (λq:Question=>Value.agg (Question.vals q).toArray) (λl=>D.sl 3 (List.map Swap.enc l)) x9)),(33,.d (Question.enc t1))],[.box 34 [.d (.int 0),.d (.int 0),.d (.bool false),.d (.int 0)],.dead]⟩ ?_ λsA8=>?_
  ·refine .step 0 [5] (by decide +kernel) (.cons (i:=0) I (.p I (.ld Y34 I) (.nil ⟨I,I⟩)) ?_ (.cons (i:=5) I (.p I (.mapGetD (ke:=(λq:Question=>Value.agg (Question.vals q).toArray)) (ve:=(λl=>D.sl 3 (List.map Swap.enc l))) I U95 KT34 I I (z:=([]:List Swap)) (.nil Zv42) (hkd:=.struct (Question.vals t1))) (.nil ⟨I,I⟩)) ?_ .nil))
   ·exact .keepT [4,29,32,33] (.c4 I .nil) (.to #[true,true,true,true,true,false,false,false] (by decide +kernel) sA3)
   ·exact .keepT [4,8,34] (.c2 I<|.c I .nil) (.to #[false,true,true,true,true,true,false,false] (by decide +kernel) sA5)
  refine .via 5 #[true,true,true,false,false,false,false,false] ⟨[(3,.d (.ref (Question.enc t1))),(4,.loc 0 0),(29,.d (Question.enc x7)),(30,.d (optD Layout.enc x1.1)),(31,.d (Question.enc x7))],[.box 34 [.d (.int 0),.d (.int 0),.d (.bool false),.d (.int 0)],.dead]⟩ ?_ λsA9=>?_
  ·refine .step 3 [4] (by decide +kernel) (.cons (i:=3) I (.p I (.callLe I (kC I) I (.cons (.ofEq (zcr hp_8)) .e1) (zaL _ _ _ _ q9)) (.nil ⟨I,I⟩)) ?_ (.cons (i:=4) I (.p I (.ld Y34 I) (.nil ⟨I,I⟩)) ?_ .nil))
   ·exact .keepT [3,4,29,32] (.c4 I .nil) (.to #[true,true,true,true,false,false,false,false] (by decide +kernel) sA6)
   ·exact .keepT [4,29,30,31,33] (.c4 I<|.c I .nil) (.to #[true,true,true,false,true,false,false,false] (by decide +kernel) sA7)
  refine .via 5 #[true,true,false,false,true,false,false,false] ⟨[(4,.loc 0 0),(8,.d (.ref (Question.enc x7))),(29,.d (Question.enc x7)),(30,.d (optD Layout.enc x1.1)),(33,.d (Question.enc t1))],[.box 34 [.d (.int 0),.d (.int 0),.d (.bool false),.d (.int 0)],.dead]⟩ ?_ λsA10=>?_
  ·refine .step 2 [] (by decide +kernel) (.cons (i:=2) I (.p I (.ld Y34 I) (.nil ⟨I,I⟩)) ?_ .nil)
   exact .keepT [4,29,30,31,33] (.c4 I<|.c I .nil) (.to #[true,true,true,false,true,false,false,false] (by decide +kernel) sA7)
  refine .via 5 #[false,true,true,true,false,false,false,false] ⟨[(3,.d (.ref (Question.enc t1))),(4,.loc 0 0),(8,.d (.ref (Question.enc x7))),(32,.d (GMap.dat (λq:Question=>Value.agg (Question.vals q).toArray) (λl=>D.sl 3 (List.map Swap.enc l)) x9))],[.box 34 [.d (.int 0),.d (.int 0),.d (.bool false),.d (.int 0)],.dead]⟩ ?_ λsA11=>?_
  ·refine .step 0 [4] (by decide +kernel) (.cons (i:=0) I (.p I (.ld Y34 I) (.nil ⟨I,I⟩)) ?_ (.cons (i:=4) I (.p I (.ld Y34 I) (.nil ⟨I,I⟩)) ?_ .nil))
   ·exact .keepT [3,4,29,32] (.c4 I .nil) (.to #[true,true,true,true,false,false,false,false] (by decide +kernel) sA6)
   ·exact .keepT [4,8,32,33] (.c4 I .nil) (.to #[false,true,true,true,true,false,false,false] (by decide +kernel) sA8)
  refine .via 5 #[false,true,true,false,true,false,false,false] ⟨[(4,.loc 0 0),(8,.d (.ref (Question.enc x7))),(30,.d (optD Layout.enc x1.1)),(31,.d (Question.enc x7)),(33,.d (Question.enc t1))],[.box 34 [.d (.int 0),.d (.int 0),.d (.bool false),.d (.int 0)],.dead]⟩ ?_ λsA12=>?_
  ·refine .step 0 [3] (by decide +kernel) (.cons (i:=0) I (.p I (.ld Y34 I) (.nil ⟨I,I⟩)) ?_ (.cons (i:=3) I (.p I (.callLe I (kC I) I (.cons (.ofEq (zcr hp_8)) .e1) (zaL _ _ _ _ q9)) (.nil ⟨I,I⟩)) ?_ .nil))
   ·exact .keepT [4,29,30,31,33] (.c4 I<|.c I .nil) (.to #[true,true,true,false,true,false,false,false] (by decide +kernel) sA7)
   ·exact .keepT [4,8,32,33] (.c4 I .nil) (.to #[false,true,true,true,true,false,false,false] (by decide +kernel) sA8)
  refine .via 6 #[true,true,false,false,false,false,false,false] ⟨[(3,.d (.ref (Question.enc t1))),(4,.loc 0 0),(8,.d (.ref (Question.enc x7))),(29,.d (Question.enc x7)),(30,.d (optD Layout.enc x1.1))],[.box 34 [.d (.int 0),.d (.int 0),.d (.bool false),.d (.int 0)],.dead]⟩ ?_ λsA13=>?_
  ·refine .step 2 [4] (by decide +kernel) (.cons (i:=2) I (.p I (.ld Y34 I) (.nil ⟨I,I⟩)) ?_ (.cons (i:=4) I (.p I (.ld Y34 I) (.nil ⟨I,I⟩)) ?_ .nil))
   ·exact .keepT [3,4,29,30,31] (.c4 I<|.c I .nil) (.to #[true,true,true,false,false,false,false,false] (by decide +kernel) sA9)
   ·exact .keepT [4,8,29,30,33] (.c4 I<|.c I .nil) (.to #[true,true,false,false,true,false,false,false] (by decide +kernel) sA10)
  refine .via 6 #[false,true,true,false,false,false,false,false] ⟨[(3,.d (.ref (Question.enc t1))),(4,.loc 0 0),(8,.d (.ref (Question.enc x7))),(30,.d (optD Layout.enc x1.1)),(31,.d (Question.enc x7))],[.box 34 [.d (.int 0),.d (.int 0),.d (.bool false),.d (.int 0)],.dead]⟩ ?_ λsA14=>?_
  ·refine .step 0 [3,4] (by decide +kernel) (.cons (i:=0) I (.p I (.ld Y34 I) (.nil ⟨I,I⟩)) ?_ (.cons (i:=3) I (.p I (.callLe I (kC I) I (.cons (.ofEq (zcr hp_8)) .e1) (zaL _ _ _ _ q9)) (.nil ⟨I,I⟩)) ?_ (.cons (i:=4) I (.p I (.ld Y34 I) (.nil ⟨I,I⟩)) ?_ .nil)))
   ·exact .keepT [3,4,29,30,31] (.c4 I<|.c I .nil) (.to #[true,true,true,false,false,false,false,false] (by decide +kernel) sA9)
   ·exact .keepT [3,4,8,32] (.c4 I .nil) (.to #[false,true,true,true,false,false,false,false] (by decide +kernel) sA11)
   ·exact .keepT [4,8,30,31,33] (.c4 I<|.c I .nil) (.to #[false,true,true,false,true,false,false,false] (by decide +kernel) sA12)
  refine .via 6 #[false,true,false,false,true,false,false,false] ⟨[(4,.loc 0 0),(8,.d (.ref (Question.enc x7))),(30,.d (optD Layout.enc x1.1)),(33,.d (Question.enc t1))],[.box 34 [.d (.int 0),.d (.int 0),.d (.bool false),.d (.int 0)],.dead]⟩ ?_ λsA15=>?_
  ·refine .step 0 [2] (by decide +kernel) (.cons (i:=0) I (.p I (.ld Y34 I) (.nil ⟨I,I⟩)) ?_ (.cons (i:=2) I (.p I (.ld Y34 I) (.nil ⟨I,I⟩)) ?_ .nil))
   ·exact .keepT [4,8,29,30,33] (.c4 I<|.c I .nil) (.to #[true,true,false,false,true,false,false,false] (by decide +kernel) sA10)
   ·exact .keepT [4,8,30,31,33] (.c4 I<|.c I .nil) (.to #[false,true,true,false,true,false,false,false] (by decide +kernel) sA12)
  refine .step 0 [2,4] (by decide +kernel) (.cons (i:=0) I (.p I (.ld Y34 I) (.nil ⟨I,I⟩)) ?_ (.cons (i:=2) I (.p I (.ld Y34 I) (.nil ⟨I,I⟩)) ?_ (.cons (i:=4) I (.p I (.ld Y34 I) (.nil ⟨I,I⟩)) ?_ .nil)))
  ·exact .keepT [3,4,8,29,30] (.c4 I<|.c I .nil) (.to #[true,true,false,false,false,false,false,false] (by decide +kernel) sA13)
  ·exact .keepT [3,4,8,30,31] (.c4 I<|.c I .nil) (.to #[false,true,true,false,false,false,false,false] (by decide +kernel) sA14)
  ·exact .keepT [4,8,30,33] (.c4 I .nil) (.to #[false,true,false,false,true,false,false,false] (by decide +kernel) sA15)
theorem zfW (n t0 t1 r) (h:zbf n t0 t1=some r):Pure pg 94 [.ref (Layout.enc t0),Swap.enc t1] (.bool r):=by
 refine Pure.ot Tryz.func94 I Tryz.ntmps94 I λA w=>.sA 2 I<|.seq<|.draw 41 Hm (by kernel_rfl) (by kernel_rfl)<|.A 4 I<|.jA 9 (decide (t1.sort<(t0.m.sorts.length:Int))) I (λb1=>?_) ?_
 ·refine .A 3 I<|.q I (.nilCheck_ref I I)<|.q I (.fa I (zc7 _))<|.A 2 I<|.q I (.len I U22 I)<|.A 1 I<|.nil I
 refine .A 1 I<|.jA 3 (decide (0≤t1.a)) I (λb2=>?_) ?_
 ·refine .A 3 I<|.nil I
 refine .A 1 I<|.jA 5 (decide (t1.a<t1.b)) I (λb3=>?_) ?_
 ·refine .A 2 I<|.q I (.fa I (G41_2 _))<|.A 2 I<|.nil I
 refine .A 1 I<|gK h λc5 h=>.jA 12 (decide (t1.b<((idx t0.m.sorts t1.sort).getD default))) I (λb4=>?_) ?_
 ·refine .q I (.fa I (G41_2 _))<|.A 2 I<|.q I (.nilCheck_ref I I)<|.q I (.fa I (zc7 _))<|.A 4 I<|.q I (.ix I U22 S3 (someD (impT c5 b4)))<|.A 2 I<|.nil I
 refine .A 1 I<|.nil<|.nil<|.K [4] I<|.ret (rO h I)
theorem zea (n t0 t1 r) (h:zcX n t0 t1=some r):Pure pg 56 [Model.enc t0,Swap.enc t1] (.tup [optD Swapping.enc r.1,.bool r.2]):=by
 refine Pure.ot Tryz.func56 I Tryz.ntmps56 I λA w=>.sA 4 I<|.S 1 I<|.Z h I (zcx _ _) λx1 h=>.A 1 I<|.p I (.extract I I I)<|.p I (.extract I I I)<|.A 2 I<|.nil<|.seq<|.seq<|.plain 8 I<|.A 3 I<|gK h λc3 h=>gK h λc4 h=>.jO 4 (!((zbf n ((x1.1).getD default) t1).getD default)) I (λb2=>?_) ?_
 ·refine .A 2 I<|.q I (.callLe I (kC I) I (.cons (.ofEq (zcr (someD (impF c3 b2)))) .e1) (zfW _ _ _ _ (someD (impF c4 b2))))<|.A 1 I<|.nil I
 refine .nil<|.nil<|.K [3,6,20] I<|.condS I h (λh=>?_) λh=>?_
 ·refine .sA 2 I<|.ret ?_
  cases h
  exact zbI I I (.d _) (.d _)
 ·refine .skip<|.S 2 I<|bK h λp_5 hp_5 h=>.eqD 21 I (zcr hp_5)<|.p I (.castD (Swapping.enc (⟨p_5,t1⟩:Swapping)) I (.build I Pl107 (.agg Zc107 (ds':=[_,_,_,_]) (.e (.e (.e .e1)))) I I))<|.A 3 I<|.nil<|.ret ?_
  cases h
  exact zbI I I (.d _) (.d _)
theorem zix (n t0 t1 t2 r) (h:zdT n t0 t1 t2=some r):Pure pg 27 [Model.enc t0,Swap.enc t1,eA t2] (.tup [eA r.1,.bool r.2]):=by
 refine Pure.ot Tryz.func27 I Tryz.ntmps27 I λA w=>.S 2 I<|.p I (.nilS 1 (α:=Int) D.int I)<|.A 1 I<|.nil<|.S 2 I<|.Z h I (zea _ _ _) λx1 h=>.A 1 I<|.p I (.extract I I I)<|.p I (.extract I I I)<|.A 2 I<|.nil<|.seq<|.seq<|.plain 15 I<|.A 3 I<|gK h λc3 h=>.jO 11 ((t2.length:Int) != (((((x1.1).getD default).layout).strict).length:Int)) I (λb2=>?_) ?_
 ·refine .A 1 I<|.q I (.len I U22 I)<|.A 1 I<|.q I (.nilCheck_opt I I (zcr (someD (impF c3 b2))))<|.q I (.fa I (zcF _))<|.A 1 I<|.q I (.nilCheck_ref I I)<|.q I (.fa I (zkV _))<|.A 1 I<|.q I (.len I U111 I)<|.A 1 I<|.nil I
 refine .nil<|.nil<|.K [2,8,33] I<|.condS I h (λh=>?_) λh=>?_
 ·refine .sr<|.p I (.nilS 1 (α:=Int) D.int I)<|.A 1 I<|.nil<|.ret ?_
  cases h
  exact zbI I I (.d _) (.d _)
 ·refine .skip<|.S 1 I<|.p I (.len I U22 I)<|bK h λx4 q4 h=>.makeVec (enc:=D.int) (z:=(0:Int)) I I I I E22 I I I (.val Zv3) q4<|.A 1 I<|.nil<|.seq<|.S 1 I<|.p I (.len I U22 I)<|.A 1 I<|.nil<|.block<|.L [8,37,38] h (λv=>[(10,.vec 0 (List.length v.1)),(39,.d (.int v.2))]) (λv=>[(0,.vec 3 1 (List.map D.int v.1))]) I λ_ ⟨b0_21,x22⟩ h=>.sA 1 I<|.K [8,10,37,38,39,40] I<|.seq<|.condS I h (λh=>?_) λh=>?_
  ·refine .skip<|.seq<|.block<|.S 1 I<|.X h I λx24 h=>.A 3 I<|.nil<|.region<|.A 3 I<|bK h λp_25 hp_25 h=>.p I (.nilCheck_opt I I (zcr hp_25))<|.p I (.fa I (zcF _))<|.A 1 I<|.p I (.nilCheck_ref I I)<|.p I (.fa I (zkV _))<|.A 2 I<|bK h λp_26 hp_26 h=>bK h λx27 q27 h=>.p I (.callLe I (kC I) I (.cons (.ofEq (zcr hp_26)) (.e .e1)) (zaX _ _ _ _ _ q27))<|.A 1 I<|bK h λx28 q28 h=>.p I (.idxV I I I I I U22 S3 q28)<|bK h λb0_29 hb0_29 h=>.storeEl (enc:=D.int) I I I I I I I I I C3 hb0_29<|.relen 10 I (zfe hb0_29)<|.relen 44 I (zfe hb0_29)<|.nil<|.K [8,10,37,38,39] I<|.rA 2 I (ndE h I)
  ·refine .exit<|.sA 3 I<|.ret ?_
   cases h
   exact zbI I I (.vec I (by simp)) (.d _)
theorem zjj (n t0 t1 t2 r) (h:zh1 n t0 t1 t2=some r):Pure pg 34 [Model.enc t0,Swap.enc t1,.int t2] (.tup [.int r.1,.bool r.2]):=by
 refine Pure.ot Tryz.func34 I Tryz.ntmps34 I λA w=>.sA 4 I<|.S 2 I<|.Z h I (zea _ _ _) λx1 h=>.A 1 I<|.p I (.extract I I I)<|.p I (.extract I I I)<|.A 2 I<|.nil<|.seq<|.seq<|.plain 18 I<|.A 3 I<|.jO 2 (decide (t2<0)) I (λb2=>?_) ?_
 ·refine .A 2 I<|.nil I
 refine .A 1 I<|gK h λc4 h=>.jO 10 (decide ((((((x1.1).getD default).layout).strict).length:Int)≤t2)) I (λb3=>?_) ?_
 ·refine .A 2 I<|.q I (.nilCheck_opt I I (zcr (someD (impF c4 b3))))<|.q I (.fa I (zcF _))<|.A 1 I<|.q I (.nilCheck_ref I I)<|.q I (.fa I (zkV _))<|.A 1 I<|.q I (.len I U111 I)<|.A 1 I<|.nil I
 refine .nil<|.nil<|.K [2,8,33] I<|.condS I h (λh=>?_) λh=>?_
 ·refine .sA 2 I<|.ret ?_
  cases h
  exact zbI I I (.d _) (.d _)
 ·refine .skip<|.S 2 I<|bK h λp_5 hp_5 h=>.p I (.nilCheck_opt I I (zcr hp_5))<|.p I (.fa I (zcF _))<|.A 1 I<|.p I (.nilCheck_ref I I)<|.p I (.fa I (zkV _))<|.A 2 I<|bK h λp_6 hp_6 h=>bK h λx7 q7 h=>.p I (.callLe I (kC I) I (.cons (.ofEq (zcr hp_6)) (.e .e1)) (zaX _ _ _ _ _ q7))<|.A 2 I<|.nil<|.ret ?_
  cases h
  exact zbI I I (.d _) (.d _)
theorem zfz (n t0 r) (h:zal n t0=some r):Pure pg 21 [Model.enc t0] (.sl 3 (List.map Swap.enc r)):=by
 refine Pure.ot Tryz.func21 I Tryz.ntmps21 I λA w=>.S 1 I<|.p I (.nilS 3 (α:=Swap) Swap.enc I)<|.nil<|.S 1 I<|.Z h I (zcx _ _) λx1 h=>.A 1 I<|.p I (.extract I I I)<|.p I (.extract I I I)<|.A 2 I<|.nil<|.seq<|.sA 2 I<|.condS I h (λh=>?_) λh=>?_
 ·refine .sr<|.p I (.nilS 3 (α:=Swap) Swap.enc I)<|.nil<|.ret ?_
  cases h
  exact zb9 I (.d _)
 ·refine .skip<|.S 1 I<|.nilVec 5 3 41 I<|.nil<|.seq<|.S 1 I<|bK h λp_2 hp_2 h=>bK h λx3 q3 h=>.p I (.callLe I (kC I) I (.cons (.ofEq (zcr hp_2)) .nil) (zcw _ _ _ q3))<|.p I (.len I U104 I)<|.A 1 I<|.nil<|.K [5,16,17,18] I<|.block<|.L [16,17] h (λv=>[(5,.vec 0 (List.length v.1)),(18,.d (.int v.2))]) (λv=>[(0,.vec 41 3 (List.map Swap.enc v.1))]) I λ_ ⟨b0_12,x13⟩ h=>.sA 1 I<|.K [5,16,17,18,19] I<|.seq<|.condS I h (λh=>?_) λh=>?_
  ·refine .skip<|.seq<|.block<|.sr<|.X h I λx15 h=>.A 2 I<|.nil<|.region<|.A 2 I<|.p I (.nilCheck_ref I I)<|.p I (.fa I (zeb _))<|.A 1 I<|.p I (.buildSl [_] I I E42 I (λ_=>I) I (enc:=Swap.enc))<|bK h λx16 q16 h=>.app I I I I I I I I E42 I (λ_=>I) q16<|.A 1 I<|.nil<|.rA 2 I (ndE h I)
  ·refine .exit<|.sA 2 I<|.ret ?_
   cases h
   exact zb9 I (.vec I (by simp))
theorem zfy (n t0 t1 r) (h:zag n t0 t1=some r):Pure pg 24 [Model.enc t0,Question.enc t1] (eP r):=by
 refine Pure.ot Tryz.func24 I Tryz.ntmps24 I λA w=>.S 2 I<|.p I (.nilS 4 (α:=Question) Question.enc I)<|.nil<|.S 1 I<|.Z h I (zcx _ _) λx1 h=>.A 1 I<|.p I (.extract I I I)<|.p I (.extract I I I)<|.A 2 I<|.nil<|.seq<|.seq<|.plain 8 I<|.A 3 I<|gK h λc3 h=>gK h λc4 h=>.jO 4 (!((zJ n ((x1.1).getD default) t1).getD default)) I (λb2=>?_) ?_
 ·refine .A 2 I<|.q I (.callLe I (kC I) I (.cons (.ofEq (zcr (someD (impF c3 b2)))) .e1) (zbA _ _ _ _ (someD (impF c4 b2))))<|.A 1 I<|.nil I
 refine .nil<|.nil<|.K [3,5,19] I<|.condS I h (λh=>?_) λh=>?_
 ·refine .sr<|.p I (.nilS 4 (α:=Question) Question.enc I)<|.nil<|.ret ?_
  cases h
  exact zb9 I (.d _)
 ·refine .skip<|.S 2 I<|bK h λp_5 hp_5 h=>bK h λx6 q6 h=>.p I (.callLe I (kC I) I (.cons (.ofEq (zcr hp_5)) .e1) (zaL _ _ _ _ q6))<|.p I (.call I (kC I) I (zaD n x6))<|.Z h I (zlD _ _) λx7 h=>.A 1 I<|.nil<|.ret ?_
  cases h
  exact zb9 I (.d _)
theorem zbv (n t0 t1 r) (h:zb n t0 t1=some r):Pure pg 20 [.sl 3 (List.map Swap.enc t0),.sl 3 (List.map Swap.enc t1)] (.bool r):=by
 refine Pure.ot Tryz.func20 I Tryz.ntmps20 I λA w=>.sA 1 I<|.seq<|.S 1 I<|.p I (.len I U42 I)<|.A 1 I<|.p I (.len I U42 I)<|.A 1 I<|.nil<|.condS I h (λh=>?_) λh=>?_
 ·refine .sA 1 I<|.ret (rO h I)
 ·refine .skip<|.seq<|.S 1 I<|.p I (.len I U42 I)<|.A 1 I<|.nil<|.block<|.L [0,1,12] h (λv=>[(13,.d (.int v))]) (λv=>[]) I λ_ x7 h=>.sA 1 I<|.seq<|.condS I h (λh=>?_) λh=>?_
  ·refine .skip<|.seq<|.block<|.sA 2 I<|.seq<|.draw 9 Hm (by kernel_rfl) (by kernel_rfl)<|.A 2 I<|.X h I λx9 h=>.A 3 I<|.X h I λx10 h=>.A 1 I<|.p I (.sneq I SE41 I I (xs:=Swap.vals _) (ys:=Swap.vals _) I I I I (SQ41 _ _))<|.nil<|.nil<|.condS I h (λh=>?_) λh=>?_
   ·refine .sA 1 I<|.ret (rO h I)
   ·refine .skip<|.rA 2 I (ndE h I)
  ·refine .exit<|.sA 1 I<|.ret (rO h I)
theorem ziy (n t0 t1 r) (h:zb7 n t0 t1=some r):Pure pg 14 [Model.enc t0,Question.enc t1] (.bool r):=by
 refine Pure.ot Tryz.func14 I Tryz.ntmps14 I λA w=>.sA 3 I<|.S 1 I<|.Z h I (zcx _ _) λx1 h=>.A 1 I<|.p I (.extract I I I)<|.p I (.extract I I I)<|.A 2 I<|.nil<|.seq<|.plain 6 I<|.A 2 I<|gK h λc3 h=>gK h λc4 h=>.jA 3 (((zJ n ((x1.1).getD default) t1).getD default)) I (λb2=>?_) ?_
 ·refine .A 2 I<|.q I (.callLe I (kC I) I (.cons (.ofEq (zcr (someD (impT c3 b2)))) .e1) (zbA _ _ _ _ (someD (impT c4 b2))))<|.nil I
 refine .nil<|.A 1 I<|.nil<|.K [4] I<|.ret (rO h I)
theorem zjk (n t0 t1 r) (h:zcW n t0 t1=some r):Pure pg 11 [Question.enc t0,Question.enc t1] (.bool r):=by
 refine Pure.ot Tryz.func11 I Tryz.ntmps11 I λA w=>.sA 3 I<|.S 2 I<|.Z h I (zdl _ _ _) λx1 h=>.A 2 I<|.nil<|.ret (rO h I)
theorem zfx (n t0 t1 r) (h:zb6 n t0 t1=some r):Pure pg 18 [Model.enc t0,Swap.enc t1] (.bool r):=by
 refine Pure.ot Tryz.func18 I Tryz.ntmps18 I λA w=>.sA 3 I<|.S 2 I<|.Z h I (zea _ _ _) λx1 h=>.A 1 I<|.p I (.extract I I I)<|.p I (.extract I I I)<|.A 2 I<|.nil<|.seq<|.plain 5 I<|.A 2 I<|gK h λc3 h=>gK h λc4 h=>.jA 2 (((zc n ((x1.1).getD default)).getD default)) I (λb2=>?_) ?_
 ·refine .A 1 I<|.q I (.callLe I (kC I) I (.cons (.ofEq (zcr (someD (impT c3 b2)))) .nil) (zc1 _ _ _ (someD (impT c4 b2))))<|.nil I
 refine .nil<|.A 1 I<|.nil<|.K [4] I<|.ret (rO h I)
theorem zkB (n r) (h:zhh n=some r):Pure pg 10 [] (.bool r):=by
 refine Pure.ot Tryz.func10 I Tryz.ntmps10 I λA w=>.sA 1 I<|.sr<|.Z h I (zi9 _ ) λx1 h=>.allocStore I I I I I I I I (by simp) I I Z30<|.nil<|.sr<|.p I (.castD (Target.enc (⟨false,3⟩:Target)) I (.build I Pl32 (.agg Zc32 (ds':=[_,_]) (.e .e1)) I I))<|.p I (.castD (Question.enc (⟨1,1,(⟨false,3⟩:Target)⟩:Question)) I (.build I Pl34 (.agg Zc34 (ds':=[_,_,_,_]) (.e (.e (.e .e1)))) I I))<|.allocStore I I I I I I I I (by simp) I I Z34<|.nil<|.S 2 I<|.Z h I (zc0 _ _ _) λx2 h=>.A 1 I<|.p I (.extract I I I)<|.p I (.extract I I I)<|.allocStore I I I I I I I I (by simp) I I Z34<|.A 1 I<|.nil<|.K [1,2,3,4] I<|.S 1 I<|.p I (.castD (Swap.enc (⟨0,0,2⟩:Swap)) I (.build I Pl41 (.agg Zc41 (ds':=[_,_,_]) (.e (.e .e1))) I I))<|.p I (.buildSl [_,_,_] I I E22 I (λ_=>I) I (enc:=D.int))<|.Z h I (zix _ _ _ _) λx3 h=>.A 1 I<|.p I (.extract I I I)<|.p I (.extract I I I)<|.A 2 I<|.nil<|.S 1 I<|.p I (.castD (Swap.enc (⟨0,0,2⟩:Swap)) I (.build I Pl41 (.agg Zc41 (ds':=[_,_,_]) (.e (.e .e1))) I I))<|.Z h I (zjj _ _ _ _) λx4 h=>.A 1 I<|.p I (.extract I I I)<|.p I (.extract I I I)<|.A 2 I<|.nil ?_
 refine .K [1,2,3,4,5,6,7,8] I<|.seq<|.draw 56 Hm (by kernel_rfl) (by kernel_rfl)<|.A 1 I<|.Z h I (zfz _ _) λx5 h=>.p I (.len I U42 I)<|.A 2 I<|gK h λc7 h=>.jA 5 ((((zag n x1 (⟨1,1,(⟨false,3⟩:Target)⟩:Question)).getD default).length:Int)==3) I (λb6=>?_) ?_
 ·refine .A 2 I<|.q I (.call I (kC I) I (zfy _ _ _ _ (someD (impT c7 b6))))<|.q I (.len I U49 I)<|.A 1 I<|.nil I
 refine .A 1 I<|.jA 4 (decide ((x2.1:Question)=(⟨0,0,(⟨false,1⟩:Target)⟩:Question))) I (λb8=>?_) ?_
 ·refine .A 1 I<|.q I (.castD (Target.enc (⟨false,1⟩:Target)) I (.build I Pl32 (.agg Zc32 (ds':=[_,_]) (.e .e1)) I I))<|.q I (.castD (Question.enc (⟨0,0,(⟨false,1⟩:Target)⟩:Question)) I (.build I Pl34 (.agg Zc34 (ds':=[_,_,_,_]) (.e (.e (.e .e1)))) I I))<|.q I (.seql I SE34 I I (xs:=Question.vals _) (ys:=Question.vals _) I I I I (SQ34 _ _))<|.nil I
 refine .A 1 I<|gK h λc10 h=>.jA 4 (((zb n x2.2 [(⟨0,0,1⟩:Swap)]).getD default)) I (λb9=>?_) ?_
 ·refine .A 1 I<|.q I (.castD (Swap.enc (⟨0,0,1⟩:Swap)) I (.build I Pl41 (.agg Zc41 (ds':=[_,_,_]) (.e (.e .e1))) I I))<|.q I (.buildSl [_] I I E42 I (λ_=>I) I (enc:=Swap.enc))<|.q I (.call I (kC I) I (zbv _ _ _ _ (someD (impT c10 b9))))<|.nil I
 refine .A 1 I<|.jA 1 (x3.2) I (λb11=>?_) ?_
 ·refine .A 1 I<|.nil I
 refine .A 1 I<|gK h λc13 h=>.jA 3 (((zp n x3.1 [0,0,1]).getD default)) I (λb12=>?_) ?_
 ·refine .A 1 I<|.q I (.buildSl [_,_,_] I I E22 I (λ_=>I) I (enc:=D.int))<|.q I (.call I (kC I) I (zdo _ _ _ _ (someD (impT c13 b12))))<|.nil I
 refine .A 1 I<|.jA 1 (x4.2) I (λb14=>?_) ?_
 ·refine .A 1 I<|.nil I
 refine .A 1 I<|.jA 2 (x4.1==2) I (λb15=>?_) ?_
 ·refine .A 2 I<|.nil I
 refine .A 1 I<|gK h λc17 h=>.jA 3 (((zb7 n x1 (⟨1,1,(⟨false,3⟩:Target)⟩:Question)).getD default)) I (λb16=>?_) ?_
 ·refine .A 2 I<|.q I (.call I (kC I) I (ziy _ _ _ _ (someD (impT c17 b16))))<|.nil I
 refine .A 1 I<|gK h λc19 h=>.jA 3 (((zcW n x2.1 (⟨1,1,(⟨false,3⟩:Target)⟩:Question)).getD default)) I (λb18=>?_) ?_
 ·refine .A 2 I<|.q I (.call I (kC I) I (zjk _ _ _ _ (someD (impT c19 b18))))<|.nil I
 refine .A 1 I<|gK h λc21 h=>gK h λc22 h=>.jA 5 (((zb6 n x1 ((idx x2.2 0).getD default)).getD default)) I (λb20=>?_) ?_
 ·refine .A 2 I<|.q I (.ix I U42 S41 (someD (impT c21 b20)))<|.A 1 I<|.q I (.call I (kC I) I (zfx _ _ _ _ (someD (impT c22 b20))))<|.nil I
 refine .A 1 I<|.nil<|.nil<|.K [0] I<|.ret (rO h I)
theorem zhO (n t0 t1 r) (h:zcf n t0 t1=some r):Pure pg 12 [Question.enc t0,Question.enc t1] (.bool r):=by
 refine Pure.ot Tryz.func12 I Tryz.ntmps12 I λA w=>.sA 3 I<|.seq<|.block<|.sr<|.p I (.fa I (G34_0 _))<|.A 1 I<|.p I (.fa I (G34_0 _))<|.A 3 I<|.nil<|.condS I h (λh=>?_) λh=>?_
 ·refine .sr<|.p I (.fa I (G34_0 _))<|.A 1 I<|.p I (.fa I (G34_0 _))<|.A 3 I<|.nil<|.ret (rO h I)
 ·refine .sr<|.p I (.fa I (G34_1 _))<|.A 1 I<|.p I (.fa I (G34_1 _))<|.A 3 I<|.nil<|.condS I h (λh=>?_) λh=>?_
  ·refine .sr<|.p I (.fa I (G34_1 _))<|.A 1 I<|.p I (.fa I (G34_1 _))<|.A 3 I<|.nil<|.K [4] I<|.ret (rO h I)
  ·refine .sr<|.p I (.fa I (G34_2 _))<|.p I (.fa I (G32_0 _))<|.A 1 I<|.p I (.fa I (G34_2 _))<|.p I (.fa I (G32_0 _))<|.A 1 I<|.p I (.bne I U4 I I)<|.A 1 I<|.nil<|.K [2,3,27] I<|.condS I h (λh=>?_) λh=>?_
   ·refine .sr<|.p I (.fa I (G34_2 _))<|.p I (.fa I (G32_0 _))<|.A 3 I<|.nil<|.ret (rO h I)
   ·refine .skip<|.sr<|.p I (.fa I (G34_2 _))<|.p I (.fa I (G32_1 _))<|.A 1 I<|.p I (.fa I (G34_2 _))<|.p I (.fa I (G32_1 _))<|.A 3 I<|.nil<|.ret (rO h I)
theorem zmG (n t0 t1 r) (h:zcK n t0 t1=some r):Pure pg 86 [eA t0,eB t1] (.bool r):=by
 refine Pure.ot Tryz.func86 I Tryz.ntmps86 I λA w=>.sA 1 I<|.seq<|.sA 1 I<|.block<|.L [0,1] h (λv=>[(5,.d (.int v))]) (λv=>[]) I λ_ x9 h=>.seq<|.S 2 I<|.p I (.len I U23 I)<|.A 1 I<|.nil<|.K [0,1,5,9] I<|.condS I h (λh=>?_) λh=>?_
 ·refine .skip<|.seq<|.block<|.seq<|.plain 16 I<|.A 2 I<|.X h I λx11 h=>.p I (.fa I (zjw _))<|.A 1 I<|.p I (.len_str I U9 I)<|.A 2 I<|gK h λc13 h=>.jO 7 (decide (12<((((idx t1 x9).getD default).columns).length:Int))) I (λb12=>?_) ?_
  ·refine .A 2 I<|.q I (.ix I U23 S118 (someD (impF c13 b12)))<|.q I (.fa I (zbF _))<|.A 1 I<|.q I (.len I U22 I)<|.A 1 I<|.nil I
  refine .nil<|.nil<|.K [0,1,5,27] I<|.condS I h (λh=>?_) λh=>?_
  ·refine .sA 1 I<|.ret (rO h I)
  ·refine .skip<|.rA 3 I (ndE h I)
 ·refine .exit<|.seq<|.plain 8 I<|.A 1 I<|.p I (.len I U22 I)<|.A 2 I<|.jA 3 (decide ((t1.length:Int)≤20)) I (λb14=>?_) ?_
  ·refine .A 1 I<|.q I (.len I U23 I)<|.A 1 I<|.nil I
  refine .nil<|.A 1 I<|.nil<|.ret (rO h I)
theorem zje (n t0 r) (h:zt n t0=some r):Pure pg 47 [Model.enc t0] (.bool r):=by
 refine Pure.ot Tryz.func47 I Tryz.ntmps47 I λA w=>.sA 2 I<|.seq<|.seq<|.plain 48 I<|.A 2 I<|.p I (.len I U22 I)<|.A 2 I<|.jO 4 (decide (6<(t0.tables.length:Int))) I (λb1=>?_) ?_
 ·refine .A 2 I<|.q I (.len I U23 I)<|.A 1 I<|.nil I
 refine .A 1 I<|.jO 4 (decide (20<(t0.families.length:Int))) I (λb2=>?_) ?_
 ·refine .A 2 I<|.q I (.len I U24 I)<|.A 1 I<|.nil I
 refine .A 1 I<|.jO 4 (decide (60<(t0.constraints.length:Int))) I (λb3=>?_) ?_
 ·refine .A 2 I<|.q I (.len I U25 I)<|.A 1 I<|.nil I
 refine .A 1 I<|.jO 4 (decide (8<(t0.operations.length:Int))) I (λb4=>?_) ?_
 ·refine .A 2 I<|.q I (.len I U26 I)<|.A 1 I<|.nil I
 refine .A 1 I<|.jO 4 (decide (30<(t0.actions.length:Int))) I (λb5=>?_) ?_
 ·refine .A 2 I<|.q I (.len I U27 I)<|.A 1 I<|.nil I
 refine .A 1 I<|.jO 4 (decide (12<(t0.hides.length:Int))) I (λb6=>?_) ?_
 ·refine .A 2 I<|.q I (.len I U28 I)<|.A 1 I<|.nil I
 refine .A 1 I<|gK h λc8 h=>.jO 6 (!((zcK n t0.sorts t0.tables).getD default)) I (λb7=>?_) ?_
 ·refine .A 4 I<|.q I (.call I (kC I) I (zmG _ _ _ _ (someD (impF c8 b7))))<|.A 1 I<|.nil I
 refine .nil<|.nil<|.K [1,56] I<|.condS I h (λh=>?_) λh=>?_
 ·refine .sA 1 I<|.ret (rO h I)
 ·refine .skip<|.seq<|.sA 1 I<|.block<|.L [1] h (λv=>[(3,.d (.int v))]) (λv=>[]) I λ_ x13 h=>.seq<|.S 3 I<|.p I (.len I U24 I)<|.A 1 I<|.nil<|.K [1,3,61] I<|.condS I h (λh=>?_) λh=>?_
  ·refine .skip<|.seq<|.block<|.S 3 I<|.X h I λx15 h=>.A 1 I<|.p I (.len_str I U9 I)<|.A 1 I<|.nil<|.condS I h (λh=>?_) λh=>?_
   ·refine .sA 1 I<|.ret (rO h I)
   ·refine .skip<|.rA 3 I (ndE h I)
  ·refine .exit<|.seq<|.sA 1 I<|.block<|.L [1] h (λv=>[(4,.d (.int v))]) (λv=>[]) I λ_ x20 h=>.seq<|.S 3 I<|.p I (.len I U25 I)<|.A 1 I<|.nil<|.K [1,4,75] I<|.condS I h (λh=>?_) λh=>?_
   ·refine .skip<|.seq<|.block<|.S 3 I<|.X h I λx22 h=>.p I (.fa I (zep _))<|.p I (.fa I (G72_0 _))<|.A 1 I<|.p I (.len I U70 I)<|.A 1 I<|.nil<|.condS I h (λh=>?_) λh=>?_
    ·refine .sA 1 I<|.ret (rO h I)
    ·refine .skip<|.rA 3 I (ndE h I)
   ·refine .exit<|.seq<|.sA 1 I<|.block<|.L [1] h (λv=>[(5,.d (.int v))]) (λv=>[]) I λ_ x31 h=>.seq<|.S 3 I<|.p I (.len I U26 I)<|.A 1 I<|.nil<|.K [1,5,91] I<|.condS I h (λh=>?_) λh=>?_
    ·refine .skip<|.seq<|.block<|.seq<|.plain 18 I<|.A 3 I<|.X h I λx33 h=>.p I (.fa I (zoA _))<|.A 1 I<|.p I (.len_str I U9 I)<|.A 2 I<|gK h λc35 h=>.jO 8 (decide (6<((((idx t0.operations x31).getD default).sorts).length:Int))) I (λb34=>?_) ?_
     ·refine .A 3 I<|.q I (.ix I U26 S133 (someD (impF c35 b34)))<|.q I (.fa I (zfh _))<|.A 1 I<|.q I (.len I U22 I)<|.A 1 I<|.nil I
     refine .nil<|.nil<|.K [1,5,111] I<|.condS I h (λh=>?_) λh=>?_
     ·refine .sA 1 I<|.ret (rO h I)
     ·refine .skip<|.rA 3 I (ndE h I)
    ·refine .exit<|.seq<|.sA 1 I<|.block<|.L [1] h (λv=>[(6,.d (.int v))]) (λv=>[]) I λ_ x62 h=>.seq<|.S 3 I<|.p I (.len I U27 I)<|.A 1 I<|.nil<|.K [1,6,116] I<|.condS I h (λh=>?_) λh=>?_
     ·refine .skip<|.seq<|.block<|.S 3 I<|.X h I λx64 h=>.p I (.fa I (G65_2 _))<|.A 1 I<|.allocStore I I I I I I I I (by simp) I I Z63<|.nil<|.seq<|.seq<|.plain 26 I<|.A 3 I<|.X h I λx65 h=>.p I (.fa I (G65_1 _))<|.A 1 I<|.p I (.len I U22 I)<|.A 2 I<|.jO 4 (decide (20<(x64.effect.delta.length:Int))) I (λb66=>?_) ?_
      ·refine .q I (.fa I (G63_0 _))<|.A 1 I<|.q I (.len I U59 I)<|.A 1 I<|.nil I
      refine .A 1 I<|.jO 4 (decide (10<(x64.effect.hold.length:Int))) I (λb67=>?_) ?_
      ·refine .q I (.fa I (G63_1 _))<|.A 1 I<|.q I (.len I U60 I)<|.A 1 I<|.nil I
      refine .A 1 I<|.jO 4 (decide (40<(x64.effect.updates.length:Int))) I (λb68=>?_) ?_
      ·refine .q I (.fa I (G63_2 _))<|.A 1 I<|.q I (.len I U61 I)<|.A 1 I<|.nil I
      refine .nil<|.nil<|.K [1,6,7,150] I<|.condS I h (λh=>?_) λh=>?_
      ·refine .sA 1 I<|.ret (rO h I)
      ·refine .skip<|.sA 1 I<|.block<|.L [1,6,7] h (λv=>[(8,.d (.int v))]) (λv=>[]) I λ_ x73 h=>.seq<|.S 1 I<|.p I (.fa I (G63_1 _))<|.A 1 I<|.p I (.len I U60 I)<|.A 1 I<|.nil<|.K [1,6,7,8,155] I<|.condS I h (λh=>?_) λh=>?_
       ·refine .skip<|.seq<|.block<|.sr<|.p I (.fa I (G63_1 _))<|.A 2 I<|.X h I λx75 h=>.p I (.fa I (G72_0 _))<|.A 1 I<|.p I (.len I U70 I)<|.A 1 I<|.nil<|.condS I h (λh=>?_) λh=>?_
        ·refine .sA 1 I<|.ret (rO h I)
        ·refine .skip<|.rA 3 I (ndE h I)
       ·refine .exit<|.rA 3 I (ndE h I)
     ·refine .exit<|.sA 1 I<|.ret (rO h I)
theorem zg7 (n t0 r) (h:za9 n t0=some r):Pure pg 96 [eA t0] (.bool r):=by
 refine Pure.ot Tryz.func96 I Tryz.ntmps96 I λA w=>.sA 1 I<|.seq<|.sA 1 I<|.block<|.L [0] h (λv=>[(3,.d (.int v))]) (λv=>[]) I λ_ x9 h=>.seq<|.S 2 I<|.p I (.len I U22 I)<|.A 1 I<|.nil<|.K [0,3,7] I<|.condS I h (λh=>?_) λh=>?_
 ·refine .skip<|.seq<|.block<|.seq<|.plain 12 I<|.A 2 I<|.X h I λx11 h=>.A 3 I<|gK h λc13 h=>.jO 5 (decide (6<((idx t0 x9).getD default))) I (λb12=>?_) ?_
  ·refine .A 2 I<|.q I (.ix I U22 S3 (someD (impF c13 b12)))<|.A 2 I<|.nil I
  refine .nil<|.nil<|.condS I h (λh=>?_) λh=>?_
  ·refine .sA 1 I<|.ret (rO h I)
  ·refine .skip<|.rA 3 I (ndE h I)
 ·refine .exit<|.sA 1 I<|.ret (rO h I)
theorem zeA (n t0 t1 r) (h:zak n t0 t1=some r):Pure pg 97 [eA t0,eA t1] (.int r):=by
 refine Pure.ot Tryz.func97 I Tryz.ntmps97 I λA w=>.sA 1 I<|.seq<|.seq<|.plain 8 I<|.A 1 I<|.p I (.len I U22 I)<|.A 2 I<|gK h λc2 h=>.jO 3 (!((za9 n t0).getD default)) I (λb1=>?_) ?_
 ·refine .A 1 I<|.q I (.call I (kC I) I (zg7 _ _ _ (someD (impF c2 b1))))<|.A 1 I<|.nil I
 refine .nil<|.nil<|.condS I h (λh=>?_) λh=>?_
 ·refine .sA 1 I<|.ret (rO h I)
 ·refine .skip<|.sA 1 I<|.seq<|.sA 1 I<|.block<|.L [0,1] h (λv=>[(5,.d (.int v.1)),(6,.d (.int v.2))]) (λv=>[]) I λ_ ⟨x17,x18⟩ h=>.seq<|.S 2 I<|.p I (.len I U22 I)<|.A 1 I<|.nil<|.K [0,1,5,6,18] I<|.condS I h (λh=>?_) λh=>?_
  ·refine .skip<|.seq<|.block<|.seq<|.seq<|.plain 14 I<|.A 2 I<|.X h I λx20 h=>.A 3 I<|gK h λc22 h=>.jO 7 (decide ((t0.length:Int)≤((idx t1 x18).getD default))) I (λb21=>?_) ?_
   ·refine .A 2 I<|.q I (.ix I U22 S3 (someD (impF c22 b21)))<|.A 2 I<|.q I (.len I U22 I)<|.A 1 I<|.nil I
   refine .nil<|.nil<|.condS I h (λh=>?_) λh=>?_
   ·refine .sA 1 I<|.ret (rO h I)
   ·refine .skip<|.region<|.A 4 I<|.X h I λx23 h=>.A 1 I<|.X h I λx24 h=>.A 3 I<|.nil<|.K [0,1,5,6] I<|.rA 3 I (ndE h I)
  ·refine .exit<|.sA 2 I<|.ret (rO h I)
theorem zg5 (n t0 r) (h:zaU n t0=some r):Pure pg 249 [.val (.int .u8 t0)] (.bool r):=by
 refine Pure.ot Tryz.func249 I Tryz.ntmps249 I λA w=>.sA 1 I<|.seq<|.plain 14 I<|.A 3 I<|.jO 2 (t0==10) I (λb1=>?_) ?_
 ·refine .A 2 I<|.nil I
 refine .A 1 I<|.jO 2 (t0==13) I (λb2=>?_) ?_
 ·refine .A 2 I<|.nil I
 refine .A 1 I<|.jO 2 (t0==32) I (λb3=>?_) ?_
 ·refine .A 2 I<|.nil I
 refine .nil<|.A 1 I<|.nil<|.K [2] I<|.ret (rO h I)
theorem zhL (n t0 t1 r) (h:zbe n t0 t1=some r):Pure pg 223 [.str t0,.int t1] (.int r):=by
 refine Pure.ot Tryz.func223 I Tryz.ntmps223 I λA w=>.sA 1 I<|.seq<|.block<|.L [0] h (λv=>[(1,.d (.int v))]) (λv=>[]) I λ_ x35 h=>.seq<|.seq<|.plain 16 I<|.A 2 I<|.p I (.len_str I U9 I)<|.A 2 I<|gK h λc38 h=>gK h λc39 h=>gK h λc41 h=>.jA 10 (((zaU n ((sidx t0 x35).getD default)).getD default)||(((sidx t0 x35).getD default)==35)) I (λb37=>?_) ?_
 ·refine .A 2 I<|.q I (.sidx I I I U9 (someD (impT c38 b37)))<|.q I (.call I (kC I) I (zg5 _ _ _ (someD (impT c39 b37))))<|.A 1 I<|.jOr 4 (b2:=((sidx t0 x35).getD default)==35) I I I I (.inr ⟨_,_,_,I,I,I⟩) (λ_ _ _ h1 h2=>by cases h1;cases h2;decide) I I (λb40=>?_) ?_
  ·refine .A 2 I<|.q I (.sidx I I I U9 (someD (impF (impT c41 b37) b40)))<|.A 1 I<|.nil I
  exact .nil I
 refine .nil<|.nil<|.K [0,1,20] I<|.condS I h (λh=>?_) λh=>?_
 ·refine .skip<|.block<|.S 2 I<|bK h λx42 q42 h=>.p I (.sidx I I I U9 q42)<|.A 1 I<|.nil<|.condS I h (λh=>?_) λh=>?_
  ·refine .block<|.L [0] h (λv=>[(1,.d (.int v))]) (λv=>[]) I λ_ x49 h=>.seq<|.seq<|.plain 10 I<|.A 2 I<|.p I (.len_str I U9 I)<|.A 2 I<|gK h λc52 h=>.jA 4 (((sidx t0 x49).getD default) != 10) I (λb51=>?_) ?_
   ·refine .A 2 I<|.q I (.sidx I I I U9 (someD (impT c52 b51)))<|.A 1 I<|.nil I
   refine .nil<|.nil<|.K [0,1,34] I<|.condS I h (λh=>?_) λh=>?_
   ·refine .skip<|.block<|.rA 3 I (ndE h I)
   ·refine .exit (ndE h I)
  ·refine .rA 3 I (ndE h I)
 ·refine .exit<|.sA 2 I<|.ret (rO h I)
theorem zex (n t0 r) (h:zaO n t0=some r):Pure pg 250 [.val (.int .u8 t0)] (.bool r):=by
 refine Pure.ot Tryz.func250 I Tryz.ntmps250 I λA w=>.sA 1 I<|.seq<|.plain 6 I<|.A 3 I<|.jA 2 (decide (t0≤122)) I (λb1=>?_) ?_
 ·refine .A 2 I<|.nil I
 refine .nil<|.A 1 I<|.nil<|.ret (rO h I)
theorem zdR (n t0 r) (h:za0 n t0=some r):Pure pg 251 [.val (.int .u8 t0)] (.bool r):=by
 refine Pure.ot Tryz.func251 I Tryz.ntmps251 I λA w=>.sA 1 I<|.seq<|.plain 6 I<|.A 3 I<|.jA 2 (decide (t0≤57)) I (λb1=>?_) ?_
 ·refine .A 2 I<|.nil I
 refine .nil<|.A 1 I<|.nil<|.ret (rO h I)
theorem zir (n r) (h:ze7 n=some r):Pure pg 252 [] (eC r):=by
 refine Pure.ot Tryz.func252 I Tryz.ntmps252 I λA w=>.sr<|.p I (.nilS 1 (α:=List UInt8) D.str I)<|.nil<|.sr<|.p I (.buildSl [_,_,_,_,_,_,_,_,_,_,_,_,_,_,_,_,_,_,_,_,_,_,_,_,_,_,_,_,_,_,_,_,_,_,_] I I E24 I (λ_=>I) I (enc:=D.str))<|.A 1 I<|.nil<|.ret ?_
 cases h
 exact zb9 I (.d _)
theorem ziZ (n t0 t1 r) (h:zcv n t0 t1=some r):Pure pg 100 [eC t0,.str t1] (.bool r):=by
 refine Pure.ot Tryz.func100 I Tryz.ntmps100 I λA w=>.sA 1 I<|.seq<|.sA 1 I<|.block<|.L [0,1] h (λv=>[(5,.d (.int v))]) (λv=>[]) I λ_ x5 h=>.seq<|.S 2 I<|.p I (.len I U24 I)<|.A 1 I<|.nil<|.K [0,1,5,9] I<|.condS I h (λh=>?_) λh=>?_
 ·refine .skip<|.seq<|.block<|.S 2 I<|.X h I λx7 h=>.A 2 I<|.p I (.str_eql I I I)<|.nil<|.condS I h (λh=>?_) λh=>?_
  ·refine .sA 1 I<|.ret (rO h I)
  ·refine .skip<|.rA 3 I (ndE h I)
 ·refine .exit<|.sA 1 I<|.ret (rO h I)
theorem zjc (n r) (h:zfO n=some r):Pure pg 286 [] (eC r):=by
 refine Pure.ot Tryz.func286 I Tryz.ntmps286 I λA w=>.sr<|.p I (.nilS 1 (α:=List UInt8) D.str I)<|.nil<|.sr<|.p I (.buildSl [_,_,_,_,_,_,_,_,_,_,_,_,_,_,_,_,_,_] I I E24 I (λ_=>I) I (enc:=D.str))<|.A 1 I<|.nil<|.ret ?_
 cases h
 exact zb9 I (.d _)
theorem zgx (n t0 t1 r) (h:zbh n t0 t1=some r):Pure pg 253 [.str t0,.int t1] (.int r):=by
 refine Pure.ot Tryz.func253 I Tryz.ntmps253 I λA w=>.sA 1 I<|.sr<|.Z h I (zjc _ ) λx1 h=>.A 1 I<|.nil<|.seq<|.sA 1 I<|.block<|.L [0,1,5] h (λv=>[(6,.d (.int v))]) (λv=>[]) I λ_ x12 h=>.seq<|.S 2 I<|.p I (.len I U24 I)<|.A 1 I<|.nil<|.K [0,1,5,6,12] I<|.condS I h (λh=>?_) λh=>?_
 ·refine .skip<|.seq<|.block<|.S 2 I<|.X h I λx14 h=>.A 1 I<|.p I (.len_str I U9 I)<|.A 1 I<|.nil<|.seq<|.draw 19 Hm (by kernel_rfl) (by kernel_rfl)<|.A 4 I<|.p I (.len_str I U9 I)<|.A 2 I<|gK h λc16 h=>gK h λc17 h=>.jA 11 (decide (((cut t0 t1 (add64 t1 (x14.length:Int))).getD default)=((idx x1 x12).getD default))) I (λb15=>?_) ?_
  ·refine .A 5 I<|.q I (.cutStrLH I I I I U9 (someD (impT c16 b15)))<|.A 2 I<|.q I (.ix I U24 S9 (someD (impT c17 b15)))<|.A 1 I<|.q I (.str_eql I I I)<|.nil I
  refine .nil<|.nil<|.K [0,1,5,6,7,38] I<|.condS I h (λh=>?_) λh=>?_
  ·refine .sA 2 I<|.ret (rO h I)
  ·refine .skip<|.rA 3 I (ndE h I)
 ·refine .exit<|.sA 1 I<|.ret (rO h I)
theorem zkI (n t0 t1 r) (h:zay n t0 t1=some r):Pure pg 224 [.str t0,.int t1] (.tup [.int r.1,.int r.2]):=by
 refine Pure.ot Tryz.func224 I Tryz.ntmps224 I λA w=>.sA 2 I<|.sA 2 I<|.seq<|.S 2 I<|bK h λx1 q1 h=>.p I (.sidx I I I U9 q1)<|.Z h I (zex _ _) λx2 h=>.nil<|.condS I h (λh=>?_) λh=>?_
 ·refine .seq<|.block<|.L [0,1] h (λv=>[(6,.d (.int v))]) (λv=>[]) I λ_ x21 h=>.seq<|.seq<|.plain 22 I<|.A 2 I<|.p I (.len_str I U9 I)<|.A 2 I<|gK h λc24 h=>gK h λc25 h=>gK h λc27 h=>gK h λc28 h=>gK h λc30 h=>.jA 16 ((((zaO n ((sidx t0 x21).getD default)).getD default)||((za0 n ((sidx t0 x21).getD default)).getD default))||(((sidx t0 x21).getD default)==95)) I (λb23=>?_) ?_
  ·refine .A 2 I<|.q I (.sidx I I I U9 (someD (impT c24 b23)))<|.q I (.call I (kC I) I (zex _ _ _ (someD (impT c25 b23))))<|.A 1 I<|.jOr 4 (b2:=((za0 n ((sidx t0 x21).getD default)).getD default)) I I I I (.inr ⟨_,_,_,I,I,I⟩) (λ_ _ _ h1 h2=>by cases h1;cases h2;decide) I I (λb26=>?_) ?_
   ·refine .A 2 I<|.q I (.sidx I I I U9 (someD (impF (impT c27 b23) b26)))<|.q I (.call I (kC I) I (zdR _ _ _ (someD (impF (impT c28 b23) b26))))<|.nil I
   refine .A 1 I<|.jOr 4 (b2:=((sidx t0 x21).getD default)==95) I I I I (.inr ⟨_,_,_,I,I,I⟩) (λ_ _ _ h1 h2=>by cases h1;cases h2;decide) I I (λb29=>?_) ?_
   ·refine .A 2 I<|.q I (.sidx I I I U9 (someD (impF (impT c30 b23) b29)))<|.A 1 I<|.nil I
   exact .nil I
  refine .nil<|.nil<|.K [0,1,6,34] I<|.condS I h (λh=>?_) λh=>?_
  ·refine .skip<|.block<|.rA 3 I (ndE h I)
  ·refine .exit<|.seq<|.seq<|.draw 6 Hm (by kernel_rfl) (by kernel_rfl)<|.Z h I (zir _ ) λx31 h=>.A 3 I<|bK h λx32 q32 h=>.p I (.cutStrLH I I I I U9 q32)<|.Z h I (ziZ _ _ _) λx33 h=>.nil<|.nil<|.condS I h (λh=>?_) λh=>?_
   ·refine .sA 3 I<|.ret ?_
    cases h
    exact zbI I I (.d _) (.d _)
   ·refine .skip<|.sA 3 I<|.ret ?_
    cases h
    exact zbI I I (.d _) (.d _)
 ·refine .skip<|.seq<|.S 2 I<|bK h λx34 q34 h=>.p I (.sidx I I I U9 q34)<|.Z h I (zdR _ _) λx35 h=>.nil<|.condS I h (λh=>?_) λh=>?_
  ·refine .seq<|.block<|.L [0] h (λv=>[(6,.d (.int v))]) (λv=>[]) I λ_ x44 h=>.seq<|.seq<|.plain 10 I<|.A 2 I<|.p I (.len_str I U9 I)<|.A 2 I<|gK h λc47 h=>gK h λc48 h=>.jA 4 (((za0 n ((sidx t0 x44).getD default)).getD default)) I (λb46=>?_) ?_
   ·refine .A 2 I<|.q I (.sidx I I I U9 (someD (impT c47 b46)))<|.q I (.call I (kC I) I (zdR _ _ _ (someD (impT c48 b46))))<|.nil I
   refine .nil<|.nil<|.K [0,6,58] I<|.condS I h (λh=>?_) λh=>?_
   ·refine .skip<|.block<|.rA 3 I (ndE h I)
   ·refine .exit<|.sA 3 I<|.ret ?_
    cases h
    exact zbI I I (.d _) (.d _)
  ·refine .skip<|.seq<|.S 2 I<|.Z h I (zgx _ _ _) λx49 h=>.A 1 I<|.nil<|.K [0,1,6,7] I<|.sA 2 I<|.condS I h (λh=>?_) λh=>?_
   ·refine .sA 5 I<|.ret ?_
    cases h
    exact zbI I I (.d _) (.d _)
   ·refine .skip<|.seq<|.block<|.L [0] h (λv=>[(6,.d (.int v))]) (λv=>[]) I λ_ x78 h=>.seq<|.seq<|.plain 37 I<|.A 2 I<|.p I (.len_str I U9 I)<|.A 2 I<|gK h λc81 h=>gK h λc82 h=>.jA 5 (!((zaU n ((sidx t0 x78).getD default)).getD default)) I (λb80=>?_) ?_
    ·refine .A 2 I<|.q I (.sidx I I I U9 (someD (impT c81 b80)))<|.q I (.call I (kC I) I (zg5 _ _ _ (someD (impT c82 b80))))<|.A 1 I<|.nil I
    refine .A 1 I<|gK h λc84 h=>.jA 4 (((sidx t0 x78).getD default) != 35) I (λb83=>?_) ?_
    ·refine .A 2 I<|.q I (.sidx I I I U9 (someD (impT c84 b83)))<|.A 1 I<|.nil I
    refine .A 1 I<|gK h λc86 h=>gK h λc87 h=>.jA 5 (!((zaO n ((sidx t0 x78).getD default)).getD default)) I (λb85=>?_) ?_
    ·refine .A 2 I<|.q I (.sidx I I I U9 (someD (impT c86 b85)))<|.q I (.call I (kC I) I (zex _ _ _ (someD (impT c87 b85))))<|.A 1 I<|.nil I
    refine .A 1 I<|gK h λc89 h=>gK h λc90 h=>.jA 5 (!((za0 n ((sidx t0 x78).getD default)).getD default)) I (λb88=>?_) ?_
    ·refine .A 2 I<|.q I (.sidx I I I U9 (someD (impT c89 b88)))<|.q I (.call I (kC I) I (zdR _ _ _ (someD (impT c90 b88))))<|.A 1 I<|.nil I
    refine .A 1 I<|gK h λc92 h=>.jA 4 (((zbh n t0 x78).getD default)==0) I (λb91=>?_) ?_
    ·refine .A 2 I<|.q I (.call I (kC I) I (zgx _ _ _ _ (someD (impT c92 b91))))<|.A 1 I<|.nil I
    refine .nil<|.nil<|.K [0,6,106] I<|.condS I h (λh=>?_) λh=>?_
    ·refine .skip<|.block<|.rA 3 I (ndE h I)
    ·refine .exit<|.sA 3 I<|.ret ?_
     cases h
     exact zbI I I (.d _) (.d _)
theorem zlR (n t0 r) (h:zcQ n t0=some r):Pure pg 186 [.str t0] (.tup [eQ r.1,.int r.2]):=by
 refine Pure.ot Tryz.func186 I Tryz.ntmps186 I λA w=>.sr<|.p I (.nilS 4 (α:=Token) Token.enc I)<|.A 1 I<|.nil<|.seq<|.S 1 I<|.p I (.len_str I U9 I)<|.A 1 I<|.nil<|.condS I h (λh=>?_) λh=>?_
 ·refine .sr<|.p I (.nilS 4 (α:=Token) Token.enc I)<|.A 1 I<|.nil<|.ret ?_
  cases h
  exact zbI I I (.d _) (.d _)
 ·refine .skip<|.sr<|.buildVec [] I I I I I E223 I (λ_=>I) I (enc:=Token.enc)<|.A 1 I<|.nil<|.sA 1 I<|.seq<|.block<|.L [0] h (λv=>[(4,.vec 0 (List.length v.1)),(5,.d (.int v.2))]) (λv=>[(0,.vec 227 4 (List.map Token.enc v.1))]) I λ_ ⟨b0_13,x14⟩ h=>.seq<|.S 2 I<|.Z h I (zhL _ _ _) λx16 h=>.A 1 I<|.p I (.len_str I U9 I)<|.A 1 I<|.nil<|.K [0,4,5,18] I<|.condS I h (λh=>?_) λh=>?_
  ·refine .skip<|.block<|.S 2 I<|.Z h I (zhL _ _ _) λx17 h=>.A 1 I<|.nil<|.S 2 I<|.Z h I (zkI _ _ _) λx18 h=>.A 1 I<|.p I (.extract I I I)<|.p I (.extract I I I)<|.A 2 I<|.nil<|.S 5 I<|.p I (.castD (Token.enc (⟨x18.1,x14,x17,x18.2⟩:Token)) I (.build I Pl227 (.agg Zc227 (ds':=[_,_,_,_]) (.e (.e (.e .e1)))) I I))<|.p I (.buildSl [_] I I E223 I (λ_=>I) I (enc:=Token.enc))<|bK h λx19 q19 h=>.app I I I I I I I I E223 I (λ_=>I) q19<|.A 1 I<|.nil<|.K [0,4,8] I<|.rA 2 I (ndE h I)
  ·refine .exit<|.S 3 I<|.p I (.len_str I U9 I)<|.A 1 I<|.p I (.len_str I U9 I)<|.p I (.castD (Token.enc (⟨0,x14,(t0.length:Int),(t0.length:Int)⟩:Token)) I (.build I Pl227 (.agg Zc227 (ds':=[_,_,_,_]) (.e (.e (.e .e1)))) I I))<|.p I (.buildSl [_] I I E223 I (λ_=>I) I (enc:=Token.enc))<|bK h λx20 q20 h=>.app I I I I I I I I E223 I (λ_=>I) q20<|.A 2 I<|.nil<|.ret ?_
   cases h
   exact zbI I I (.vec I (by simp)) (.d _)
theorem zlQ (n t0 r) (h:zgN n t0=some r):Pure pg 140 [.str t0] (.int r):=by
 refine Pure.ot Tryz.func140 I Tryz.ntmps140 I λA w=>.sA 1 I<|.S 1 I<|.Z h I (zlR _ _) λx1 h=>.A 1 I<|.p I (.extract I I I)<|.p I (.extract I I I)<|.A 2 I<|.nil<|.seq<|.seq<|.plain 23 I<|.A 3 I<|.jO 3 ((x1.1.length:Int) != 2) I (λb2=>?_) ?_
 ·refine .A 1 I<|.q I (.len I U223 I)<|.A 1 I<|.nil I
 refine .A 1 I<|gK h λc4 h=>.jO 5 ((((idx x1.1 0).getD default).at_) != 0) I (λb3=>?_) ?_
 ·refine .A 1 I<|.q I (.ix I U223 S227 (someD (impF c4 b3)))<|.q I (.fa I (zrR _))<|.A 2 I<|.nil I
 refine .A 1 I<|gK h λc6 h=>.jO 7 ((((idx x1.1 0).getD default).end_) != (t0.length:Int)) I (λb5=>?_) ?_
 ·refine .A 1 I<|.q I (.ix I U223 S227 (someD (impF c6 b5)))<|.q I (.fa I (zrS _))<|.A 2 I<|.q I (.len_str I U9 I)<|.A 1 I<|.nil I
 refine .nil<|.nil<|.K [3,32] I<|.condS I h (λh=>?_) λh=>?_
 ·refine .sA 1 I<|.ret (rO h I)
 ·refine .skip<|.S 1 I<|.X h I λx7 h=>.p I (.fa I (zrQ _))<|.A 2 I<|.nil<|.ret (rO h I)
theorem zhK (n t0 r) (h:zft n t0=some r):Pure pg 98 [.str t0] (.bool r):=by
 refine Pure.ot Tryz.func98 I Tryz.ntmps98 I λA w=>.sA 1 I<|.seq<|.plain 8 I<|.A 1 I<|.Z h I (zlQ _ _) λx1 h=>.A 2 I<|.jA 3 (decide ((t0.length:Int)≤16)) I (λb2=>?_) ?_
 ·refine .A 1 I<|.q I (.len_str I U9 I)<|.A 1 I<|.nil I
 refine .nil<|.A 1 I<|.nil<|.ret (rO h I)
theorem zeB (n t0 r) (h:zb0 n t0=some r):Pure pg 99 [.int t0] (.bool r):=by
 refine Pure.ot Tryz.func99 I Tryz.ntmps99 I λA w=>.sA 1 I<|.seq<|.plain 6 I<|.A 3 I<|.jO 2 (t0==1) I (λb1=>?_) ?_
 ·refine .A 2 I<|.nil I
 refine .nil<|.A 1 I<|.nil<|.ret (rO h I)
theorem ze9 (n t0 t1 r) (h:zaF n t0 t1=some r):Pure pg 62 [eA t0,eB t1] (.bool r):=by
 refine Pure.ot Tryz.func62 I Tryz.ntmps62 I λA w=>.sA 1 I<|.seq<|.seq<|.plain 13 I<|.A 1 I<|.p I (.len I U22 I)<|.A 2 I<|gK h λc2 h=>.jO 3 (!((za9 n t0).getD default)) I (λb1=>?_) ?_
 ·refine .A 1 I<|.q I (.call I (kC I) I (zg7 _ _ _ (someD (impF c2 b1))))<|.A 1 I<|.nil I
 refine .A 1 I<|.jO 3 (decide (12<(t1.length:Int))) I (λb3=>?_) ?_
 ·refine .A 1 I<|.q I (.len I U23 I)<|.A 1 I<|.nil I
 refine .nil<|.nil<|.condS I h (λh=>?_) λh=>?_
 ·refine .sA 1 I<|.ret (rO h I)
 ·refine .skip<|.sA 2 I<|.K [0,1,5,6] I<|.seq<|.sA 1 I<|.block<|.L [0,1] h (λv=>[(5,.d (.int v.1)),(6,.d (.int v.2.1)),(7,.d (.int v.2.2))]) (λv=>[]) I λ_ ⟨x56,x57,x58⟩ h=>.seq<|.S 2 I<|.p I (.len I U23 I)<|.A 1 I<|.nil<|.K [0,1,5,6,7,27] I<|.condS I h (λh=>?_) λh=>?_
  ·refine .skip<|.J [0,1,7] h (λv=>[(5,.d (.int v.1)),(6,.d (.int v.2))]) (λv=>[]) I (λk_62 h=>?_) (λv h=>?_)
   ·refine .block<|.S 2 I<|.X h I λx63 h=>.A 1 I<|.allocStore I I I I I I I I (by simp) I I Z118<|.nil<|.seq<|.sA 1 I<|.block<|.L [0,1,5,6,7,8] h (λv=>[(9,.d (.int v))]) (λv=>[]) I λ_ x68 h=>.seq<|.sA 3 I<|.condS I h (λh=>?_) λh=>?_
    ·refine .skip<|.seq<|.block<|.seq<|.draw 8 Hm (by kernel_rfl) (by kernel_rfl)<|.A 2 I<|.X h I λx70 h=>.p I (.fa I (zjw _))<|.A 1 I<|.p I (.fa I (zjw _))<|.A 1 I<|.p I (.str_eql I I I)<|.nil<|.nil<|.condS I h (λh=>?_) λh=>?_
     ·refine .sA 1 I<|.ret (rO h I)
     ·refine .skip<|.rA 3 I (ndE h I)
    ·refine .exit<|.S 1 I<|.p I (.fa I (zbF _))<|.A 1 I<|.Z h I (zeA _ _ _) λx71 h=>.A 1 I<|.nil<|.seq<|.seq<|.plain 18 I<|.p I (.fa I (zjw _))<|.A 1 I<|.Z h I (zhK _ _) λx72 h=>.A 2 I<|.jO 3 (decide (x63.kind<0)) I (λb73=>?_) ?_
     ·refine .q I (.fa I (zcY _))<|.A 2 I<|.nil I
     refine .A 1 I<|.jO 3 (decide (5<x63.kind)) I (λb74=>?_) ?_
     ·refine .q I (.fa I (zcY _))<|.A 2 I<|.nil I
     refine .A 1 I<|.jO 2 (x71==0) I (λb75=>?_) ?_
     ·refine .A 2 I<|.nil I
     refine .nil<|.nil<|.K [0,1,5,6,7,8,10,68] I<|.condS I h (λh=>?_) λh=>?_
     ·refine .sA 1 I<|.ret (rO h I)
     ·refine .skip<|.seq<|.seq<|.plain 19 I<|.p I (.fa I (zdV _))<|.p I (.fa I (G85_0 _))<|.A 1 I<|.p I (.fa I (zdV _))<|.p I (.fa I (G85_1 _))<|.A 3 I<|.jO 4 (decide (x63.range.lo<(-9999))) I (λb76=>?_) ?_
      ·refine .q I (.fa I (zdV _))<|.q I (.fa I (G85_0 _))<|.A 2 I<|.nil I
      refine .A 1 I<|.jO 4 (decide (9999<x63.range.hi)) I (λb77=>?_) ?_
      ·refine .q I (.fa I (zdV _))<|.q I (.fa I (G85_1 _))<|.A 2 I<|.nil I
      refine .nil<|.nil<|.K [0,1,5,6,7,8,10,87] I<|.condS I h (λh=>?_) λh=>?_
      ·refine .sA 1 I<|.ret (rO h I)
      ·refine .skip<|.seq<|.seq<|.plain 25 I<|.p I (.fa I (zcY _))<|.A 3 I<|.jO 3 (x63.kind==2) I (λb78=>?_) ?_
       ·refine .q I (.fa I (zcY _))<|.A 2 I<|.nil I
       refine .A 1 I<|.jO 3 (x63.kind==3) I (λb79=>?_) ?_
       ·refine .q I (.fa I (zcY _))<|.A 2 I<|.nil I
       refine .A 1 I<|.jA 10 ((x63.range.lo != 0)||(x63.range.hi != 1)) I (λb80=>?_) ?_
       ·refine .q I (.fa I (zdV _))<|.q I (.fa I (G85_0 _))<|.A 3 I<|.jOr 4 (b2:=x63.range.hi != 1) I I I I (.inr ⟨_,_,_,I,I,I⟩) (λ_ _ _ h1 h2=>by cases h1;cases h2;decide) I I (λb81=>?_) ?_
        ·refine .q I (.fa I (zdV _))<|.q I (.fa I (G85_1 _))<|.A 2 I<|.nil I
        exact .nil I
       refine .nil<|.nil<|.K [0,1,5,6,7,8,10,112] I<|.condS I h (λh=>?_) λh=>?_
       ·refine .sA 1 I<|.ret (rO h I)
       ·refine .skip<|.sr<|.p I (.fa I (zcY _))<|.A 1 I<|.Z h I (zeB _ _) λx82 h=>.nil<|.condS I h (λh=>?_) λh=>?_
        ·refine .seq<|.sr<|.p I (.fa I (zgZ _))<|.A 3 I<|.nil<|.condS I h (λh=>?_) λh=>?_
         ·refine .sA 1 I<|.ret (rO h I)
         ·refine .skip<|.rA 4 I (ndE h I)
        ·refine .seq<|.sr<|.p I (.fa I (zgZ _))<|.A 3 I<|.nil<|.condS I h (λh=>?_) λh=>?_
         ·refine .sA 1 I<|.ret (rO h I)
         ·refine .skip<|.rA 4 I (ndE h I)
   ·obtain ⟨x60,x61⟩:=v
    refine .rA 3 I (ndE h I)
  ·refine .exit<|.seq<|.plain 6 I<|.A 3 I<|.jA 2 (decide (x57≤64)) I (λb83=>?_) ?_
   ·refine .A 2 I<|.nil I
   refine .nil<|.A 1 I<|.nil<|.ret (rO h I)
theorem zkd (n t0 t1 t2 r) (h:zaP n t0 t1 t2=some r):Pure pg 87 [eA t0,eB t1,.bool t2] (eK r):=by
 refine Pure.ot Tryz.func87 I Tryz.ntmps87 I λA w=>.sr<|.p I (.nilS 2 (α:=Range) Range.enc I)<|.nil<|.sr<|.buildVec [] I I I I I E82 I (λ_=>I) I (enc:=Range.enc)<|.A 1 I<|.nil<|.seq<|.S 2 I<|.Z h I (ze9 _ _ _) λx1 h=>.A 1 I<|.nil<|.condS I h (λh=>?_) λh=>?_
 ·refine .sA 2 I<|.ret ?_
  cases h
  exact zb9 I (.vec I (by simp))
 ·refine .skip<|.seq<|.sA 1 I<|.block<|.L [0,1,2] h (λv=>[(7,.vec 0 (List.length v.1)),(8,.d (.int v.2))]) (λv=>[(0,.vec 85 2 (List.map Range.enc v.1))]) I λ_ ⟨b0_62,x63⟩ h=>.seq<|.S 2 I<|.p I (.len I U23 I)<|.A 1 I<|.nil<|.K [0,1,2,7,8,19] I<|.condS I h (λh=>?_) λh=>?_
  ·refine .skip<|.seq<|.block<|.sA 1 I<|.block<|.L [0,1,2,8] h (λv=>[(7,.vec 0 (List.length v.1)),(9,.d (.int v.2))]) (λv=>[(0,.vec 85 2 (List.map Range.enc v.1))]) I λ_ ⟨b0_83,x84⟩ h=>.seq<|.seq<|.plain 19 I<|.A 2 I<|.X h I λx86 h=>.p I (.fa I (zcY _))<|.A 1 I<|.Z h I (zeB _ _) λx87 h=>.A 1 I<|.p I (.beq I U4 I I)<|.A 1 I<|gK h λc89 h=>gK h λc90 h=>.jA 9 (decide (x84<((zak n t0 (((idx t1 x63).getD default).columns)).getD default))) I (λb88=>?_) ?_
   ·refine .A 4 I<|.q I (.ix I U23 S118 (someD (impT c89 b88)))<|.q I (.fa I (zbF _))<|.A 1 I<|.q I (.call I (kC I) I (zeA _ _ _ _ (someD (impT c90 b88))))<|.A 1 I<|.nil I
   refine .nil<|.nil<|.K [0,1,2,7,8,9,40] I<|.condS I h (λh=>?_) λh=>?_
   ·refine .skip<|.seq<|.block<|.region<|.A 3 I<|.X h I λx91 h=>.p I (.fa I (zdV _))<|.A 1 I<|.p I (.buildSl [_] I I E82 I (λ_=>I) I (enc:=Range.enc))<|bK h λx92 q92 h=>.app I I I I I I I I E82 I (λ_=>I) q92<|.A 1 I<|.nil<|.rA 3 I (ndE h I)
   ·refine .exit<|.rA 3 I (ndE h I)
  ·refine .exit<|.sA 2 I<|.ret ?_
   cases h
   exact zb9 I (.vec I (by simp))
theorem zeC (n t0 r) (h:zcm n t0=some r):Pure pg 48 [Model.enc t0] (eK r):=by
 refine Pure.ot Tryz.func48 I Tryz.ntmps48 I λA w=>.S 1 I<|.p I (.nilS 2 (α:=Range) Range.enc I)<|.nil<|.S 4 I<|.Z h I (zkd _ _ _ _) λx1 h=>.A 1 I<|.nil<|.ret ?_
 cases h
 exact zb9 I (.d _)
theorem zmK (n t0 r) (h:zbM n t0=some r):Pure pg 13 [Model.enc t0] (.bool r):=by
 refine Pure.ot Tryz.func13 I Tryz.ntmps13 I λA w=>.sA 2 I<|.seq<|.seq<|.plain 15 I<|.A 1 I<|.Z h I (zje _ _) λx1 h=>.A 2 I<|.jO 4 (decide (12<(t0.actions.length:Int))) I (λb2=>?_) ?_
 ·refine .A 2 I<|.q I (.len I U27 I)<|.A 1 I<|.nil I
 refine .A 1 I<|.jO 4 (decide (40<(t0.constraints.length:Int))) I (λb3=>?_) ?_
 ·refine .A 2 I<|.q I (.len I U25 I)<|.A 1 I<|.nil I
 refine .nil<|.nil<|.K [1,21] I<|.condS I h (λh=>?_) λh=>?_
 ·refine .sA 1 I<|.ret (rO h I)
 ·refine .skip<|.seq<|.sA 1 I<|.block<|.L [1] h (λv=>[(3,.d (.int v))]) (λv=>[]) I λ_ x8 h=>.seq<|.S 3 I<|.p I (.len I U27 I)<|.A 1 I<|.nil<|.K [1,3,26] I<|.condS I h (λh=>?_) λh=>?_
  ·refine .skip<|.seq<|.block<|.S 3 I<|.X h I λx10 h=>.p I (.fa I (G65_2 _))<|.p I (.fa I (G63_1 _))<|.A 1 I<|.p I (.len I U60 I)<|.A 1 I<|.nil<|.condS I h (λh=>?_) λh=>?_
   ·refine .sA 1 I<|.ret (rO h I)
   ·refine .skip<|.rA 3 I (ndE h I)
  ·refine .exit<|.S 1 I<|.Z h I (zeC _ _) λx11 h=>.A 1 I<|.nil<|.seq<|.S 1 I<|.p I (.len I U82 I)<|.A 1 I<|.nil<|.condS I h (λh=>?_) λh=>?_
   ·refine .sA 1 I<|.ret (rO h I)
   ·refine .skip<|.sA 1 I<|.seq<|.sA 1 I<|.block<|.L [4] h (λv=>[(5,.d (.int v.1)),(6,.d (.int v.2))]) (λv=>[]) I λ_ ⟨x20,x21⟩ h=>.seq<|.S 2 I<|.p I (.len I U82 I)<|.A 1 I<|.nil<|.K [4,5,6,46] I<|.condS I h (λh=>?_) λh=>?_
    ·refine .skip<|.seq<|.block<|.seq<|.draw 15 Hm (by kernel_rfl) (by kernel_rfl)<|.A 3 I<|.X h I λx23 h=>.p I (.fa I (G85_1 _))<|.A 3 I<|.X h I λx24 h=>.p I (.fa I (G85_0 _))<|.A 5 I<|.nil<|.nil<|.sA 2 I<|.K [4,5,6,64] I<|.condS I h (λh=>?_) λh=>?_
     ·refine .sA 1 I<|.ret (rO h I)
     ·refine .skip<|.rA 3 I (ndE h I)
    ·refine .exit<|.sA 1 I<|.ret (rO h I)
theorem zfv (n t0 r) (h:zav n t0=some r):Pure pg 63 [eC t0] (.bool r):=by
 refine Pure.ot Tryz.func63 I Tryz.ntmps63 I λA w=>.sA 1 I<|.seq<|.sA 1 I<|.block<|.L [0] h (λv=>[(3,.d (.int v))]) (λv=>[]) I λ_ x15 h=>.seq<|.S 2 I<|.p I (.len I U24 I)<|.A 1 I<|.nil<|.K [0,3,7] I<|.condS I h (λh=>?_) λh=>?_
 ·refine .skip<|.seq<|.block<|.seq<|.draw 16 Hm (by kernel_rfl) (by kernel_rfl)<|.A 2 I<|.X h I λx17 h=>.A 1 I<|.Z h I (zhK _ _) λx18 h=>.A 2 I<|gK h λc20 h=>gK h λc21 h=>gK h λc22 h=>.jO 8 (((zcv n ((cut t0 0 x15).getD default) ((idx t0 x15).getD default)).getD default)) I (λb19=>?_) ?_
  ·refine .A 2 I<|.q I (.cutSlH I I I U24 S9 (someD (impF c20 b19)))<|.A 2 I<|.q I (.ix I U24 S9 (someD (impF c21 b19)))<|.A 1 I<|.q I (.call I (kC I) I (ziZ _ _ _ _ (someD (impF c22 b19))))<|.nil I
  refine .nil<|.nil<|.K [0,3,25] I<|.condS I h (λh=>?_) λh=>?_
  ·refine .sA 1 I<|.ret (rO h I)
  ·refine .skip<|.rA 3 I (ndE h I)
 ·refine .exit<|.sA 1 I<|.ret (rO h I)
theorem zhM (n t0 t1 r) (h:zaQ n t0 t1=some r):Pure pg 141 [eL t0,eL t1] (.bool r):=by
 refine Pure.ot Tryz.func141 I Tryz.ntmps141 I λA w=>.sA 1 I<|.seq<|.S 1 I<|.p I (.len I U70 I)<|.A 1 I<|.p I (.len I U70 I)<|.A 1 I<|.nil<|.condS I h (λh=>?_) λh=>?_
 ·refine .sA 1 I<|.ret (rO h I)
 ·refine .skip<|.seq<|.sA 1 I<|.block<|.L [0,1] h (λv=>[(5,.d (.int v))]) (λv=>[]) I λ_ x7 h=>.seq<|.S 2 I<|.p I (.len I U70 I)<|.A 1 I<|.nil<|.K [0,1,5,14] I<|.condS I h (λh=>?_) λh=>?_
  ·refine .skip<|.seq<|.block<|.seq<|.draw 9 Hm (by kernel_rfl) (by kernel_rfl)<|.A 2 I<|.X h I λx9 h=>.A 3 I<|.X h I λx10 h=>.A 1 I<|.p I (.sneq I SE129 I I (xs:=Term.vals _) (ys:=Term.vals _) I I I I (SQ129 _ _))<|.nil<|.nil<|.condS I h (λh=>?_) λh=>?_
   ·refine .sA 1 I<|.ret (rO h I)
   ·refine .skip<|.rA 3 I (ndE h I)
  ·refine .exit<|.sA 1 I<|.ret (rO h I)
theorem zf5 (n t0 t1 r) (h:zct n t0 t1=some r):Pure pg 101 [Row.enc t0,Row.enc t1] (.bool r):=by
 refine Pure.ot Tryz.func101 I Tryz.ntmps101 I λA w=>.sA 3 I<|.seq<|.plain 12 I<|.p I (.fa I (G72_1 _))<|.A 1 I<|.p I (.fa I (G72_1 _))<|.A 3 I<|gK h λc2 h=>.jA 5 (((zaQ n t0.terms t1.terms).getD default)) I (λb1=>?_) ?_
 ·refine .q I (.fa I (G72_0 _))<|.A 1 I<|.q I (.fa I (G72_0 _))<|.A 1 I<|.q I (.call I (kC I) I (zhM _ _ _ _ (someD (impT c2 b1))))<|.nil I
 refine .nil<|.A 1 I<|.nil<|.K [4] I<|.ret (rO h I)
theorem zdc (n t0 t1 r) (h:zao n t0 t1=some r):Pure pg 104 [.int t0,.int t1] (.bool r):=by
 refine Pure.ot Tryz.func104 I Tryz.ntmps104 I λA w=>.sA 1 I<|.seq<|.plain 9 I<|.A 2 I<|.p I (.neg6 I I)<|.A 2 I<|.jA 3 (decide (t0≤t1)) I (λb1=>?_) ?_
 ·refine .A 3 I<|.nil I
 refine .nil<|.A 1 I<|.nil<|.ret (rO h I)
theorem zi0 (n t0 t1 r) (h:zce n t0 t1=some r):Pure pg 102 [Row.enc t0,.int t1] (.bool r):=by
 refine Pure.ot Tryz.func102 I Tryz.ntmps102 I λA w=>.sA 2 I<|.seq<|.sA 1 I<|.block<|.L [1,2] h (λv=>[(5,.d (.int v))]) (λv=>[]) I λ_ x19 h=>.seq<|.S 1 I<|.p I (.fa I (G72_0 _))<|.A 1 I<|.p I (.len I U70 I)<|.A 1 I<|.nil<|.K [1,2,5,11] I<|.condS I h (λh=>?_) λh=>?_
 ·refine .skip<|.seq<|.block<|.sr<|.p I (.fa I (G72_0 _))<|.A 2 I<|.X h I λx21 h=>.A 1 I<|.allocStore I I I I I I I I (by simp) I I Z129<|.nil<|.seq<|.draw 36 Hm (by kernel_rfl) (by kernel_rfl)<|.A 4 I<|.jO 4 (decide (t1≤x21.cell)) I (λb22=>?_) ?_
  ·refine .A 4 I<|.nil I
  refine .A 1 I<|gK h λc25 h=>.jO 14 ((decide (0<x19))&&(decide (x21.cell≤((idx t0.terms (sub64 x19 1)).getD default).cell))) I (λb23=>?_) ?_
  ·refine .A 3 I<|.jAnd 10 (b2:=decide (x21.cell≤((idx t0.terms (sub64 x19 1)).getD default).cell)) I I I I (.inr ⟨_,_,_,I,I,I⟩) (λ_ _ _ h1 h2=>by cases h1;cases h2;decide) I I (λb24=>?_) ?_
   ·refine .q I (.fa I (G72_0 _))<|.A 3 I<|.q I (.ix I U70 S129 (someD (impT (impF c25 b23) b24)))<|.A 5 I<|.nil I
   exact .nil I
  refine .A 1 I<|.jO 3 (x21.factor==0) I (λb26=>?_) ?_
  ·refine .q I (.fa I (ziG _))<|.A 2 I<|.nil I
  refine .A 1 I<|gK h λc28 h=>.jO 4 (!((zao n x21.factor 1000).getD default)) I (λb27=>?_) ?_
  ·refine .q I (.fa I (ziG _))<|.A 1 I<|.q I (.call I (kC I) I (zdc _ _ _ _ (someD (impF c28 b27))))<|.A 1 I<|.nil I
  refine .nil<|.nil<|.K [1,2,5,54] I<|.condS I h (λh=>?_) λh=>?_
  ·refine .sA 1 I<|.ret (rO h I)
  ·refine .skip<|.rA 3 I (ndE h I)
 ·refine .exit<|.sr<|.p I (.fa I (G72_1 _))<|.A 1 I<|.Z h I (zdc _ _ _) λx29 h=>.A 1 I<|.nil<|.ret (rO h I)
theorem zkL (n t0 t1 r) (h:zbC n t0 t1=some r):Pure pg 103 [Model.enc t0,Constraint.enc t1] (.bool r):=by
 refine Pure.ot Tryz.func103 I Tryz.ntmps103 I λA w=>.sA 3 I<|.seq<|.seq<|.plain 11 I<|.p I (.fa I (zep _))<|.p I (.fa I (G72_0 _))<|.A 1 I<|.p I (.len I U70 I)<|.A 2 I<|.jO 4 (t1.row.bound != 0) I (λb1=>?_) ?_
 ·refine .q I (.fa I (zep _))<|.q I (.fa I (G72_1 _))<|.A 2 I<|.nil I
 refine .nil<|.nil<|.condS I h (λh=>?_) λh=>?_
 ·refine .sA 1 I<|.ret (rO h I)
 ·refine .skip<|.seq<|.sA 1 I<|.block<|.L [2,3] h (λv=>[(5,.d (.int v))]) (λv=>[]) I λ_ x22 h=>.seq<|.S 3 I<|.p I (.len I U23 I)<|.A 1 I<|.nil<|.K [2,3,5,22] I<|.condS I h (λh=>?_) λh=>?_
  ·refine .skip<|.seq<|.block<|.S 3 I<|.X h I λx24 h=>.A 1 I<|.allocStore I I I I I I I I (by simp) I I Z118<|.nil<|.seq<|.draw 40 Hm (by kernel_rfl) (by kernel_rfl)<|.p I (.fa I (zcY _))<|.A 3 I<|.jA 4 ((x24.columns.length:Int)==2) I (λb25=>?_) ?_
   ·refine .q I (.fa I (zbF _))<|.A 1 I<|.q I (.len I U22 I)<|.A 1 I<|.nil I
   refine .A 1 I<|gK h λc27 h=>gK h λc28 h=>.jA 9 (((idx x24.columns 0).getD default)==((idx x24.columns 1).getD default)) I (λb26=>?_) ?_
   ·refine .q I (.fa I (zbF _))<|.A 1 I<|.q I (.ix I U22 S3 (someD (impT c27 b26)))<|.A 1 I<|.q I (.fa I (zbF _))<|.A 1 I<|.q I (.ix I U22 S3 (someD (impT c28 b26)))<|.A 2 I<|.nil I
   refine .A 1 I<|.jA 5 (x24.first==t1.first) I (λb29=>?_) ?_
   ·refine .q I (.fa I (zgZ _))<|.A 1 I<|.q I (.fa I (zoB _))<|.A 2 I<|.nil I
   refine .A 1 I<|gK h λc31 h=>gK h λc32 h=>.jA 11 (((idx t0.sorts ((idx x24.columns 0).getD default)).getD default)==t1.size) I (λb30=>?_) ?_
   ·refine .A 2 I<|.q I (.fa I (zbF _))<|.A 1 I<|.q I (.ix I U22 S3 (someD (impT c31 b30)))<|.A 1 I<|.q I (.ix I U22 S3 (someD (impT c32 b30)))<|.A 1 I<|.q I (.fa I (zoC _))<|.A 2 I<|.nil I
   refine .nil<|.nil<|.K [2,3,5,69] I<|.condS I h (λh=>?_) λh=>?_
   ·refine .sA 1 I<|.ret (rO h I)
   ·refine .skip<|.rA 3 I (ndE h I)
  ·refine .exit<|.sA 1 I<|.ret (rO h I)
theorem zgV (n t0 r) (h:zZ n t0=some r):Pure pg 64 [Model.enc t0] (.bool r):=by
 refine Pure.ot Tryz.func64 I Tryz.ntmps64 I λA w=>.sA 2 I<|.S 1 I<|.Z h I (zeC _ _) λx1 h=>.A 1 I<|.nil<|.seq<|.seq<|.plain 13 I<|.A 2 I<|.p I (.len I U25 I)<|.A 1 I<|.p I (.len I U82 I)<|.A 3 I<|.jO 4 (decide (512<(t0.constraints.length:Int))) I (λb2=>?_) ?_
 ·refine .A 2 I<|.q I (.len I U25 I)<|.A 1 I<|.nil I
 refine .nil<|.nil<|.K [1,3,24] I<|.condS I h (λh=>?_) λh=>?_
 ·refine .sA 1 I<|.ret (rO h I)
 ·refine .skip<|.seq<|.sA 1 I<|.block<|.L [1,3] h (λv=>[(4,.d (.int v))]) (λv=>[]) I λ_ x19 h=>.seq<|.S 2 I<|.p I (.len I U82 I)<|.A 1 I<|.nil<|.K [1,3,4,28] I<|.condS I h (λh=>?_) λh=>?_
  ·refine .skip<|.seq<|.block<|.S 1 I<|.p I (.castD (Term.enc (⟨x19,(-1)⟩:Term)) I (.build I Pl129 (.agg Zc129 (ds':=[_,_]) (.e .e1)) I I))<|.p I (.buildSl [_] I I E70 I (λ_=>I) I (enc:=Term.enc))<|.A 2 I<|.X h I λx21 h=>.p I (.fa I (G85_0 _))<|.A 1 I<|.p I (.neg6 I I)<|.p I (.castD (Row.enc (⟨[(⟨x19,(-1)⟩:Term)],neg64 x21.lo⟩:Row)) I (.build I Pl72 (.agg Zc72 (ds':=[_,_]) (.e .e1)) I I))<|.allocStore I I I I I I I I (by simp) I I Z72<|.nil<|.S 1 I<|.p I (.castD (Term.enc (⟨x19,1⟩:Term)) I (.build I Pl129 (.agg Zc129 (ds':=[_,_]) (.e .e1)) I I))<|.p I (.buildSl [_] I I E70 I (λ_=>I) I (enc:=Term.enc))<|.A 2 I<|.X h I λx22 h=>.p I (.fa I (G85_1 _))<|.A 1 I<|.p I (.castD (Row.enc (⟨[(⟨x19,1⟩:Term)],x22.hi⟩:Row)) I (.build I Pl72 (.agg Zc72 (ds':=[_,_]) (.e .e1)) I I))<|.allocStore I I I I I I I I (by simp) I I Z72<|.nil<|.K [1,3,4,5,6] I<|.seq<|.draw 23 Hm (by kernel_rfl) (by kernel_rfl)<|.A 4 I<|.X h I λx23 h=>.p I (.fa I (zep _))<|.A 2 I<|.Z h I (zf5 _ _ _) λx24 h=>.A 2 I<|gK h λc26 h=>gK h λc27 h=>.jO 11 (!((zct n (((idx t0.constraints (add64 (mul64 2 x19) 1)).getD default).row) (⟨[(⟨x19,1⟩:Term)],x22.hi⟩:Row)).getD default)) I (λb25=>?_) ?_
   ·refine .A 5 I<|.q I (.ix I U25 S135 (someD (impF c26 b25)))<|.q I (.fa I (zep _))<|.A 2 I<|.q I (.call I (kC I) I (zf5 _ _ _ _ (someD (impF c27 b25))))<|.A 1 I<|.nil I
   refine .nil<|.nil<|.K [1,3,4,72] I<|.condS I h (λh=>?_) λh=>?_
   ·refine .sA 1 I<|.ret (rO h I)
   ·refine .skip<|.rA 3 I (ndE h I)
  ·refine .exit<|.seq<|.sA 1 I<|.block<|.L [1,3] h (λv=>[(7,.d (.int v))]) (λv=>[]) I λ_ x50 h=>.seq<|.S 3 I<|.p I (.len I U25 I)<|.A 1 I<|.nil<|.K [1,3,7,77] I<|.condS I h (λh=>?_) λh=>?_
   ·refine .skip<|.seq<|.block<|.S 3 I<|.X h I λx52 h=>.A 1 I<|.allocStore I I I I I I I I (by simp) I I Z135<|.nil<|.seq<|.seq<|.plain 11 I<|.p I (.fa I (ziH _))<|.A 3 I<|.jO 6 (decide ((t0.families.length:Int)≤x52.family)) I (λb53=>?_) ?_
    ·refine .q I (.fa I (ziH _))<|.A 3 I<|.q I (.len I U24 I)<|.A 1 I<|.nil I
    refine .nil<|.nil<|.K [1,3,7,8,95] I<|.condS I h (λh=>?_) λh=>?_
    ·refine .sA 1 I<|.ret (rO h I)
    ·refine .skip<|.seq<|.plain 20 I<|.p I (.fa I (zhr _))<|.A 3 I<|.jA 3 (x52.first==0) I (λb54=>?_) ?_
     ·refine .q I (.fa I (zoB _))<|.A 2 I<|.nil I
     refine .A 1 I<|.jA 3 (x52.size==0) I (λb55=>?_) ?_
     ·refine .q I (.fa I (zoC _))<|.A 2 I<|.nil I
     refine .A 1 I<|gK h λc57 h=>.jA 5 (((zce n x52.row (x1.length:Int)).getD default)) I (λb56=>?_) ?_
     ·refine .q I (.fa I (zep _))<|.A 2 I<|.q I (.len I U82 I)<|.q I (.call I (kC I) I (zi0 _ _ _ _ (someD (impT c57 b56))))<|.nil I
     refine .nil<|.A 1 I<|.nil<|.K [1,3,7,8,9] I<|.seq<|.plain 20 I<|.A 3 I<|gK h λc61 h=>.jA 16 (!(((decide (mul64 2 (x1.length:Int)≤x50))&&(x52.kind==1))&&((zbC n t0 x52).getD default))) I (λb58=>?_) ?_
     ·refine .A 2 I<|.q I (.len I U82 I)<|.A 3 I<|.jAnd 3 (b2:=x52.kind==1) I I I I (.inr ⟨_,_,_,I,I,I⟩) (λ_ _ _ h1 h2=>by cases h1;cases h2;decide) I I (λb59=>?_) ?_
      ·refine .q I (.fa I (zhr _))<|.A 2 I<|.nil I
      refine .A 1 I<|.jAnd 3 (b2:=((zbC n t0 x52).getD default)) I I I I (.inr ⟨_,_,_,I,I,I⟩) (λ_ _ _ h1 h2=>by cases h1;cases h2;decide) I I (λb60=>?_) ?_
      ·refine .A 2 I<|.q I (.call I (kC I) I (zkL _ _ _ _ (someD (impT (impT c61 b58) b60))))<|.nil I
      refine .A 1 I<|.nil I
     refine .nil<|.nil<|.K [1,3,7,135] I<|.condS I h (λh=>?_) λh=>?_
     ·refine .sA 1 I<|.ret (rO h I)
     ·refine .skip<|.rA 3 I (ndE h I)
   ·refine .exit<|.sA 1 I<|.ret (rO h I)
theorem zlS (n t0 t1 r) (h:zbV n t0 t1=some r):Pure pg 105 [eA t0,eA t1] (.bool r):=by
 refine Pure.ot Tryz.func105 I Tryz.ntmps105 I λA w=>.sA 1 I<|.seq<|.sA 1 I<|.block<|.L [0,1] h (λv=>[(5,.d (.int v))]) (λv=>[]) I λ_ x13 h=>.seq<|.seq<|.plain 10 I<|.A 2 I<|.p I (.len I U22 I)<|.A 2 I<|.jA 4 (decide (x13<(t1.length:Int))) I (λb15=>?_) ?_
 ·refine .A 2 I<|.q I (.len I U22 I)<|.A 1 I<|.nil I
 refine .nil<|.nil<|.K [0,1,5,15] I<|.condS I h (λh=>?_) λh=>?_
 ·refine .skip<|.seq<|.block<|.seq<|.draw 9 Hm (by kernel_rfl) (by kernel_rfl)<|.A 2 I<|.X h I λx16 h=>.A 3 I<|.X h I λx17 h=>.A 2 I<|.nil<|.nil<|.condS I h (λh=>?_) λh=>?_
  ·refine .seq<|.draw 10 Hm (by kernel_rfl) (by kernel_rfl)<|.A 2 I<|.X h I λx18 h=>.A 3 I<|.X h I λx19 h=>.A 3 I<|.nil<|.nil<|.K [4] I<|.ret (rO h I)
  ·refine .skip<|.rA 3 I (ndE h I)
 ·refine .exit<|.S 1 I<|.p I (.len I U22 I)<|.A 1 I<|.p I (.len I U22 I)<|.A 2 I<|.nil<|.ret (rO h I)
theorem zmI (n t0 t1 t2 r) (h:zdC n t0 t1 t2=some r):Pure pg 187 [eA t0,eA t1,.int t2] (eA r):=by
 refine Pure.ot Tryz.func187 I Tryz.ntmps187 I λA w=>.sr<|.p I (.nilS 1 (α:=Int) D.int I)<|.nil<|.S 1 I<|.p I (.len I U22 I)<|bK h λx1 q1 h=>.makeVec (enc:=D.int) (z:=(0:Int)) I I I I E22 I I I (.val Zv3) q1<|.A 1 I<|.nil<|.seq<|.S 1 I<|.p I (.len I U22 I)<|.A 2 I<|.nil<|.block<|.L [0,1] h (λv=>[(2,.d (.int v.2.1)),(7,.vec 0 (List.length v.1)),(8,.d (.int v.2.2))]) (λv=>[(0,.vec 3 1 (List.map D.int v.1))]) I λ_ ⟨b0_24,x25,x26⟩ h=>.seq<|.sA 2 I<|.K [0,1,2,7,8,16] I<|.condS I h (λh=>?_) λh=>?_
 ·refine .skip<|.seq<|.block<|.S 6 I<|.X h I λx28 h=>.A 1 I<|.X h I λx29 h=>.A 1 I<|bK h λx30 q30 h=>.p I (.rem6 I I I q30)<|bK h λx31 q31 h=>.p I (.idxV I I I I I U22 S3 q31)<|bK h λb0_32 hb0_32 h=>.storeEl (enc:=D.int) I I I I I I I I I C3 hb0_32<|.relen 7 I (zfe hb0_32)<|.relen 19 I (zfe hb0_32)<|.nil<|.region<|.A 4 I<|.X h I λx33 h=>.A 1 I<|.X h I λx34 h=>.A 1 I<|bK h λx35 q35 h=>.p I (.quo6 I I I q35)<|.A 1 I<|.nil<|.K [0,1,2,7,8] I<|.rA 3 I (ndE h I)
 ·refine .exit<|.sA 2 I<|.ret ?_
  cases h
  exact zb9 I (.vec I (by simp))
theorem zkK (n t0 t1 t2 t3 r) (h:zcs n t0 t1 t2 t3=some r):Pure pg 142 [eA t0,eB t1,.bool t2,.int t3] (.tup [.int r.1,eA r.2.1,.bool r.2.2]):=by
 refine Pure.ot Tryz.func142 I Tryz.ntmps142 I λA w=>.S 1 I<|.p I (.nilS 1 (α:=Int) D.int I)<|.A 1 I<|.nil<|.seq<|.S 2 I<|.Z h I (ze9 _ _ _) λx1 h=>.A 1 I<|.nil<|.condS I h (λh=>?_) λh=>?_
 ·refine .S 1 I<|.p I (.nilS 1 (α:=Int) D.int I)<|.A 1 I<|.nil<|.ret ?_
  cases h
  exact zgQ I I I (.d _) (.d _) (.d _)
 ·refine .skip<|.seq<|.sA 1 I<|.block<|.L [0,1,2,3] h (λv=>[(11,.d (.int v))]) (λv=>[]) I λ_ x24 h=>.seq<|.S 2 I<|.p I (.len I U23 I)<|.A 1 I<|.nil<|.K [0,1,2,3,11,20] I<|.condS I h (λh=>?_) λh=>?_
  ·refine .skip<|.seq<|.block<|.S 3 I<|.X h I λx26 h=>.p I (.fa I (zgZ _))<|.A 3 I<|.nil<|.seq<|.plain 27 I<|.A 2 I<|.X h I λx27 h=>.p I (.fa I (zcY _))<|.A 1 I<|.Z h I (zeB _ _) λx28 h=>.A 1 I<|.p I (.beq I U4 I I)<|.A 1 I<|.jA 2 (decide (0≤t3)) I (λb29=>?_) ?_
   ·refine .A 2 I<|.nil I
   refine .A 1 I<|.jA 2 (decide (0≤sub64 t3 x26.first)) I (λb30=>?_) ?_
   ·refine .A 2 I<|.nil I
   refine .A 1 I<|gK h λc32 h=>gK h λc33 h=>.jA 9 (decide (sub64 t3 x26.first<((zak n t0 (((idx t1 x24).getD default).columns)).getD default))) I (λb31=>?_) ?_
   ·refine .A 4 I<|.q I (.ix I U23 S118 (someD (impT c32 b31)))<|.q I (.fa I (zbF _))<|.A 1 I<|.q I (.call I (kC I) I (zeA _ _ _ _ (someD (impT c33 b31))))<|.A 1 I<|.nil I
   refine .nil<|.nil<|.K [0,1,2,3,11,12,56] I<|.condS I h (λh=>?_) λh=>?_
   ·refine .S 4 I<|.X h I λx34 h=>.p I (.fa I (zbF _))<|.A 2 I<|.Z h I (zmI _ _ _ _) λx35 h=>.A 3 I<|.nil<|.ret ?_
    cases h
    exact zgQ I I I (.d _) (.d _) (.d _)
   ·refine .skip<|.rA 3 I (ndE h I)
  ·refine .exit<|.S 1 I<|.p I (.nilS 1 (α:=Int) D.int I)<|.A 1 I<|.nil<|.ret ?_
   cases h
   exact zgQ I I I (.d _) (.d _) (.d _)
theorem zi1 (n t0 r) (h:zhN n t0=some r):Pure pg 143 [.int t0] (.bool r):=by
 refine Pure.ot Tryz.func143 I Tryz.ntmps143 I λA w=>.sA 1 I<|.seq<|.plain 6 I<|.A 3 I<|.jO 2 (t0==3) I (λb1=>?_) ?_
 ·refine .A 2 I<|.nil I
 refine .nil<|.A 1 I<|.nil<|.ret (rO h I)
theorem zke (n t0 t1 r) (h:zaa n t0 t1=some r):Pure pg 106 [Model.enc t0,Effect.enc t1] (.bool r):=by
 refine Pure.ot Tryz.func106 I Tryz.ntmps106 I λA w=>.sA 3 I<|.S 1 I<|.Z h I (zeC _ _) λx1 h=>.p I (.len I U82 I)<|.A 1 I<|.nil<|.seq<|.sA 1 I<|.block<|.L [2,3,5] h (λv=>[(6,.d (.int v))]) (λv=>[]) I λ_ x20 h=>.seq<|.S 1 I<|.p I (.fa I (G63_0 _))<|.A 1 I<|.p I (.len I U59 I)<|.A 1 I<|.nil<|.K [2,3,5,6,22] I<|.condS I h (λh=>?_) λh=>?_
 ·refine .skip<|.seq<|.block<|.sr<|.p I (.fa I (G63_0 _))<|.A 2 I<|.X h I λx22 h=>.A 1 I<|.allocStore I I I I I I I I (by simp) I I Z137<|.nil<|.seq<|.draw 36 Hm (by kernel_rfl) (by kernel_rfl)<|.p I (.fa I (zf1 _))<|.A 3 I<|.jO 4 (decide ((x1.length:Int)≤x22.cell)) I (λb23=>?_) ?_
  ·refine .q I (.fa I (zf1 _))<|.A 3 I<|.nil I
  refine .A 1 I<|gK h λc26 h=>.jO 14 ((decide (0<x20))&&(decide (x22.cell≤((idx t1.delta (sub64 x20 1)).getD default).cell))) I (λb24=>?_) ?_
  ·refine .A 3 I<|.jAnd 10 (b2:=decide (x22.cell≤((idx t1.delta (sub64 x20 1)).getD default).cell)) I I I I (.inr ⟨_,_,_,I,I,I⟩) (λ_ _ _ h1 h2=>by cases h1;cases h2;decide) I I (λb25=>?_) ?_
   ·refine .q I (.fa I (G63_0 _))<|.A 3 I<|.q I (.ix I U59 S137 (someD (impT (impF c26 b24) b25)))<|.q I (.fa I (zf1 _))<|.A 1 I<|.q I (.fa I (zf1 _))<|.A 2 I<|.nil I
   exact .nil I
  refine .A 1 I<|.jO 3 (x22.add==0) I (λb27=>?_) ?_
  ·refine .q I (.fa I (zjx _))<|.A 2 I<|.nil I
  refine .A 1 I<|gK h λc29 h=>.jO 4 (!((zao n x22.add 1000000000).getD default)) I (λb28=>?_) ?_
  ·refine .q I (.fa I (zjx _))<|.A 1 I<|.q I (.call I (kC I) I (zdc _ _ _ _ (someD (impF c29 b28))))<|.A 1 I<|.nil I
  refine .nil<|.nil<|.K [2,3,5,6,65] I<|.condS I h (λh=>?_) λh=>?_
  ·refine .sA 1 I<|.ret (rO h I)
  ·refine .skip<|.rA 3 I (ndE h I)
 ·refine .exit<|.seq<|.sA 1 I<|.block<|.L [2,3,5] h (λv=>[(8,.d (.int v))]) (λv=>[]) I λ_ x36 h=>.seq<|.S 1 I<|.p I (.fa I (G63_1 _))<|.A 1 I<|.p I (.len I U60 I)<|.A 1 I<|.nil<|.K [2,3,5,8,70] I<|.condS I h (λh=>?_) λh=>?_
  ·refine .skip<|.seq<|.block<|.sr<|.p I (.fa I (G63_1 _))<|.A 2 I<|.X h I λx38 h=>.A 2 I<|.Z h I (zi0 _ _ _) λx39 h=>.A 1 I<|.nil<|.condS I h (λh=>?_) λh=>?_
   ·refine .sA 1 I<|.ret (rO h I)
   ·refine .skip<|.rA 3 I (ndE h I)
  ·refine .exit<|.seq<|.sA 1 I<|.block<|.L [2,3] h (λv=>[(9,.d (.int v))]) (λv=>[]) I λ_ x70 h=>.seq<|.S 1 I<|.p I (.fa I (G63_2 _))<|.A 1 I<|.p I (.len I U61 I)<|.A 1 I<|.nil<|.K [2,3,9,85] I<|.condS I h (λh=>?_) λh=>?_
   ·refine .skip<|.seq<|.block<|.sr<|.p I (.fa I (G63_2 _))<|.A 2 I<|.X h I λx72 h=>.A 1 I<|.allocStore I I I I I I I I (by simp) I I Z188<|.nil<|.S 4 I<|.p I (.fa I (ziJ _))<|.A 1 I<|.Z h I (zkK _ _ _ _ _) λx73 h=>.A 1 I<|.p I (.extract I I I)<|.p I (.extract I I I)<|.p I (.extract I I I)<|.A 3 I<|.nil<|.K [2,3,9,10,11,13] I<|.seq<|.seq<|.draw 18 Hm (by kernel_rfl) (by kernel_rfl)<|.A 3 I<|gK h λc76 h=>.jO 14 ((decide (0<x70))&&(decide (x72.cell≤((idx t1.updates (sub64 x70 1)).getD default).cell))) I (λb74=>?_) ?_
    ·refine .A 3 I<|.jAnd 10 (b2:=decide (x72.cell≤((idx t1.updates (sub64 x70 1)).getD default).cell)) I I I I (.inr ⟨_,_,_,I,I,I⟩) (λ_ _ _ h1 h2=>by cases h1;cases h2;decide) I I (λb75=>?_) ?_
     ·refine .q I (.fa I (G63_2 _))<|.A 3 I<|.q I (.ix I U61 S188 (someD (impT (impF c76 b74) b75)))<|.q I (.fa I (ziJ _))<|.A 1 I<|.q I (.fa I (ziJ _))<|.A 2 I<|.nil I
     exact .nil I
    refine .nil<|.nil<|.K [2,3,9,10,11,121] I<|.condS I h (λh=>?_) λh=>?_
    ·refine .sA 1 I<|.ret (rO h I)
    ·refine .skip<|.S 3 I<|.X h I λx77 h=>.A 1 I<|.allocStore I I I I I I I I (by simp) I I Z118<|.nil<|.seq<|.seq<|.plain 18 I<|.p I (.fa I (zcY _))<|.A 1 I<|.Z h I (zi1 _ _) λx78 h=>.A 1 I<|.jA 13 (((x72.kind != 0)&&(x72.kind != 1))||(x72.value != 0)) I (λb79=>?_) ?_
     ·refine .q I (.fa I (ziI _))<|.A 3 I<|.jAnd 3 (b2:=x72.kind != 1) I I I I (.inr ⟨_,_,_,I,I,I⟩) (λ_ _ _ h1 h2=>by cases h1;cases h2;decide) I I (λb80=>?_) ?_
      ·refine .q I (.fa I (ziI _))<|.A 2 I<|.nil I
      refine .A 1 I<|.jOr 3 (b2:=x72.value != 0) I I I I (.inr ⟨_,_,_,I,I,I⟩) (λ_ _ _ h1 h2=>by cases h1;cases h2;decide) I I (λb81=>?_) ?_
      ·refine .q I (.fa I (ziK _))<|.A 2 I<|.nil I
      exact .nil I
     refine .nil<|.nil<|.K [2,3,9,10,14,144] I<|.condS I h (λh=>?_) λh=>?_
     ·refine .sA 1 I<|.ret (rO h I)
     ·refine .skip<|.seq<|.plain 25 I<|.p I (.fa I (zcY _))<|.A 1 I<|.Z h I (zi1 _ _) λx82 h=>.A 2 I<|.jA 19 (((x72.kind != 2)||(decide (x72.value<x77.range.lo)))||(decide (x77.range.hi<x72.value))) I (λb83=>?_) ?_
      ·refine .q I (.fa I (ziI _))<|.A 3 I<|.jOr 6 (b2:=decide (x72.value<x77.range.lo)) I I I I (.inr ⟨_,_,_,I,I,I⟩) (λ_ _ _ h1 h2=>by cases h1;cases h2;decide) I I (λb84=>?_) ?_
       ·refine .q I (.fa I (ziK _))<|.A 1 I<|.q I (.fa I (zdV _))<|.q I (.fa I (G85_0 _))<|.A 2 I<|.nil I
       refine .A 1 I<|.jOr 6 (b2:=decide (x77.range.hi<x72.value)) I I I I (.inr ⟨_,_,_,I,I,I⟩) (λ_ _ _ h1 h2=>by cases h1;cases h2;decide) I I (λb85=>?_) ?_
       ·refine .q I (.fa I (ziK _))<|.A 1 I<|.q I (.fa I (zdV _))<|.q I (.fa I (G85_1 _))<|.A 2 I<|.nil I
       exact .nil I
      refine .nil<|.nil<|.K [2,3,9,169] I<|.condS I h (λh=>?_) λh=>?_
      ·refine .sA 1 I<|.ret (rO h I)
      ·refine .skip<|.rA 3 I (ndE h I)
   ·refine .exit<|.seq<|.plain 10 I<|.p I (.fa I (G63_1 _))<|.A 1 I<|.p I (.len I U60 I)<|.A 2 I<|.jA 4 (decide ((t1.updates.length:Int)≤32)) I (λb86=>?_) ?_
    ·refine .q I (.fa I (G63_2 _))<|.A 1 I<|.q I (.len I U61 I)<|.A 1 I<|.nil I
    refine .nil<|.A 1 I<|.nil<|.ret (rO h I)
theorem zjg (n t0 r) (h:zA n t0=some r):Pure pg 65 [Model.enc t0] (.bool r):=by
 refine Pure.ot Tryz.func65 I Tryz.ntmps65 I λA w=>.sA 2 I<|.sr<|.buildVec [] I I I I I E24 I (λ_=>I) I (enc:=D.str)<|.A 1 I<|.nil<|.seq<|.sA 1 I<|.block<|.L [1] h (λv=>[(3,.vec 0 (List.length v.1)),(4,.d (.int v.2))]) (λv=>[(0,.vec 9 1 (List.map D.str v.1))]) I λ_ ⟨b0_35,x36⟩ h=>.seq<|.S 3 I<|.p I (.len I U26 I)<|.A 1 I<|.nil<|.K [1,3,4,17] I<|.condS I h (λh=>?_) λh=>?_
 ·refine .skip<|.seq<|.block<|.S 3 I<|.X h I λx38 h=>.A 1 I<|.allocStore I I I I I I I I (by simp) I I Z133<|.nil<|.S 1 I<|.p I (.fa I (zoA _))<|.A 1 I<|.p I (.buildSl [_] I I E24 I (λ_=>I) I (enc:=D.str))<|bK h λx39 q39 h=>.app I I I I I I I I E24 I (λ_=>I) q39<|.A 1 I<|.nil<|.seq<|.sA 1 I<|.block<|.L [1,3,4,5] h (λv=>[(6,.d (.int v))]) (λv=>[]) I λ_ x48 h=>.seq<|.S 1 I<|.p I (.fa I (zfh _))<|.A 1 I<|.p I (.len I U22 I)<|.A 1 I<|.nil<|.K [1,3,4,5,6,34] I<|.condS I h (λh=>?_) λh=>?_
  ·refine .skip<|.seq<|.block<|.seq<|.draw 17 Hm (by kernel_rfl) (by kernel_rfl)<|.p I (.fa I (zfh _))<|.A 2 I<|.X h I λx50 h=>.A 3 I<|gK h λc52 h=>.jO 9 (decide ((t0.sorts.length:Int)≤((idx x38.sorts x48).getD default))) I (λb51=>?_) ?_
   ·refine .q I (.fa I (zfh _))<|.A 2 I<|.q I (.ix I U22 S3 (someD (impF c52 b51)))<|.A 3 I<|.q I (.len I U22 I)<|.A 1 I<|.nil I
   refine .nil<|.nil<|.K [1,3,4,5,6,53] I<|.condS I h (λh=>?_) λh=>?_
   ·refine .sA 1 I<|.ret (rO h I)
   ·refine .skip<|.rA 3 I (ndE h I)
  ·refine .exit<|.sr<|.p I (.fa I (zfh _))<|.A 1 I<|.p I (.len I U22 I)<|.A 1 I<|.nil<|.condS I h (λh=>?_) λh=>?_
   ·refine .sA 1 I<|.ret (rO h I)
   ·refine .skip<|.rA 3 I (ndE h I)
 ·refine .exit<|.seq<|.seq<|.plain 15 I<|.A 2 I<|.p I (.len I U26 I)<|.A 2 I<|gK h λc54 h=>.jO 3 (!((zav n b0_35).getD default)) I (λb53=>?_) ?_
  ·refine .A 1 I<|.q I (.callB I (kC I) (.cons I (.vec I (by simp)) .nil) I (zfv _ _ _ (someD (impF c54 b53))))<|.A 1 I<|.nil I
  refine .A 1 I<|.jO 4 (decide (256<(t0.actions.length:Int))) I (λb55=>?_) ?_
  ·refine .A 2 I<|.q I (.len I U27 I)<|.A 1 I<|.nil I
  refine .nil<|.nil<|.condS I h (λh=>?_) λh=>?_
  ·refine .sA 1 I<|.K [2] I<|.ret (rO h I)
  ·refine .skip<|.seq<|.sA 1 I<|.K [1,7] I<|.block<|.L [1] h (λv=>[(7,.d (.int v))]) (λv=>[]) I λ_ x152 h=>.seq<|.S 3 I<|.p I (.len I U27 I)<|.A 1 I<|.nil<|.K [1,7,77] I<|.condS I h (λh=>?_) λh=>?_
   ·refine .skip<|.seq<|.block<|.S 3 I<|.X h I λx154 h=>.A 1 I<|.allocStore I I I I I I I I (by simp) I I Z65<|.nil<|.seq<|.seq<|.draw 25 Hm (by kernel_rfl) (by kernel_rfl)<|.p I (.fa I (G65_0 _))<|.A 3 I<|.jO 6 (decide ((t0.operations.length:Int)≤x154.operation)) I (λb155=>?_) ?_
    ·refine .q I (.fa I (G65_0 _))<|.A 3 I<|.q I (.len I U26 I)<|.A 1 I<|.nil I
    refine .A 1 I<|gK h λc157 h=>.jO 12 ((x154.arguments.length:Int) != ((((idx t0.operations x154.operation).getD default).sorts).length:Int)) I (λb156=>?_) ?_
    ·refine .q I (.fa I (G65_1 _))<|.A 1 I<|.q I (.len I U22 I)<|.A 2 I<|.q I (.fa I (G65_0 _))<|.A 1 I<|.q I (.ix I U26 S133 (someD (impF c157 b156)))<|.q I (.fa I (zfh _))<|.A 1 I<|.q I (.len I U22 I)<|.A 1 I<|.nil I
    refine .nil<|.nil<|.K [1,7,8,109] I<|.condS I h (λh=>?_) λh=>?_
    ·refine .sA 1 I<|.ret (rO h I)
    ·refine .skip<|.seq<|.sA 1 I<|.block<|.L [1,7,8] h (λv=>[(9,.d (.int v))]) (λv=>[]) I λ_ x182 h=>.seq<|.S 1 I<|.p I (.fa I (G65_1 _))<|.A 1 I<|.p I (.len I U22 I)<|.A 1 I<|.nil<|.K [1,7,8,9,114] I<|.condS I h (λh=>?_) λh=>?_
     ·refine .skip<|.seq<|.block<|.S 2 I<|.p I (.fa I (G65_0 _))<|.A 1 I<|.X h I λx184 h=>.p I (.fa I (zfh _))<|.A 2 I<|.X h I λx185 h=>.A 2 I<|.nil<|.seq<|.draw 36 Hm (by kernel_rfl) (by kernel_rfl)<|.A 3 I<|gK h λc187 h=>gK h λc188 h=>.jA 7 (!((zao n ((idx x154.arguments x182).getD default) 9999).getD default)) I (λb186=>?_) ?_
      ·refine .q I (.fa I (G65_1 _))<|.A 2 I<|.q I (.ix I U22 S3 (someD (impT c187 b186)))<|.A 1 I<|.q I (.call I (kC I) I (zdc _ _ _ _ (someD (impT c188 b186))))<|.A 1 I<|.nil I
      refine .A 1 I<|gK h λc191 h=>gK h λc193 h=>gK h λc194 h=>.jO 23 ((decide (0≤x185))&&((decide (((idx x154.arguments x182).getD default)<0))||(decide (((idx t0.sorts x185).getD default)≤((idx x154.arguments x182).getD default))))) I (λb189=>?_) ?_
      ·refine .A 3 I<|.jAnd 19 (b2:=(decide (((idx x154.arguments x182).getD default)<0))||(decide (((idx t0.sorts x185).getD default)≤((idx x154.arguments x182).getD default)))) I I I I (.inr ⟨_,_,_,I,I,I⟩) (λ_ _ _ h1 h2=>by cases h1;cases h2;decide) I I (λb190=>?_) ?_
       ·refine .q I (.fa I (G65_1 _))<|.A 2 I<|.q I (.ix I U22 S3 (someD (impT (impF c191 b189) b190)))<|.A 3 I<|.jOr 11 (b2:=decide (((idx t0.sorts x185).getD default)≤((idx x154.arguments x182).getD default))) I I I I (.inr ⟨_,_,_,I,I,I⟩) (λ_ _ _ h1 h2=>by cases h1;cases h2;decide) I I (λb192=>?_) ?_
        ·refine .q I (.fa I (G65_1 _))<|.A 2 I<|.q I (.ix I U22 S3 (someD (impF (impT (impF c193 b189) b190) b192)))<|.A 4 I<|.q I (.ix I U22 S3 (someD (impF (impT (impF c194 b189) b190) b192)))<|.A 2 I<|.nil I
        exact .nil I
       exact .nil I
      refine .nil<|.nil<|.K [1,7,8,9,162] I<|.condS I h (λh=>?_) λh=>?_
      ·refine .sA 1 I<|.ret (rO h I)
      ·refine .skip<|.rA 3 I (ndE h I)
     ·refine .exit<|.J [1,7,8] h (λv=>[]) (λv=>[]) I (λk_195 h=>?_) (λv h=>?_)
      ·refine .sA 2 I<|.condS I h (λh=>?_) λh=>?_
       ·refine .S 4 I<|.X h I λx196 h=>.A 1 I<|.allocStore I I I I I I I I (by simp) I I Z65<|.nil<|.seq<|.plain 20 I<|.p I (.fa I (G65_0 _))<|.A 1 I<|.p I (.fa I (G65_0 _))<|.A 3 I<|gK h λc199 h=>.jO 13 ((x196.operation==x154.operation)&&(!((zbV n x196.arguments x154.arguments).getD default))) I (λb197=>?_) ?_
        ·refine .q I (.fa I (G65_0 _))<|.A 1 I<|.q I (.fa I (G65_0 _))<|.A 3 I<|.jAnd 6 (b2:=!((zbV n x196.arguments x154.arguments).getD default)) I I I I (.inr ⟨_,_,_,I,I,I⟩) (λ_ _ _ h1 h2=>by cases h1;cases h2;decide) I I (λb198=>?_) ?_
         ·refine .q I (.fa I (G65_1 _))<|.A 1 I<|.q I (.fa I (G65_1 _))<|.A 1 I<|.q I (.call I (kC I) I (zlS _ _ _ _ (someD (impT (impF c199 b197) b198))))<|.A 1 I<|.nil I
         exact .nil I
        refine .nil<|.nil<|.K [1,7,8,190] I<|.condS I h (λh=>?_) λh=>?_
        ·refine .sA 1 I<|.ret (rO h I)
        ·refine .skip (ndE h I)
       ·refine .skip (ndE h I)
      ·refine .S 1 I<|.p I (.fa I (G65_2 _))<|.A 1 I<|.Z h I (zke _ _ _) λx200 h=>.A 1 I<|.nil<|.K [1,7,195] I<|.condS I h (λh=>?_) λh=>?_
       ·refine .sA 1 I<|.ret (rO h I)
       ·refine .skip<|.rA 3 I (ndE h I)
   ·refine .exit<|.sA 1 I<|.ret (rO h I)
theorem zjh (n:Nat) (self:Model→Int→Int→Int→Option Bool) (hself:∀ (t0:Model) (t1:Int) (t2:Int) (t3:Int) (r:Bool),self t0 t1 t2 t3=some r→Pure pg 107 [Model.enc t0,.int t1,.int t2,.int t3] (.bool r)) (t0:Model) (t1:Int) (t2:Int) (t3:Int) (r:Bool) (h:zaz.body n self t0 t1 t2 t3=some r):Pure pg 107 [Model.enc t0,.int t1,.int t2,.int t3] (.bool r):=by
 refine Pure.ot Tryz.func107 I Tryz.ntmps107 I λA w=>.sA 2 I<|.seq<|.sA 3 I<|.condS I h (λh=>?_) λh=>?_
 ·refine .sA 1 I<|.ret (rO h I)
 ·refine .skip<|.seq<|.sA 1 I<|.block<|.L [1,2,3,4] h (λv=>[(9,.d (.int v))]) (λv=>[]) I λ_ x13 h=>.seq<|.seq<|.plain 9 I<|.A 3 I<|.p I (.len I U28 I)<|.A 2 I<|.jA 2 (decide (0<t3)) I (λb15=>?_) ?_
  ·refine .A 2 I<|.nil I
  refine .nil<|.nil<|.K [1,2,3,4,9,21] I<|.condS I h (λh=>?_) λh=>?_
  ·refine .skip<|.seq<|.block<|.seq<|.draw 21 Hm (by kernel_rfl) (by kernel_rfl)<|.A 3 I<|.X h I λx16 h=>.p I (.fa I (zgb _))<|.A 4 I<|gK h λc18 h=>gK h λc19 h=>.jA 11 (((self t0 (((idx t0.hides x13).getD default).to) t2 (sub64 t3 1)).getD default)) I (λb17=>?_) ?_
   ·refine .A 4 I<|.q I (.ix I U28 S161 (someD (impT c18 b17)))<|.q I (.fa I (zg0 _))<|.A 4 I<|.q I (.call I (kC I) I (hself _ _ _ _ _ (someD (impT c19 b17))))<|.nil I
   refine .nil<|.nil<|.K [1,2,3,4,9,44] I<|.condS I h (λh=>?_) λh=>?_
   ·refine .sA 1 I<|.ret (rO h I)
   ·refine .skip<|.rA 3 I (ndE h I)
  ·refine .exit<|.sA 1 I<|.ret (rO h I)
theorem zg8  : ∀ (n:Nat) (t0:Model) (t1:Int) (t2:Int) (t3:Int) (r:Bool) (h:zaz n t0 t1 t2 t3=some r),Pure pg 107 [Model.enc t0,.int t1,.int t2,.int t3] (.bool r)
 | 0,t0,t1,t2,t3,r,h=>by cases h
 | n+1,t0,t1,t2,t3,r,h=>zjh n (zaz n) (zg8 n) t0 t1 t2 t3 r h
theorem zkg (n t0 r) (h:zax n t0=some r):Pure pg 66 [Model.enc t0] (.bool r):=by
 refine Pure.ot Tryz.func66 I Tryz.ntmps66 I λA w=>.sA 2 I<|.seq<|.S 2 I<|.p I (.len I U28 I)<|.A 1 I<|.nil<|.condS I h (λh=>?_) λh=>?_
 ·refine .sA 1 I<|.ret (rO h I)
 ·refine .skip<|.seq<|.sA 1 I<|.block<|.L [1] h (λv=>[(3,.d (.int v))]) (λv=>[]) I λ_ x31 h=>.seq<|.S 3 I<|.p I (.len I U28 I)<|.A 1 I<|.nil<|.K [1,3,16] I<|.condS I h (λh=>?_) λh=>?_
  ·refine .skip<|.seq<|.block<|.S 3 I<|.X h I λx33 h=>.A 1 I<|.allocStore I I I I I I I I (by simp) I I Z161<|.nil<|.seq<|.seq<|.plain 31 I<|.p I (.fa I (zgb _))<|.A 3 I<|.jO 6 (decide ((t0.tables.length:Int)≤x33.table)) I (λb34=>?_) ?_
   ·refine .q I (.fa I (zgb _))<|.A 3 I<|.q I (.len I U23 I)<|.A 1 I<|.nil I
   refine .A 1 I<|.jO 3 (decide (x33.to<0)) I (λb35=>?_) ?_
   ·refine .q I (.fa I (zg0 _))<|.A 2 I<|.nil I
   refine .A 1 I<|.jO 6 (decide ((t0.tables.length:Int)≤x33.to)) I (λb36=>?_) ?_
   ·refine .q I (.fa I (zg0 _))<|.A 3 I<|.q I (.len I U23 I)<|.A 1 I<|.nil I
   refine .A 1 I<|.jO 5 (x33.table==x33.to) I (λb37=>?_) ?_
   ·refine .q I (.fa I (zgb _))<|.A 1 I<|.q I (.fa I (zg0 _))<|.A 2 I<|.nil I
   refine .nil<|.nil<|.K [1,3,4,54] I<|.condS I h (λh=>?_) λh=>?_
   ·refine .sA 1 I<|.ret (rO h I)
   ·refine .skip<|.seq<|.draw 16 Hm (by kernel_rfl) (by kernel_rfl)<|.A 2 I<|.p I (.fa I (zgb _))<|.A 1 I<|.X h I λx38 h=>.A 3 I<|.p I (.fa I (zg0 _))<|.A 1 I<|.X h I λx39 h=>.A 1 I<|.alloc I I I I ZZ118<|.alloc I I I I ZZ118<|.store I I I I I I Z118<|.store I I I I I I Z118<|.nil<|.freezes [0,1] (.cons (t:=5) (d:=.ref (Table.enc x38)) I (.loc (inIds I) I (.v (.v (.v (.v (.v .v1)))))) (.cons (t:=6) (d:=.ref (Table.enc x39)) I (.loc (inIds I) I (.v (.v (.v (.v (.v .v1)))))) .nil))<|.nil<|.K [1,3,4,5,6] I<|.seq<|.draw 40 Hm (by kernel_rfl) (by kernel_rfl)<|.p I (.fa I (zcY _))<|.A 3 I<|.jO 3 (x39.kind != 0) I (λb40=>?_) ?_
    ·refine .q I (.fa I (zcY _))<|.A 2 I<|.nil I
    refine .A 1 I<|.jO 3 (decide (x33.column<0)) I (λb41=>?_) ?_
    ·refine .q I (.fa I (zl3 _))<|.A 2 I<|.nil I
    refine .A 1 I<|.jO 6 (decide ((x38.columns.length:Int)≤x33.column)) I (λb42=>?_) ?_
    ·refine .q I (.fa I (zl3 _))<|.A 1 I<|.q I (.fa I (zbF _))<|.A 1 I<|.q I (.len I U22 I)<|.A 1 I<|.nil I
    refine .A 1 I<|.jO 4 ((x39.columns.length:Int) != 1) I (λb43=>?_) ?_
    ·refine .q I (.fa I (zbF _))<|.A 1 I<|.q I (.len I U22 I)<|.A 1 I<|.nil I
    refine .A 1 I<|gK h λc45 h=>gK h λc46 h=>.jO 11 (((idx x39.columns 0).getD default) != ((idx x38.columns x33.column).getD default)) I (λb44=>?_) ?_
    ·refine .q I (.fa I (zbF _))<|.A 1 I<|.q I (.ix I U22 S3 (someD (impF c45 b44)))<|.A 1 I<|.q I (.fa I (zbF _))<|.A 1 I<|.q I (.fa I (zl3 _))<|.A 1 I<|.q I (.ix I U22 S3 (someD (impF c46 b44)))<|.A 2 I<|.nil I
    refine .nil<|.nil<|.K [1,3,106] I<|.condS I h (λh=>?_) λh=>?_
    ·refine .sA 1 I<|.ret (rO h I)
    ·refine .skip<|.rA 3 I (ndE h I)
  ·refine .exit<|.seq<|.sA 1 I<|.block<|.L [1] h (λv=>[(7,.d (.int v))]) (λv=>[]) I λ_ x55 h=>.seq<|.S 3 I<|.p I (.len I U28 I)<|.A 1 I<|.nil<|.K [1,7,111] I<|.condS I h (λh=>?_) λh=>?_
   ·refine .skip<|.seq<|.block<|.seq<|.draw 17 Hm (by kernel_rfl) (by kernel_rfl)<|.A 4 I<|.X h I λx57 h=>.p I (.fa I (zg0 _))<|.A 4 I<|.X h I λx58 h=>.p I (.fa I (zgb _))<|.A 3 I<|.p I (.len I U23 I)<|.Z h I (zg8 _ _ _ _ _) λx59 h=>.nil<|.nil<|.K [1,7,130] I<|.condS I h (λh=>?_) λh=>?_
    ·refine .sA 1 I<|.ret (rO h I)
    ·refine .skip<|.rA 3 I (ndE h I)
   ·refine .exit<|.sA 1 I<|.ret (rO h I)
theorem zfb (n t0 r) (h:zdJ n t0=some r):Pure pg 26 [Model.enc t0] (.bool r):=by
 refine Pure.ot Tryz.func26 I Tryz.ntmps26 I λA w=>.sA 2 I<|.seq<|.seq<|.plain 18 I<|.A 4 I<|.Z h I (ze9 _ _ _) λx1 h=>.A 2 I<|.jO 4 (decide (24<(t0.families.length:Int))) I (λb2=>?_) ?_
 ·refine .A 2 I<|.q I (.len I U24 I)<|.A 1 I<|.nil I
 refine .A 1 I<|gK h λc4 h=>.jO 4 (!((zav n t0.families).getD default)) I (λb3=>?_) ?_
 ·refine .A 2 I<|.q I (.call I (kC I) I (zfv _ _ _ (someD (impF c4 b3))))<|.A 1 I<|.nil I
 refine .nil<|.nil<|.K [1,20] I<|.condS I h (λh=>?_) λh=>?_
 ·refine .sA 1 I<|.ret (rO h I)
 ·refine .skip<|.seq<|.plain 10 I<|.A 1 I<|.Z h I (zgV _ _) λx5 h=>.A 1 I<|gK h λc7 h=>.jA 2 (((zA n t0).getD default)) I (λb6=>?_) ?_
  ·refine .A 1 I<|.q I (.call I (kC I) I (zjg _ _ _ (someD (impT c7 b6))))<|.nil I
  refine .A 1 I<|gK h λc9 h=>.jA 2 (((zax n t0).getD default)) I (λb8=>?_) ?_
  ·refine .A 1 I<|.q I (.call I (kC I) I (zkg _ _ _ (someD (impT c9 b8))))<|.nil I
  refine .nil<|.A 1 I<|.nil<|.ret (rO h I)
theorem zkQ (n t0 t1 r) (h:zfQ n t0 t1=some r):Pure pg 15 [Model.enc t0,Question.enc t1] (.bool r):=by
 refine Pure.ot Tryz.func15 I Tryz.ntmps15 I λA w=>.sA 3 I<|.seq<|.seq<|.plain 35 I<|.A 1 I<|.Z h I (zfb _ _) λx1 h=>.A 2 I<|.jO 3 (decide (t1.e<0)) I (λb2=>?_) ?_
 ·refine .q I (.fa I (G34_0 _))<|.A 2 I<|.nil I
 refine .A 1 I<|.jO 3 (decide (t1.f<0)) I (λb3=>?_) ?_
 ·refine .q I (.fa I (G34_1 _))<|.A 2 I<|.nil I
 refine .A 1 I<|.jO 6 (decide ((t0.actions.length:Int)≤t1.e)) I (λb4=>?_) ?_
 ·refine .q I (.fa I (G34_0 _))<|.A 3 I<|.q I (.len I U27 I)<|.A 1 I<|.nil I
 refine .A 1 I<|.jO 6 (decide ((t0.actions.length:Int)≤t1.f)) I (λb5=>?_) ?_
 ·refine .q I (.fa I (G34_1 _))<|.A 3 I<|.q I (.len I U27 I)<|.A 1 I<|.nil I
 refine .A 1 I<|.jO 4 (decide (t1.target.index<0)) I (λb6=>?_) ?_
 ·refine .q I (.fa I (G34_2 _))<|.q I (.fa I (G32_1 _))<|.A 2 I<|.nil I
 refine .nil<|.nil<|.K [2,3,39] I<|.condS I h (λh=>?_) λh=>?_
 ·refine .sA 1 I<|.ret (rO h I)
 ·refine .skip<|.seq<|.sr<|.p I (.fa I (G34_2 _))<|.p I (.fa I (G32_0 _))<|.A 1 I<|.nil<|.condS I h (λh=>?_) λh=>?_
  ·refine .seq<|.draw 14 Hm (by kernel_rfl) (by kernel_rfl)<|.p I (.fa I (G34_2 _))<|.p I (.fa I (G32_1 _))<|.A 3 I<|.p I (.fa I (G34_0 _))<|.A 1 I<|.X h I λx7 h=>.p I (.fa I (G65_2 _))<|.p I (.fa I (G63_1 _))<|.A 1 I<|.p I (.len I U60 I)<|.A 2 I<|.nil<|.nil<|.K [4] I<|.ret (rO h I)
  ·refine .skip<|.seq<|.plain 14 I<|.p I (.fa I (G34_0 _))<|.A 1 I<|.p I (.fa I (G34_1 _))<|.A 3 I<|.jA 7 (decide (t1.target.index<(t0.constraints.length:Int))) I (λb8=>?_) ?_
   ·refine .q I (.fa I (G34_2 _))<|.q I (.fa I (G32_1 _))<|.A 3 I<|.q I (.len I U25 I)<|.A 1 I<|.nil I
   refine .nil<|.A 1 I<|.nil<|.K [4] I<|.ret (rO h I)
theorem zf6 (n t0 t1 r) (h:zcS n t0 t1=some r):Pure pg 121 [Swap.enc t0,.int t1] (.int r):=by
 refine Pure.ot Tryz.func121 I Tryz.ntmps121 I λA w=>.sA 2 I<|.seq<|.sA 1 I<|.block<|.sA 4 I<|.condS I h (λh=>?_) λh=>?_
 ·refine .sr<|.p I (.fa I (G41_2 _))<|.A 2 I<|.nil<|.ret (rO h I)
 ·refine .sr<|.p I (.fa I (G41_2 _))<|.A 3 I<|.nil<|.condS I h (λh=>?_) λh=>?_
  ·refine .sA 3 I<|.ret (rO h I)
  ·refine .skip<|.sA 2 I<|.ret (rO h I)
theorem zki (n t0 r) (h:zgy n t0=some r):Pure pg 69 [.int t0] (.bool r):=by
 refine Pure.ot Tryz.func69 I Tryz.ntmps69 I λA w=>.sA 1 I<|.seq<|.plain 6 I<|.A 3 I<|.jO 2 (t0==1) I (λb1=>?_) ?_
 ·refine .A 2 I<|.nil I
 refine .nil<|.A 1 I<|.nil<|.ret (rO h I)
theorem zkN (n t0 t1 r) (h:zbN n t0 t1=some r):Pure pg 70 [Model.enc t0,Table.enc t1] (.int r):=by
 refine Pure.ot Tryz.func70 I Tryz.ntmps70 I λA w=>.sA 3 I<|.sA 1 I<|.seq<|.sA 1 I<|.block<|.L [2,3] h (λv=>[(5,.d (.int v.1)),(6,.d (.int v.2))]) (λv=>[]) I λ_ ⟨x9,x10⟩ h=>.seq<|.S 1 I<|.p I (.fa I (zbF _))<|.A 1 I<|.p I (.len I U22 I)<|.A 1 I<|.nil<|.K [2,3,5,6,11] I<|.condS I h (λh=>?_) λh=>?_
 ·refine .skip<|.seq<|.block<|.draw 12 Hm (by kernel_rfl) (by kernel_rfl)<|.A 3 I<|.p I (.fa I (zbF _))<|.A 2 I<|.X h I λx12 h=>.A 1 I<|.X h I λx13 h=>.A 3 I<|.nil<|.nil<|.rA 3 I (ndE h I)
 ·refine .exit<|.sA 2 I<|.ret (rO h I)
theorem zfR (n t0 t1 t2 t3 r) (h:zaT n t0 t1 t2 t3=some r):Pure pg 76 [Model.enc t0,Swap.enc t1,.int t2,.bool t3] (.int r):=by
 refine Pure.ot Tryz.func76 I Tryz.ntmps76 I λA w=>.sA 3 I<|.seq<|.sA 1 I<|.block<|.L [2,3,4,5] h (λv=>[(9,.d (.int v))]) (λv=>[]) I λ_ x87 h=>.seq<|.S 3 I<|.p I (.len I U23 I)<|.A 1 I<|.nil<|.K [2,3,4,5,9,21] I<|.condS I h (λh=>?_) λh=>?_
 ·refine .skip<|.seq<|.block<|.S 3 I<|.X h I λx89 h=>.A 1 I<|.allocStore I I I I I I I I (by simp) I I Z118<|.nil<|.S 1 I<|.p I (.fa I (zgZ _))<|.A 3 I<|.nil<|.seq<|.seq<|.plain 16 I<|.p I (.fa I (zcY _))<|.A 1 I<|.Z h I (zki _ _) λx90 h=>.A 1 I<|.p I (.bne I U4 I I)<|.A 1 I<|.jO 2 (decide (sub64 t2 x89.first<0)) I (λb91=>?_) ?_
  ·refine .A 2 I<|.nil I
  refine .A 1 I<|gK h λc93 h=>.jO 5 (decide (((zbN n t0 x89).getD default)≤sub64 t2 x89.first)) I (λb92=>?_) ?_
  ·refine .A 3 I<|.q I (.call I (kC I) I (zkN _ _ _ _ (someD (impF c93 b92))))<|.A 1 I<|.nil I
  refine .nil<|.nil<|.K [2,3,4,5,9,10,11,48] I<|.condS I h (λh=>?_) λh=>?_
  ·refine .exit<|.rA 3 I (ndE h I)
  ·refine .skip<|.sA 1 I<|.sA 1 I<|.seq<|.sr<|.p I (.fa I (zbF _))<|.A 1 I<|.p I (.len I U22 I)<|.A 2 I<|.nil<|.block<|.L [4,5,10] h (λv=>[(11,.d (.int v.1)),(12,.d (.int v.2.1)),(13,.d (.int v.2.2.1)),(14,.d (.int v.2.2.2))]) (λv=>[]) I λ_ ⟨x118,x119,x120,x121⟩ h=>.seq<|.sA 2 I<|.condS I h (λh=>?_) λh=>?_
   ·refine .skip<|.seq<|.block<|.seq<|.draw 10 Hm (by kernel_rfl) (by kernel_rfl)<|.A 2 I<|.p I (.fa I (zbF _))<|.A 2 I<|.X h I λx123 h=>.A 1 I<|.X h I λx124 h=>.A 2 I<|.nil<|.nil<|.S 2 I<|bK h λx125 q125 h=>.p I (.rem6 I I I q125)<|.A 1 I<|.nil<|.J [4,5,10,11,12,13,14,15] h (λv=>[(16,.d (.int v))]) (λv=>[]) I (λk_127 h=>?_) (λx126 h=>?_)
    ·refine .seq<|.draw 8 Hm (by kernel_rfl) (by kernel_rfl)<|.p I (.fa I (zbF _))<|.A 2 I<|.X h I λx128 h=>.A 4 I<|.nil<|.nil<|.K [4,5,10,11,12,13,14,15,16,76] I<|.condS I h (λh=>?_) λh=>?_
     ·refine .region<|.A 2 I<|.Z h I (zf6 _ _ _) λx129 h=>.A 1 I<|.nil (ndE h I)
     ·refine .skip (ndE h I)
    ·refine .sA 6 I<|.K [4,5,10,11,12,13,14,15] I<|.sA 4 I<|.region<|.A 2 I<|bK h λx130 q130 h=>.p I (.quo6 I I I q130)<|.A 1 I<|.nil<|.rA 3 I (ndE h I)
   ·refine .exit<|.sr<|.p I (.fa I (zgZ _))<|.A 4 I<|.nil<|.ret (rO h I)
 ·refine .exit<|.sA 1 I<|.ret (rO h I)
theorem zgz (n t0 t1 t2 r) (h:zbD n t0 t1 t2=some r):Pure pg 78 [Model.enc t0,Swap.enc t1,Row.enc t2] (Row.enc r):=by
 refine Pure.ot Tryz.func78 I Tryz.ntmps78 I λA w=>.S 3 I<|.allocZ I I I I (.agg Zc72 (ds':=[eL [],.int 0]) (.o .e1)) I<|.nil<|.sr<|.p I (.fa I (G72_1 _))<|.A 1 I<|.p I (.castD (Row.enc (⟨[],t2.bound⟩:Row)) I (.build I Pl72 (.agg Zc72 (ds':=[eL [],_]) (.o .e1)) I I))<|.allocZ I I I I (.agg Zc72 (ds':=[eL [],.int 0]) (.o .e1)) I<|.store I I I I I I (.ofD I) C72 I (yd I)<|.nil<|.seq<|.sA 1 I<|.block<|.L [3,4,5,6,7] h (λv=>[(8,.d (.int v.2))]) (λv=>[(1,.box 72 [.d (eL v.1),.d (.int t2.bound)])]) I λ_ ⟨c1_0_85,x86⟩ h=>.seq<|.S 1 I<|.p I (.fa I (G72_0 _))<|.A 1 I<|.p I (.len I U70 I)<|.A 1 I<|.nil<|.K [3,4,5,6,7,8,20] I<|.condS I h (λh=>?_) λh=>?_
 ·refine .skip<|.seq<|.block<|.seq<|.draw 18 Hm (by kernel_rfl) (by kernel_rfl)<|.A 2 I<|.p I (.fa I (G72_0 _))<|.A 2 I<|.X h I λx88 h=>.A 2 I<|.Z h I (zfR _ _ _ _ _) λx89 h=>.p I (.fa I (G72_0 _))<|.A 2 I<|.X h I λx90 h=>.p I (.fa I (ziG _))<|.A 1 I<|.p I (.castD (Term.enc (⟨x89,x90.factor⟩:Term)) I (.build I Pl129 (.agg Zc129 (ds':=[_,_]) (.e .e1)) I I))<|.alloc I I I I ZZ129<|.store I I I I I I Z129<|.nil<|.freezes [2] (.cons (t:=9) (d:=.ref (Term.enc (⟨x89,x90.factor⟩:Term))) I (.loc (inIds I) I (.v .v1)) .nil)<|.nil<|.K [3,4,5,6,7,8,9] I<|.sr<|.buildVec [] I I I I I E70 I (λ_=>I) I (enc:=Term.enc)<|.A 1 I<|.nil<|.sA 1 I<|.seq<|.sA 1 I<|.block<|.L [3,4,5,6,7,8,9] h (λv=>[(10,.vec 3 (List.length v.1)),(11,.d (.bool v.2.1)),(12,.d (.int v.2.2))]) (λv=>[(3,.vec 129 2 (List.map Term.enc v.1))]) I λ_ ⟨b3_113,x114,x115⟩ h=>.seq<|.S 1 I<|.p I (.fieldAddrLoc I I I F72_0)<|.p I (.loadLoc1 I I I Y70 I) ?_
  refine .p I (.len I U70 I)<|.A 1 I<|.nil<|.K [3,4,5,6,7,8,9,10,11,12,44] I<|.condS I h (λh=>?_) λh=>?_
  ·refine .skip<|.seq<|.block<|.J [3,4,5,6,7,8,9,12] h (λv=>[(10,.vec 3 (List.length v.1)),(11,.d (.bool v.2))]) (λv=>[(3,.vec 129 2 (List.map Term.enc v.1))]) I (λk_119 h=>?_) (λv h=>?_)
   ·refine .seq<|.draw 13 Hm (by kernel_rfl) (by kernel_rfl)<|.A 3 I<|gK h λc121 h=>.jA 9 (decide (x89<((idx c1_0_85 x115).getD default).cell)) I (λb120=>?_) ?_
    ·refine .q I (.fieldAddrLoc I I I F72_0)<|.q I (.loadLoc1 I I I Y70 I)<|.A 1 I<|.q I (.ix I U70 S129 (someD (impT c121 b120)))<|.A 5 I<|.nil I
    refine .nil<|.nil<|.condS I h (λh=>?_) λh=>?_
    ·refine .S 2 I<|.p I (.buildSl [_] I I E70 I (λ_=>I) I (enc:=Term.enc))<|bK h λx122 q122 h=>.app I I I I I I I I E70 I (λ_=>I) q122<|.A 1 I<|.nil<|.K [3,4,5,6,7,8,9,10,12] I<|.rA 1 I (ndE h I)
    ·refine .skip (ndE h I)
   ·obtain ⟨b3_117,x118⟩:=v
    refine .region<|.A 1 I<|.p I (.fieldAddrLoc I I I F72_0)<|.p I (.loadLoc1 I I I Y70 I)<|.A 1 I<|.X h I λx123 h=>.A 1 I<|.p I (.buildSl [_] I I E70 I (λ_=>I) I (enc:=Term.enc))<|bK h λx124 q124 h=>.app I I I I I I I I E70 I (λ_=>I) q124<|.A 1 I<|.nil<|.K [3,4,5,6,7,8,9,10,11,12] I<|.rA 3 I (ndE h I)
  ·refine .exit<|.J [3,4,5,6,7,8] h (λv=>[(10,.vec 3 (List.length v))]) (λv=>[(3,.vec 129 2 (List.map Term.enc v))]) I (λk_126 h=>?_) (λb3_125 h=>?_)
   ·refine .sA 2 I<|.condS I h (λh=>?_) λh=>?_
    ·refine .region<|.A 2 I<|.p I (.buildSl [_] I I E70 I (λ_=>I) I (enc:=Term.enc))<|bK h λx127 q127 h=>.app I I I I I I I I E70 I (λ_=>I) q127<|.A 1 I<|.nil (ndE h I)
    ·refine .skip (ndE h I)
   ·refine .freezes [3] (.cons (t:=10) I (.vec (inIds I) I (by simp)) .nil)<|.region<|.A 1 I<|.p I (.fieldAddrLoc I I I F72_0)<|.store I I I I I I (.ofD I) C70 I (yd I)<|.nil<|.K [3,4,5,6,7,8] I<|.rA 3 I (ndE h I)
 ·refine .exit<|.sr<|.p I (.loadLoc I I I Y72 (yd I) (v:=.d (Row.enc (⟨c1_0_85,t2.bound⟩:Row))) I)<|.store I I I I I I (.ofD I) C72 I (yd I)<|.nil<|.ret ?_
  cases h
  exact zit I I Y72 (.v .v1)
theorem zdd (n t0 t1 r) (h:zaj n t0 t1=some r):Pure pg 40 [Row.enc t0,Row.enc t1] (.bool r):=by
 refine Pure.ot Tryz.func40 I Tryz.ntmps40 I λA w=>.sA 3 I<|.seq<|.seq<|.plain 14 I<|.p I (.fa I (G72_1 _))<|.A 1 I<|.p I (.fa I (G72_1 _))<|.A 3 I<|.jO 7 ((t0.terms.length:Int) != (t1.terms.length:Int)) I (λb1=>?_) ?_
 ·refine .q I (.fa I (G72_0 _))<|.A 1 I<|.q I (.len I U70 I)<|.q I (.fa I (G72_0 _))<|.A 1 I<|.q I (.len I U70 I)<|.A 1 I<|.nil I
 refine .nil<|.nil<|.K [2,3,19] I<|.condS I h (λh=>?_) λh=>?_
 ·refine .sA 1 I<|.ret (rO h I)
 ·refine .skip<|.seq<|.sA 1 I<|.block<|.L [2,3] h (λv=>[(5,.d (.int v))]) (λv=>[]) I λ_ x8 h=>.seq<|.S 1 I<|.p I (.fa I (G72_0 _))<|.A 1 I<|.p I (.len I U70 I)<|.A 1 I<|.nil<|.K [2,3,5,24] I<|.condS I h (λh=>?_) λh=>?_
  ·refine .skip<|.seq<|.block<|.seq<|.draw 11 Hm (by kernel_rfl) (by kernel_rfl)<|.p I (.fa I (G72_0 _))<|.A 2 I<|.X h I λx10 h=>.A 1 I<|.p I (.fa I (G72_0 _))<|.A 2 I<|.X h I λx11 h=>.A 1 I<|.p I (.sneq I SE129 I I (xs:=Term.vals _) (ys:=Term.vals _) I I I I (SQ129 _ _))<|.nil<|.nil<|.condS I h (λh=>?_) λh=>?_
   ·refine .sA 1 I<|.ret (rO h I)
   ·refine .skip<|.rA 3 I (ndE h I)
  ·refine .exit<|.sA 1 I<|.ret (rO h I)
theorem zdS (n t0 t1 t2 r) (h:zaV n t0 t1 t2=some r):Pure pg 129 [eH t0,.int t1,Row.enc t2] (.int r):=by
 refine Pure.ot Tryz.func129 I Tryz.ntmps129 I λA w=>.sA 2 I<|.sA 1 I<|.seq<|.sA 1 I<|.block<|.L [0,1,5] h (λv=>[(7,.d (.int v.1)),(8,.d (.int v.2))]) (λv=>[]) I λ_ ⟨x13,x14⟩ h=>.seq<|.sA 3 I<|.condS I h (λh=>?_) λh=>?_
 ·refine .skip<|.J [0,1,5,8] h (λv=>[(7,.d (.int v))]) (λv=>[]) I (λk_17 h=>?_) (λx16 h=>?_)
  ·refine .block<|.seq<|.draw 6 Hm (by kernel_rfl) (by kernel_rfl)<|.A 2 I<|.X h I λx18 h=>.A 2 I<|.Z h I (zdd _ _ _) λx19 h=>.nil<|.nil<|.condS I h (λh=>?_) λh=>?_
   ·refine .rA 3 I (ndE h I)
   ·refine .skip (ndE h I)
  ·refine .rA 3 I (ndE h I)
 ·refine .exit<|.sA 2 I<|.ret (rO h I)
theorem zf7 (n t0 t1 r) (h:zbs n t0 t1=some r):Pure pg 155 [eI t0,Update.enc t1] (.int r):=by
 refine Pure.ot Tryz.func155 I Tryz.ntmps155 I λA w=>.sA 2 I<|.sA 1 I<|.seq<|.sA 1 I<|.block<|.L [0,3] h (λv=>[(5,.d (.int v.1)),(6,.d (.int v.2))]) (λv=>[]) I λ_ ⟨x11,x12⟩ h=>.seq<|.S 2 I<|.p I (.len I U61 I)<|.A 1 I<|.nil<|.K [0,3,5,6,10] I<|.condS I h (λh=>?_) λh=>?_
 ·refine .skip<|.J [0,3,6] h (λv=>[(5,.d (.int v))]) (λv=>[]) I (λk_15 h=>?_) (λx14 h=>?_)
  ·refine .block<|.seq<|.draw 6 Hm (by kernel_rfl) (by kernel_rfl)<|.A 2 I<|.X h I λx16 h=>.A 2 I<|.p I (.seql I SE188 I I (xs:=Update.vals _) (ys:=Update.vals _) I I I I (SQ188 _ _))<|.nil<|.nil<|.condS I h (λh=>?_) λh=>?_
   ·refine .rA 3 I (ndE h I)
   ·refine .skip (ndE h I)
  ·refine .rA 3 I (ndE h I)
 ·refine .exit<|.sA 2 I<|.ret (rO h I)
theorem zkR (n t0 t1 t2 t3 r) (h:zV n t0 t1 t2 t3=some r):Pure pg 124 [Model.enc t0,Swap.enc t1,Effect.enc t2,Effect.enc t3] (.bool r):=by
 refine Pure.ot Tryz.func124 I Tryz.ntmps124 I λA w=>.sA 5 I<|.seq<|.seq<|.plain 25 I<|.p I (.fa I (G63_0 _))<|.A 1 I<|.p I (.len I U59 I)<|.p I (.fa I (G63_0 _))<|.A 1 I<|.p I (.len I U59 I)<|.A 2 I<|.jO 7 ((t2.hold.length:Int) != (t3.hold.length:Int)) I (λb1=>?_) ?_
 ·refine .q I (.fa I (G63_1 _))<|.A 1 I<|.q I (.len I U60 I)<|.q I (.fa I (G63_1 _))<|.A 1 I<|.q I (.len I U60 I)<|.A 1 I<|.nil I
 refine .A 1 I<|.jO 7 ((t2.updates.length:Int) != (t3.updates.length:Int)) I (λb2=>?_) ?_
 ·refine .q I (.fa I (G63_2 _))<|.A 1 I<|.q I (.len I U61 I)<|.q I (.fa I (G63_2 _))<|.A 1 I<|.q I (.len I U61 I)<|.A 1 I<|.nil I
 refine .nil<|.nil<|.K [4,5,6,7,40] I<|.condS I h (λh=>?_) λh=>?_
 ·refine .sA 1 I<|.ret (rO h I)
 ·refine .skip<|.seq<|.sA 1 I<|.block<|.L [4,5,6,7] h (λv=>[(9,.d (.int v))]) (λv=>[]) I λ_ x67 h=>.seq<|.S 1 I<|.p I (.fa I (G63_0 _))<|.A 1 I<|.p I (.len I U59 I)<|.A 1 I<|.nil<|.K [4,5,6,7,9,45] I<|.condS I h (λh=>?_) λh=>?_
  ·refine .skip<|.seq<|.block<|.sA 1 I<|.seq<|.sA 1 I<|.block<|.L [4,5,6,7,9] h (λv=>[(10,.d (.bool v.1)),(11,.d (.int v.2))]) (λv=>[]) I λ_ ⟨x89,x90⟩ h=>.seq<|.S 1 I<|.p I (.fa I (G63_0 _))<|.A 1 I<|.p I (.len I U59 I)<|.A 1 I<|.nil<|.K [4,5,6,7,9,10,11,52] I<|.condS I h (λh=>?_) λh=>?_
   ·refine .skip<|.J [4,5,6,7,9,11] h (λv=>[(10,.d (.bool v))]) (λv=>[]) I (λk_93 h=>?_) (λx92 h=>?_)
    ·refine .block<|.seq<|.draw 31 Hm (by kernel_rfl) (by kernel_rfl)<|.p I (.fa I (G63_0 _))<|.A 2 I<|.X h I λx94 h=>.p I (.fa I (zf1 _))<|.A 3 I<|.p I (.fa I (G63_0 _))<|.A 2 I<|.X h I λx95 h=>.p I (.fa I (zf1 _))<|.A 1 I<|.Z h I (zfR _ _ _ _ _) λx96 h=>.A 2 I<|gK h λc98 h=>gK h λc99 h=>.jA 13 ((((idx t3.delta x90).getD default).add)==(((idx t2.delta x67).getD default).add)) I (λb97=>?_) ?_
     ·refine .q I (.fa I (G63_0 _))<|.A 2 I<|.q I (.ix I U59 S137 (someD (impT c98 b97)))<|.q I (.fa I (zjx _))<|.A 1 I<|.q I (.fa I (G63_0 _))<|.A 2 I<|.q I (.ix I U59 S137 (someD (impT c99 b97)))<|.q I (.fa I (zjx _))<|.A 2 I<|.nil I
     refine .nil<|.nil<|.K [4,5,6,7,9,10,11,85] I<|.condS I h (λh=>?_) λh=>?_
     ·refine .rA 1 I (ndE h I)
     ·refine .skip (ndE h I)
    ·refine .rA 3 I (ndE h I)
   ·refine .exit<|.sA 2 I<|.condS I h (λh=>?_) λh=>?_
    ·refine .sA 1 I<|.ret (rO h I)
    ·refine .skip<|.rA 3 I (ndE h I)
  ·refine .exit<|.seq<|.sA 1 I<|.block<|.L [4,5,6,7] h (λv=>[(12,.d (.int v))]) (λv=>[]) I λ_ x112 h=>.seq<|.S 1 I<|.p I (.fa I (G63_1 _))<|.A 1 I<|.p I (.len I U60 I)<|.A 1 I<|.nil<|.K [4,5,6,7,12,92] I<|.condS I h (λh=>?_) λh=>?_
   ·refine .skip<|.seq<|.block<|.seq<|.draw 10 Hm (by kernel_rfl) (by kernel_rfl)<|.A 2 I<|.p I (.fa I (G63_1 _))<|.A 2 I<|.X h I λx114 h=>.A 1 I<|.Z h I (zgz _ _ _ _) λx115 h=>.alloc I I I I ZZ72<|.store I I I I I I Z72<|.nil<|.freezes [0] (.cons (t:=13) (d:=.ref (Row.enc x115)) I (.loc (inIds I) I (.v .v1)) .nil)<|.nil<|.seq<|.draw 19 Hm (by kernel_rfl) (by kernel_rfl)<|.p I (.fa I (G63_1 _))<|.A 1 I<|.p I (.fa I (G63_1 _))<|.A 1 I<|.p I (.len I U60 I)<|.p I (.fa I (G63_1 _))<|.A 2 I<|.X h I λx116 h=>.A 1 I<|.Z h I (zdS _ _ _ _) λx117 h=>.p I (.fa I (G63_1 _))<|.A 1 I<|.p I (.fa I (G63_1 _))<|.A 1 I<|.p I (.len I U60 I)<|.A 1 I<|.Z h I (zdS _ _ _ _) λx118 h=>.A 1 I<|.nil<|.nil<|.K [4,5,6,7,12,121] I<|.condS I h (λh=>?_) λh=>?_
    ·refine .sA 1 I<|.ret (rO h I)
    ·refine .skip<|.rA 3 I (ndE h I)
   ·refine .exit<|.seq<|.sA 1 I<|.block<|.L [4,5,6,7] h (λv=>[(14,.d (.int v))]) (λv=>[]) I λ_ x131 h=>.seq<|.S 1 I<|.p I (.fa I (G63_2 _))<|.A 1 I<|.p I (.len I U61 I)<|.A 1 I<|.nil<|.K [4,5,6,7,14,126] I<|.condS I h (λh=>?_) λh=>?_
    ·refine .skip<|.seq<|.block<|.sr<|.p I (.fa I (G63_2 _))<|.A 2 I<|.X h I λx133 h=>.A 1 I<|.allocZ I I I I (.agg Zc188 (ds':=[.int 0,.int 0,.int 0]) (.e (.e .e1))) I<|.store I I I I I I (.ofD I) C188 I (yd I)<|.nil<|.S 2 I<|.p I (.fieldAddrLoc I I I zl2)<|.p I (.loadLoc1 I I I Y3 I)<|.Z h I (zfR _ _ _ _ _) λx134 h=>.p I (.fieldAddrLoc I I I zl2)<|.store I I I I I I (.ofD I) C3 I (yd I)<|.nil<|.seq<|.draw 13 Hm (by kernel_rfl) (by kernel_rfl)<|.p I (.fa I (G63_2 _))<|.A 1 I<|.p I (.fa I (G63_2 _))<|.A 2 I<|.X h I λx135 h=>.A 1 I<|.Z h I (zf7 _ _ _) λx136 h=>.p I (.fa I (G63_2 _))<|.A 1 I<|.p I (.loadLoc I I I Y188 (yd I) (v:=.d (Update.enc (⟨x133.kind,x134,x133.value⟩:Update))) I)<|.Z h I (zf7 _ _ _) λx137 h=>.A 1 I<|.nil<|.nil<|.K [4,5,6,7,14,152] I<|.condS I h (λh=>?_) λh=>?_
     ·refine .sA 1 I<|.ret (rO h I)
     ·refine .skip<|.rA 3 I (ndE h I)
    ·refine .exit<|.sA 1 I<|.ret (rO h I)
theorem zdj (n t0 t1 t2 r) (h:zP n t0 t1 t2=some r):Pure pg 79 [Model.enc t0,Swap.enc t1,.int t2] (.tup [.int r.1,.bool r.2]):=by
 refine Pure.ot Tryz.func79 I Tryz.ntmps79 I λA w=>.sA 4 I<|.S 3 I<|.X h I λx1 h=>.A 1 I<|.allocStore I I I I I I I I (by simp) I I Z65<|.nil<|.S 2 I<|.p I (.fa I (G65_0 _))<|.A 1 I<|.X h I λx2 h=>.p I (.fa I (zfh _))<|.A 2 I<|.nil<|.K [3,4,8,9] I<|.seq<|.sA 1 I<|.block<|.L [3,4,8,9] h (λv=>[(10,.d (.int v))]) (λv=>[]) I λ_ x69 h=>.seq<|.S 3 I<|.p I (.len I U27 I)<|.A 1 I<|.nil<|.K [3,4,8,9,10,31] I<|.condS I h (λh=>?_) λh=>?_
 ·refine .skip<|.seq<|.block<|.S 3 I<|.X h I λx71 h=>.A 1 I<|.allocStore I I I I I I I I (by simp) I I Z65<|.nil<|.seq<|.plain 14 I<|.p I (.fa I (G65_0 _))<|.A 1 I<|.p I (.fa I (G65_0 _))<|.A 3 I<|.jA 7 ((x71.arguments.length:Int)==(x1.arguments.length:Int)) I (λb72=>?_) ?_
  ·refine .q I (.fa I (G65_1 _))<|.A 1 I<|.q I (.len I U22 I)<|.q I (.fa I (G65_1 _))<|.A 1 I<|.q I (.len I U22 I)<|.A 1 I<|.nil I
  refine .nil<|.A 1 I<|.nil<|.K [3,4,8,9,10,11,12] I<|.seq<|.sA 1 I<|.block<|.L [3,4,8,9,10,11] h (λv=>[(12,.d (.bool v.1)),(13,.d (.int v.2))]) (λv=>[]) I λ_ ⟨x91,x92⟩ h=>.seq<|.seq<|.plain 8 I<|.A 2 I<|.jA 5 (decide (x92<(x1.arguments.length:Int))) I (λb94=>?_) ?_
  ·refine .A 1 I<|.q I (.fa I (G65_1 _))<|.A 1 I<|.q I (.len I U22 I)<|.A 1 I<|.nil I
  refine .nil<|.nil<|.K [3,4,8,9,10,11,12,13,60] I<|.condS I h (λh=>?_) λh=>?_
  ·refine .skip<|.seq<|.block<|.sr<|.p I (.fa I (G65_1 _))<|.A 2 I<|.X h I λx95 h=>.A 2 I<|.nil<|.J [3,4,8,9,10,11,13] h (λv=>[(14,.d (.int v))]) (λv=>[]) I (λk_97 h=>?_) (λx96 h=>?_)
   ·refine .seq<|.draw 7 Hm (by kernel_rfl) (by kernel_rfl)<|.A 2 I<|.X h I λx98 h=>.A 4 I<|.nil<|.nil<|.condS I h (λh=>?_) λh=>?_
    ·refine .region<|.A 2 I<|.Z h I (zf6 _ _ _) λx99 h=>.A 1 I<|.nil (ndE h I)
    ·refine .skip (ndE h I)
   ·refine .region<|.p I (.fa I (G65_1 _))<|.A 2 I<|.X h I λx100 h=>.A 4 I<|.nil<|.K [3,4,8,9,10,11,12,13] I<|.rA 3 I (ndE h I)
  ·refine .exit<|.seq<|.plain 10 I<|.A 2 I<|gK h λc102 h=>.jA 7 (((zV n t0 t1 x1.effect x71.effect).getD default)) I (λb101=>?_) ?_
   ·refine .A 2 I<|.q I (.fa I (G65_2 _))<|.A 1 I<|.q I (.fa I (G65_2 _))<|.A 1 I<|.q I (.call I (kC I) I (zkR _ _ _ _ _ _ (someD (impT c102 b101))))<|.nil I
   refine .nil<|.nil<|.condS I h (λh=>?_) λh=>?_
   ·refine .sA 3 I<|.ret ?_
    cases h
    exact zbI I I (.d _) (.d _)
   ·refine .skip<|.rA 3 I (ndE h I)
 ·refine .exit<|.sA 2 I<|.ret ?_
  cases h
  exact zbI I I (.d _) (.d _)
theorem zhQ (n t0 t1 r) (h:zby n t0 t1=some r):Pure pg 128 [Model.enc t0,.int t1] (.int r):=by
 refine Pure.ot Tryz.func128 I Tryz.ntmps128 I λA w=>.sA 2 I<|.S 3 I<|.X h I λx1 h=>.A 1 I<|.allocStore I I I I I I I I (by simp) I I Z135<|.nil<|.sA 1 I<|.seq<|.sA 1 I<|.block<|.L [1,2,5] h (λv=>[(6,.d (.int v.1)),(7,.d (.int v.2))]) (λv=>[]) I λ_ ⟨x18,x19⟩ h=>.seq<|.sA 3 I<|.condS I h (λh=>?_) λh=>?_
 ·refine .skip<|.J [1,2,5,7] h (λv=>[(6,.d (.int v))]) (λv=>[]) I (λk_22 h=>?_) (λx21 h=>?_)
  ·refine .block<|.S 3 I<|.X h I λx23 h=>.A 1 I<|.allocStore I I I I I I I I (by simp) I I Z135<|.nil<|.seq<|.plain 19 I<|.p I (.fa I (zhr _))<|.A 1 I<|.p I (.fa I (zhr _))<|.A 3 I<|.jA 5 (x23.family==x1.family) I (λb24=>?_) ?_
   ·refine .q I (.fa I (ziH _))<|.A 1 I<|.q I (.fa I (ziH _))<|.A 2 I<|.nil I
   refine .A 1 I<|gK h λc26 h=>.jA 5 (((zaj n x23.row x1.row).getD default)) I (λb25=>?_) ?_
   ·refine .q I (.fa I (zep _))<|.A 1 I<|.q I (.fa I (zep _))<|.A 1 I<|.q I (.call I (kC I) I (zdd _ _ _ _ (someD (impT c26 b25))))<|.nil I
   refine .nil<|.nil<|.K [1,2,5,6,7,42] I<|.condS I h (λh=>?_) λh=>?_
   ·refine .rA 3 I (ndE h I)
   ·refine .skip (ndE h I)
  ·refine .rA 3 I (ndE h I)
 ·refine .exit<|.sA 2 I<|.ret (rO h I)
theorem zdD (n t0 t1 t2 r) (h:zab n t0 t1 t2=some r):Pure pg 81 [Model.enc t0,Swap.enc t1,.int t2] (.tup [.int r.1,.bool r.2]):=by
 refine Pure.ot Tryz.func81 I Tryz.ntmps81 I λA w=>.sA 4 I<|.S 3 I<|.X h I λx1 h=>.A 1 I<|.allocStore I I I I I I I I (by simp) I I Z135<|.nil<|.seq<|.sr<|.p I (.fa I (zhr _))<|.A 2 I<|.nil<|.condS I h (λh=>?_) λh=>?_
 ·refine .sA 3 I<|.K [6,7] I<|.ret ?_
  cases h
  exact zbI I I (.d _) (.d _)
 ·refine .skip<|.S 2 I<|.p I (.fa I (zep _))<|.A 1 I<|.Z h I (zgz _ _ _ _) λx2 h=>.allocStore I I I I I I I I (by simp) I I Z72<|.nil<|.K [2,3,8,9] I<|.seq<|.sA 1 I<|.block<|.L [2,3,8,9] h (λv=>[(10,.d (.int v))]) (λv=>[]) I λ_ x19 h=>.seq<|.S 3 I<|.p I (.len I U25 I)<|.A 1 I<|.nil<|.K [2,3,8,9,10,30] I<|.condS I h (λh=>?_) λh=>?_
  ·refine .skip<|.seq<|.block<|.S 3 I<|.X h I λx21 h=>.A 1 I<|.allocStore I I I I I I I I (by simp) I I Z135<|.nil<|.seq<|.draw 27 Hm (by kernel_rfl) (by kernel_rfl)<|.p I (.fa I (zhr _))<|.A 1 I<|.p I (.fa I (zhr _))<|.A 3 I<|.jA 5 (x21.family==x1.family) I (λb22=>?_) ?_
   ·refine .q I (.fa I (ziH _))<|.A 1 I<|.q I (.fa I (ziH _))<|.A 2 I<|.nil I
   refine .A 1 I<|gK h λc24 h=>.jA 4 (((zaj n x21.row x2).getD default)) I (λb23=>?_) ?_
   ·refine .q I (.fa I (zep _))<|.A 2 I<|.q I (.call I (kC I) I (zdd _ _ _ _ (someD (impT c24 b23))))<|.nil I
   refine .A 1 I<|gK h λc26 h=>gK h λc27 h=>.jA 7 (((zby n t0 x19).getD default)==((zby n t0 t2).getD default)) I (λb25=>?_) ?_
   ·refine .A 2 I<|.q I (.call I (kC I) I (zhQ _ _ _ _ (someD (impT c26 b25))))<|.A 2 I<|.q I (.call I (kC I) I (zhQ _ _ _ _ (someD (impT c27 b25))))<|.A 1 I<|.nil I
   refine .nil<|.nil<|.K [2,3,8,9,10,64] I<|.condS I h (λh=>?_) λh=>?_
   ·refine .sA 3 I<|.ret ?_
    cases h
    exact zbI I I (.d _) (.d _)
   ·refine .skip<|.rA 3 I (ndE h I)
  ·refine .exit<|.sA 2 I<|.ret ?_
   cases h
   exact zbI I I (.d _) (.d _)
theorem zeU (n t0 t1 r) (h:zW n t0 t1=some r):Pure pg 59 [Model.enc t0,Swap.enc t1] (.bool r):=by
 refine Pure.ot Tryz.func59 I Tryz.ntmps59 I λA w=>.sA 3 I<|.seq<|.sA 1 I<|.block<|.L [2,3] h (λv=>[(5,.d (.int v))]) (λv=>[]) I λ_ x5 h=>.seq<|.S 3 I<|.p I (.len I U27 I)<|.A 1 I<|.nil<|.K [2,3,5,15] I<|.condS I h (λh=>?_) λh=>?_
 ·refine .skip<|.seq<|.block<|.S 3 I<|.Z h I (zdj _ _ _ _) λx7 h=>.A 1 I<|.p I (.extract I I I)<|.p I (.extract I I I)<|.A 2 I<|.nil<|.sA 2 I<|.condS I h (λh=>?_) λh=>?_
  ·refine .sA 1 I<|.ret (rO h I)
  ·refine .skip<|.rA 3 I (ndE h I)
 ·refine .exit<|.seq<|.sA 1 I<|.block<|.L [2,3] h (λv=>[(8,.d (.int v))]) (λv=>[]) I λ_ x12 h=>.seq<|.S 3 I<|.p I (.len I U25 I)<|.A 1 I<|.nil<|.K [2,3,8,31] I<|.condS I h (λh=>?_) λh=>?_
  ·refine .skip<|.seq<|.block<|.S 3 I<|.Z h I (zdD _ _ _ _) λx14 h=>.A 1 I<|.p I (.extract I I I)<|.p I (.extract I I I)<|.A 2 I<|.nil<|.sA 2 I<|.condS I h (λh=>?_) λh=>?_
   ·refine .sA 1 I<|.ret (rO h I)
   ·refine .skip<|.rA 3 I (ndE h I)
  ·refine .exit<|.sA 1 I<|.ret (rO h I)
theorem zfc (n t0 r) (h:zN n t0=some r):Pure pg 22 [Model.enc t0] (.sl 3 (List.map Swap.enc r)):=by
 refine Pure.ot Tryz.func22 I Tryz.ntmps22 I λA w=>.S 1 I<|.p I (.nilS 3 (α:=Swap) Swap.enc I)<|.nil<|.sr<|.buildVec [] I I I I I E42 I (λ_=>I) I (enc:=Swap.enc)<|.A 1 I<|.nil<|.seq<|.S 1 I<|.Z h I (zfb _ _) λx1 h=>.A 1 I<|.nil<|.condS I h (λh=>?_) λh=>?_
 ·refine .sA 2 I<|.ret ?_
  cases h
  exact zb9 I (.vec I (by simp))
 ·refine .skip<|.seq<|.sA 1 I<|.block<|.L [1] h (λv=>[(3,.vec 0 (List.length v.1)),(4,.d (.int v.2))]) (λv=>[(0,.vec 41 3 (List.map Swap.enc v.1))]) I λ_ ⟨b0_158,x159⟩ h=>.seq<|.S 3 I<|.p I (.len I U22 I)<|.A 1 I<|.nil<|.K [1,3,4,17] I<|.condS I h (λh=>?_) λh=>?_
  ·refine .skip<|.seq<|.block<|.sA 1 I<|.block<|.L [1,4] h (λv=>[(3,.vec 0 (List.length v.1)),(5,.d (.int v.2))]) (λv=>[(0,.vec 41 3 (List.map Swap.enc v.1))]) I λ_ ⟨b0_211,x212⟩ h=>.seq<|.S 4 I<|.X h I λx214 h=>.A 2 I<|.nil<|.K [1,3,4,5,26] I<|.condS I h (λh=>?_) λh=>?_
   ·refine .skip<|.seq<|.block<|.sA 3 I<|.block<|.L [1,4,5] h (λv=>[(3,.vec 0 (List.length v.1)),(6,.d (.int v.2))]) (λv=>[(0,.vec 41 3 (List.map Swap.enc v.1))]) I λ_ ⟨b0_229,x230⟩ h=>.seq<|.S 4 I<|.X h I λx232 h=>.A 2 I<|.nil<|.K [1,3,4,5,6,37] I<|.condS I h (λh=>?_) λh=>?_
    ·refine .skip<|.J [1,4,5,6] h (λv=>[(3,.vec 0 (List.length v))]) (λv=>[(0,.vec 41 3 (List.map Swap.enc v))]) I (λk_234 h=>?_) (λb0_233 h=>?_)
     ·refine .block<|.S 3 I<|.p I (.castD (Swap.enc (⟨x159,x212,x230⟩:Swap)) I (.build I Pl41 (.agg Zc41 (ds':=[_,_,_]) (.e (.e .e1))) I I))<|.allocStore I I I I I I I I (by simp) I I Z41<|.nil<|.S 2 I<|.Z h I (zeU _ _ _) λx235 h=>.nil<|.condS I h (λh=>?_) λh=>?_
      ·refine .region<|.A 2 I<|.p I (.buildSl [_] I I E42 I (λ_=>I) I (enc:=Swap.enc))<|bK h λx236 q236 h=>.app I I I I I I I I E42 I (λ_=>I) q236<|.A 1 I<|.nil (ndE h I)
      ·refine .skip (ndE h I)
     ·refine .rA 3 I (ndE h I)
    ·refine .exit<|.rA 3 I (ndE h I)
   ·refine .exit<|.rA 3 I (ndE h I)
  ·refine .exit<|.sA 2 I<|.ret ?_
   cases h
   exact zb9 I (.vec I (by simp))
theorem zlT (n t0 t1 t2 r) (h:zcR n t0 t1 t2=some r):Pure pg 82 [Model.enc t0,Swap.enc t1,Question.enc t2] (.tup [Question.enc r.1,.bool r.2]):=by
 refine Pure.ot Tryz.func82 I Tryz.ntmps82 I λA w=>.S 3 I<|.allocZ I I I I (.agg Zc34 (ds':=[.int 0,.int 0,.bool false,.int 0]) (.e (.e (.e .e1)))) I<|.A 1 I<|.nil<|.S 2 I<|.p I (.fa I (G34_0 _))<|.A 1 I<|.Z h I (zdj _ _ _ _) λx1 h=>.A 1 I<|.p I (.extract I I I)<|.p I (.extract I I I)<|.A 2 I<|.nil<|.S 2 I<|.p I (.fa I (G34_1 _))<|.A 1 I<|.Z h I (zdj _ _ _ _) λx2 h=>.A 1 I<|.p I (.extract I I I)<|.p I (.extract I I I)<|.A 2 I<|.nil<|.K [3,4,5,6,8,9,10,11] I<|.seq<|.seq<|.plain 6 I<|.A 3 I<|.jO 2 (!x2.2) I (λb3=>?_) ?_
 ·refine .A 2 I<|.nil I
 refine .nil<|.nil<|.condS I h (λh=>?_) λh=>?_
 ·refine .sr<|.p I (.castD (Question.enc (⟨0,0,(⟨false,0⟩:Target)⟩:Question)) I (.build I Pl34 (.agg Zc34 (ds':=[_,_,_,_]) (.e (.e (.e .e1)))) I I))<|.store I I I I I I (.ofD I) C34 I (yd I)<|.A 1 I<|.nil<|.ret ?_
  cases h
  exact zbz I I Y34 (.v (.v (.v .v1))) I (.d _)
 ·refine .skip<|.seq<|.sr<|.p I (.fa I (G34_2 _))<|.p I (.fa I (G32_0 _))<|.A 2 I<|.nil<|.condS I h (λh=>?_) λh=>?_
  ·refine .S 2 I<|.p I (.fa I (G34_2 _))<|.p I (.fa I (G32_1 _))<|.A 1 I<|.Z h I (zdD _ _ _ _) λx4 h=>.A 1 I<|.p I (.extract I I I)<|.p I (.extract I I I)<|.A 2 I<|.nil<|.K [6,8,10,12,13] I<|.seq<|.sA 2 I<|.condS I h (λh=>?_) λh=>?_
   ·refine .sr<|.p I (.castD (Question.enc (⟨0,0,(⟨false,0⟩:Target)⟩:Question)) I (.build I Pl34 (.agg Zc34 (ds':=[_,_,_,_]) (.e (.e (.e .e1)))) I I))<|.store I I I I I I (.ofD I) C34 I (yd I)<|.A 1 I<|.nil<|.ret ?_
    cases h
    exact zbz I I Y34 (.v (.v (.v .v1))) I (.d _)
   ·refine .skip<|.S 2 I<|.p I (.min2 I I I)<|.A 2 I<|.p I (.max2 I I I)<|.A 1 I<|.p I (.castD (Target.enc (⟨false,x4.1⟩:Target)) I (.build I Pl32 (.agg Zc32 (ds':=[_,_]) (.e .e1)) I I))<|.p I (.castD (Question.enc (⟨(gmin x1.1 x2.1),(gmax x1.1 x2.1),(⟨false,x4.1⟩:Target)⟩:Question)) I (.build I Pl34 (.agg Zc34 (ds':=[_,_,_,_]) (.e (.e (.e .e1)))) I I))<|.store I I I I I I (.ofD I) C34 I (yd I)<|.A 1 I<|.nil<|.ret ?_
    cases h
    exact zbz I I Y34 (.v (.v (.v .v1))) I (.d _)
  ·refine .skip<|.S 2 I<|.p I (.fa I (G34_0 _))<|.A 1 I<|.X h I λx5 h=>.p I (.fa I (G65_2 _))<|.p I (.fa I (G63_1 _))<|.A 2 I<|.nil<|.K [3,4,5,6,8,10,14] I<|.S 3 I<|.X h I λx6 h=>.p I (.fa I (G65_2 _))<|.p I (.fa I (G63_1 _))<|.A 2 I<|.nil<|.seq<|.draw 11 Hm (by kernel_rfl) (by kernel_rfl)<|.A 3 I<|.p I (.fa I (G34_2 _))<|.p I (.fa I (G32_1 _))<|.A 1 I<|.X h I λx7 h=>.A 1 I<|.Z h I (zgz _ _ _ _) λx8 h=>.alloc I I I I ZZ72<|.store I I I I I I Z72<|.nil<|.freezes [1] (.cons (t:=16) (d:=.ref (Row.enc x8)) I (.loc (inIds I) I (.v .v1)) .nil)<|.nil<|.K [5,6,8,10,14,15,16] I<|.seq<|.sA 1 I<|.block<|.L [5,6,8,10,14,15,16] h (λv=>[(17,.d (.int v))]) (λv=>[]) I λ_ x23 h=>.seq<|.S 2 I<|.p I (.len I U60 I) ?_
   refine .A 1 I<|.nil<|.K [5,6,8,10,14,15,16,17,93] I<|.condS I h (λh=>?_) λh=>?_
   ·refine .skip<|.seq<|.block<|.seq<|.draw 24 Hm (by kernel_rfl) (by kernel_rfl)<|.A 2 I<|.X h I λx25 h=>.A 2 I<|.Z h I (zdd _ _ _) λx26 h=>.A 1 I<|gK h λc28 h=>gK h λc29 h=>gK h λc30 h=>.jA 16 (((zaV n x6.effect.hold x23 x8).getD default)==((zaV n x5.effect.hold t2.target.index ((idx x5.effect.hold t2.target.index).getD default)).getD default)) I (λb27=>?_) ?_
    ·refine .A 3 I<|.q I (.call I (kC I) I (zdS _ _ _ _ _ (someD (impT c28 b27))))<|.A 1 I<|.q I (.fa I (G34_2 _))<|.q I (.fa I (G32_1 _))<|.A 2 I<|.q I (.fa I (G34_2 _))<|.q I (.fa I (G32_1 _))<|.A 1 I<|.q I (.ix I U60 S72 (someD (impT c29 b27)))<|.A 1 I<|.q I (.call I (kC I) I (zdS _ _ _ _ _ (someD (impT c30 b27))))<|.A 1 I<|.nil I
    refine .nil<|.nil<|.K [5,6,8,10,14,15,16,17,119] I<|.condS I h (λh=>?_) λh=>?_
    ·refine .S 3 I<|.p I (.castD (Target.enc (⟨true,x23⟩:Target)) I (.build I Pl32 (.agg Zc32 (ds':=[_,_]) (.e .e1)) I I))<|.p I (.castD (Question.enc (⟨x1.1,x2.1,(⟨true,x23⟩:Target)⟩:Question)) I (.build I Pl34 (.agg Zc34 (ds':=[_,_,_,_]) (.e (.e (.e .e1)))) I I))<|.store I I I I I I (.ofD I) C34 I (yd I)<|.A 1 I<|.nil<|.ret ?_
     cases h
     exact zbz I I Y34 (.v (.v (.v .v1))) I (.d _)
    ·refine .skip<|.rA 3 I (ndE h I)
   ·refine .exit<|.sr<|.p I (.castD (Question.enc (⟨0,0,(⟨false,0⟩:Target)⟩:Question)) I (.build I Pl34 (.agg Zc34 (ds':=[_,_,_,_]) (.e (.e (.e .e1)))) I I))<|.store I I I I I I (.ofD I) C34 I (yd I)<|.A 1 I<|.nil<|.ret ?_
    cases h
    exact zbz I I Y34 (.v (.v (.v .v1))) I (.d _)
theorem zkS (n t0 t1 r) (h:zbO n t0 t1=some r):Pure pg 93 [.sl 5 (List.map Way.enc t0),Question.enc t1] (.bool r):=by
 refine Pure.ot Tryz.func93 I Tryz.ntmps93 I λA w=>.sA 2 I<|.seq<|.sA 1 I<|.block<|.L [0,3] h (λv=>[(5,.d (.int v))]) (λv=>[]) I λ_ x5 h=>.seq<|.S 2 I<|.p I (.len I U97 I)<|.A 1 I<|.nil<|.K [0,3,5,9] I<|.condS I h (λh=>?_) λh=>?_
 ·refine .skip<|.seq<|.block<|.seq<|.draw 7 Hm (by kernel_rfl) (by kernel_rfl)<|.A 2 I<|.X h I λx7 h=>.p I (.fa I (zoz _))<|.A 2 I<|.p I (.seql I SE34 I I (xs:=Question.vals _) (ys:=Question.vals _) I I I I (SQ34 _ _))<|.nil<|.nil<|.condS I h (λh=>?_) λh=>?_
  ·refine .sA 1 I<|.ret (rO h I)
  ·refine .skip<|.rA 3 I (ndE h I)
 ·refine .exit<|.sA 1 I<|.ret (rO h I)
theorem zhP (n t0 t1 t2 r) (h:zaS n t0 t1 t2=some r):Pure pg 55 [Model.enc t0,.sl 3 (List.map Swap.enc t1),Question.enc t2] (.sl 5 (List.map Way.enc r)):=by
 refine Pure.ot Tryz.func55 I Tryz.ntmps55 I λA w=>.S 2 I<|.p I (.nilS 5 (α:=Way) Way.enc I)<|.nil<|.S 1 I<|.p I (.castD (Way.enc (⟨t2,[]⟩:Way)) I (.build I Pl100 (.agg Zc100 (ds':=[_,_,_,_,.sl 3 (List.map Swap.enc [])]) (.e (.e (.e (.e .o1))))) I I))<|.buildVec [_] I I I I I E97 I (λ_=>I) I (enc:=Way.enc)<|.A 1 I<|.nil<|.seq<|.sA 1 I<|.block<|.L [1,3] h (λv=>[(7,.vec 0 (List.length v.1)),(8,.d (.int v.2))]) (λv=>[(0,.vec 100 5 (List.map Way.enc v.1))]) I λ_ ⟨b0_193,x194⟩ h=>.seq<|.S 2 I<|.p I (.lenV I U97 I I I)<|.A 1 I<|.nil<|.K [1,3,7,8,20] I<|.condS I h (λh=>?_) λh=>?_
 ·refine .skip<|.seq<|.block<|.sA 1 I<|.block<|.L [1,3,8] h (λv=>[(7,.vec 0 (List.length v.1)),(9,.d (.int v.2))]) (λv=>[(0,.vec 100 5 (List.map Way.enc v.1))]) I λ_ ⟨b0_258,x259⟩ h=>.seq<|.S 2 I<|.p I (.len I U42 I)<|.A 1 I<|.nil<|.K [1,3,7,8,9,26] I<|.condS I h (λh=>?_) λh=>?_
  ·refine .skip<|.J [1,3,8,9] h (λv=>[(7,.vec 0 (List.length v))]) (λv=>[(0,.vec 100 5 (List.map Way.enc v))]) I (λk_262 h=>?_) (λb0_261 h=>?_)
   ·refine .block<|.seq<|.draw 17 Hm (by kernel_rfl) (by kernel_rfl)<|.A 3 I<|.X h I λx263 h=>.A 3 I<|bK h λx264 q264 h=>.p I (.idxV I I I I I U97 S100 q264)<|.p I (.fieldEl I I I (by simp) zqo)<|.p I (.loadElF I I I I q264 Y34 I I I (y:=Question.enc ⟨_,_,⟨_,_⟩⟩))<|.Z h I (zlT _ _ _ _) λx265 h=>.A 1 I<|.p I (.extract I I I)<|.p I (.extract I I I)<|.alloc I I I I ZZ34<|.store I I I I I I Z34<|.A 1 I<|.nil<|.freezes [1] (.cons (t:=10) (d:=.ref (Question.enc x265.1)) I (.loc (inIds I) I (.v (.v (.v .v1)))) .nil)<|.nil<|.K [1,3,7,8,9,10,11] I<|.seq<|.plain 7 I<|.A 2 I<|gK h λc267 h=>.jA 4 (!((zbO n b0_258 x265.1).getD default)) I (λb266=>?_) ?_
    ·refine .A 2 I<|.q I (.callB I (kC I) (.cons I (.vec I (by simp)) (.cons I (.d _) .nil)) I (zkS _ _ _ _ (someD (impT c267 b266))))<|.A 1 I<|.nil I
    refine .nil<|.nil<|.condS I h (λh=>?_) λh=>?_
    ·refine .sr<|.buildVec [] I I I I I E42 I (λ_=>I) I (enc:=Swap.enc)<|.A 1 I<|.nil<|.seq<|.sA 1 I<|.block<|.L [1,3,7,8,9,10] h (λv=>[(12,.vec 2 (List.length v.1)),(13,.d (.int v.2))]) (λv=>[(2,.vec 41 3 (List.map Swap.enc v.1))]) I λ_ ⟨b2_280,x281⟩ h=>.seq<|.S 3 I<|bK h λx283 q283 h=>.p I (.idxV I I I I I U97 S100 q283)<|.p I (.fieldEl I I I (by simp) zot)<|.p I (.loadElF I I I I q283 Y42 I I I (y:=.sl 3 (List.map Swap.enc _)))<|.p I (.len I U42 I)<|.A 1 I<|.nil<|.K [1,3,7,8,9,10,12,13,58] I<|.condS I h (λh=>?_) λh=>?_
     ·refine .skip<|.seq<|.block<|.region<|.A 3 I<|bK h λx284 q284 h=>.p I (.idxV I I I I I U97 S100 q284)<|.p I (.fieldEl I I I (by simp) zot)<|.p I (.loadElF I I I I q284 Y42 I I I (y:=.sl 3 (List.map Swap.enc _)))<|.A 1 I<|.X h I λx285 h=>.A 1 I<|.p I (.buildSl [_] I I E42 I (λ_=>I) I (enc:=Swap.enc))<|bK h λx286 q286 h=>.app I I I I I I I I E42 I (λ_=>I) q286<|.A 1 I<|.nil<|.rA 3 I (ndE h I)
     ·refine .exit<|bK h λx287 q287 h=>bK h λx288 q288 h=>bK h λx289 q289 h=>.drawA 13 Hm I<|.first 0 I (by decide +kernel) (by decide +kernel) (by decide +kernel) I (.m I (.nil ⟨I,I⟩))<|.first 2 I (by decide +kernel) (by decide +kernel) (by decide +kernel) I (.m I (.nil ⟨I,I⟩))<|.first 3 I (by decide +kernel) (by decide +kernel) (by decide +kernel) I (.m I (.nil ⟨I,I⟩))<|.first 4 I (by decide +kernel) (by decide +kernel) (by decide +kernel) I (.m I (.nil ⟨I,I⟩))<|.via 1 #[true,true,true,true,true,true,true,true,true,true,true,true,false] ⟨[(1,.d (.sl 3 (List.map Swap.enc t1))),(3,.d (.ref (Model.enc t0))),(8,.d (.int x194)),(9,.d (.int x259)),(83,.vec 0 (List.length x289))],[.vec 100 5 (List.map Way.enc x289),.dead,.dead]⟩ ?_ λsA0=>?_
      ·refine .step 12 [] (by decide +kernel) (.cons (i:=12) I (.z I (.nil ⟨I,I⟩)) ?_ .nil)
       refine .done (by decide +kernel) (ndE h I)
      refine .via 2 #[true,true,true,true,true,true,true,true,true,true,true,false,false] ⟨[(1,.d (.sl 3 (List.map Swap.enc t1))),(3,.d (.ref (Model.enc t0))),(8,.d (.int x194)),(9,.d (.int x259)),(72,.vec 0 (List.length b0_258)),(82,.d (.sl 5 (List.map Way.enc [(⟨x265.1,x288⟩:Way)])))],[.vec 100 5 (List.map Way.enc b0_258),.dead,.dead]⟩ ?_ λsA1=>?_
      ·refine .step 11 [] (by decide +kernel) (.cons (i:=11) I (.app I I I I I I I I E97 I (λ_=>I) q289 (.nil ⟨I,I⟩)) ?_ .nil)
       exact .keepT [1,3,8,9,83] (.c4 I<|.c I .nil) (.to #[true,true,true,true,true,true,true,true,true,true,true,true,false] (by decide +kernel) sA0)
      refine .via 3 #[true,true,true,true,true,true,true,true,true,true,false,false,false] ⟨[(1,.d (.sl 3 (List.map Swap.enc t1))),(3,.d (.ref (Model.enc t0))),(8,.d (.int x194)),(9,.d (.int x259)),(72,.vec 0 (List.length b0_258)),(81,.d (Way.enc (⟨x265.1,x288⟩:Way)))],[.vec 100 5 (List.map Way.enc b0_258),.dead,.dead]⟩ ?_ λsA2=>?_
      ·refine .step 10 [] (by decide +kernel) (.cons (i:=10) I (.p I (.buildSl [_] I I E97 I (λ_=>I) I (enc:=Way.enc)) (.nil ⟨I,I⟩)) ?_ .nil)
       exact .keepT [1,3,8,9,72,82] (.c4 I<|.c2 I .nil) (.to #[true,true,true,true,true,true,true,true,true,true,true,false,false] (by decide +kernel) sA1)
      refine .via 4 #[true,true,true,true,true,true,true,true,true,false,false,false,false] ⟨[(1,.d (.sl 3 (List.map Swap.enc t1))),(3,.d (.ref (Model.enc t0))),(8,.d (.int x194)),(9,.d (.int x259)),(72,.vec 0 (List.length b0_258)),(73,.d (Question.enc x265.1)),(80,.vec 2 (List.length x288))],[.vec 100 5 (List.map Way.enc b0_258),.dead,.vec 41 3 (List.map Swap.enc x288)]⟩ ?_ λsA3=>?_
      ·refine .step 9 [] (by decide +kernel) (.cons (i:=9) I (.freezes [2] (.cons (t:=80) I (.vec (inIds I) I (yH _).symm) .nil) (.p I (.castD (Way.enc (⟨x265.1,x288⟩:Way)) I (.build I Pl100 (.agg Zc100 (ds':=[_,_,_,_,_]) (.e (.e (.e (.e .e1))))) I I)) (.nil ⟨I,I⟩))) ?_ .nil)
       exact .keepT [1,3,8,9,72,81] (.c4 I<|.c2 I .nil) (.to #[true,true,true,true,true,true,true,true,true,true,false,false,false] (by decide +kernel) sA2)
      refine .via 5 #[true,true,true,true,true,true,true,true,false,false,false,false,false] ⟨[(1,.d (.sl 3 (List.map Swap.enc t1))),(3,.d (.ref (Model.enc t0))),(8,.d (.int x194)),(9,.d (.int x259)),(72,.vec 0 (List.length b0_258)),(73,.d (Question.enc x265.1)),(74,.vec 2 (List.length b2_280)),(79,.d (.sl 3 (List.map Swap.enc [x287])))],[.vec 100 5 (List.map Way.enc b0_258),.dead,.vec 41 3 (List.map Swap.enc b2_280)]⟩ ?_ λsA4=>?_
      ·refine .step 8 [] (by decide +kernel) (.cons (i:=8) I (.app I I I I I I I I E42 I (λ_=>I) q288 (.nil ⟨I,I⟩)) ?_ .nil)
       exact .keepT [1,3,8,9,72,73,80] (.c4 I<|.c2 I<|.c I .nil) (.to #[true,true,true,true,true,true,true,true,true,false,false,false,false] (by decide +kernel) sA3)
      refine .via 5 #[true,false,true,true,true,true,true,true,true,false,false,false,false] ⟨[(1,.d (.sl 3 (List.map Swap.enc t1))),(3,.d (.ref (Model.enc t0))),(8,.d (.int x194)),(9,.d (.int x259)),(10,.d (.ref (Question.enc x265.1))),(72,.vec 0 (List.length b0_258)),(80,.vec 2 (List.length x288))],[.vec 100 5 (List.map Way.enc b0_258),.dead,.vec 41 3 (List.map Swap.enc x288)]⟩ ?_ λsA5=>?_
      ·refine .step 1 [] (by decide +kernel) (.cons (i:=1) I (.p I (.ld Y34 I) (.nil ⟨I,I⟩)) ?_ .nil)
       exact .keepT [1,3,8,9,72,73,80] (.c4 I<|.c2 I<|.c I .nil) (.to #[true,true,true,true,true,true,true,true,true,false,false,false,false] (by decide +kernel) sA3)
      refine .via 6 #[true,true,true,true,true,true,true,false,false,false,false,false,false] ⟨[(1,.d (.sl 3 (List.map Swap.enc t1))),(3,.d (.ref (Model.enc t0))),(8,.d (.int x194)),(9,.d (.int x259)),(72,.vec 0 (List.length b0_258)),(73,.d (Question.enc x265.1)),(74,.vec 2 (List.length b2_280)),(78,.d (Swap.enc x287))],[.vec 100 5 (List.map Way.enc b0_258),.dead,.vec 41 3 (List.map Swap.enc b2_280)]⟩ ?_ λsA6=>?_
      ·refine .step 7 [] (by decide +kernel) (.cons (i:=7) I (.p I (.buildSl [_] I I E42 I (λ_=>I) I (enc:=Swap.enc)) (.nil ⟨I,I⟩)) ?_ .nil)
       exact .keepT [1,3,8,9,72,73,74,79] (.c8 I .nil) (.to #[true,true,true,true,true,true,true,true,false,false,false,false,false] (by decide +kernel) sA4)
      refine .via 6 #[true,false,true,true,true,true,true,true,false,false,false,false,false] ⟨[(1,.d (.sl 3 (List.map Swap.enc t1))),(3,.d (.ref (Model.enc t0))),(8,.d (.int x194)),(9,.d (.int x259)),(10,.d (.ref (Question.enc x265.1))),(72,.vec 0 (List.length b0_258)),(74,.vec 2 (List.length b2_280)),(79,.d (.sl 3 (List.map Swap.enc [x287])))],[.vec 100 5 (List.map Way.enc b0_258),.dead,.vec 41 3 (List.map Swap.enc b2_280)]⟩ ?_ λsA7=>?_
      ·refine .step 1 [8] (by decide +kernel) (.cons (i:=1) I (.p I (.ld Y34 I) (.nil ⟨I,I⟩)) ?_ (.cons (i:=8) I (.app I I I I I I I I E42 I (λ_=>I) q288 (.nil ⟨I,I⟩)) ?_ .nil))
       ·exact .keepT [1,3,8,9,72,73,74,79] (.c8 I .nil) (.to #[true,true,true,true,true,true,true,true,false,false,false,false,false] (by decide +kernel) sA4)
       ·exact .keepT [1,3,8,9,10,72,80] (.c4 I<|.c2 I<|.c I .nil) (.to #[true,false,true,true,true,true,true,true,true,false,false,false,false] (by decide +kernel) sA5)
      refine .via 7 #[true,true,true,true,true,true,false,false,false,false,false,false,false] ⟨[(1,.d (.sl 3 (List.map Swap.enc t1))),(3,.d (.ref (Model.enc t0))),(8,.d (.int x194)),(9,.d (.int x259)),(72,.vec 0 (List.length b0_258)),(73,.d (Question.enc x265.1)),(74,.vec 2 (List.length b2_280)),(77,.d (.ref (Swap.enc x287)))],[.vec 100 5 (List.map Way.enc b0_258),.dead,.vec 41 3 (List.map Swap.enc b2_280)]⟩ ?_ λsA8=>?_
      ·refine .step 6 [] (by decide +kernel) (.cons (i:=6) I (.p I (.ld Y41 I) (.nil ⟨I,I⟩)) ?_ .nil)
       exact .keepT [1,3,8,9,72,73,74,78] (.c8 I .nil) (.to #[true,true,true,true,true,true,true,false,false,false,false,false,false] (by decide +kernel) sA6)
      refine .via 7 #[true,false,true,true,true,true,true,false,false,false,false,false,false] ⟨[(1,.d (.sl 3 (List.map Swap.enc t1))),(3,.d (.ref (Model.enc t0))),(8,.d (.int x194)),(9,.d (.int x259)),(10,.d (.ref (Question.enc x265.1))),(72,.vec 0 (List.length b0_258)),(74,.vec 2 (List.length b2_280)),(78,.d (Swap.enc x287))],[.vec 100 5 (List.map Way.enc b0_258),.dead,.vec 41 3 (List.map Swap.enc b2_280)]⟩ ?_ λsA9=>?_
      ·refine .step 1 [7] (by decide +kernel) (.cons (i:=1) I (.p I (.ld Y34 I) (.nil ⟨I,I⟩)) ?_ (.cons (i:=7) I (.p I (.buildSl [_] I I E42 I (λ_=>I) I (enc:=Swap.enc)) (.nil ⟨I,I⟩)) ?_ .nil))
       ·exact .keepT [1,3,8,9,72,73,74,78] (.c8 I .nil) (.to #[true,true,true,true,true,true,true,false,false,false,false,false,false] (by decide +kernel) sA6)
       ·exact .keepT [1,3,8,9,10,72,74,79] (.c8 I .nil) (.to #[true,false,true,true,true,true,true,true,false,false,false,false,false] (by decide +kernel) sA7)
      refine .via 8 #[true,true,true,true,true,false,false,false,false,false,false,false,false] ⟨[(1,.d (.sl 3 (List.map Swap.enc t1))),(3,.d (.ref (Model.enc t0))),(8,.d (.int x194)),(9,.d (.int x259)),(72,.vec 0 (List.length b0_258)),(73,.d (Question.enc x265.1)),(74,.vec 2 (List.length b2_280)),(75,.d (.sl 3 (List.map Swap.enc t1))),(76,.d (.int x259))],[.vec 100 5 (List.map Way.enc b0_258),.dead,.vec 41 3 (List.map Swap.enc b2_280)]⟩ ?_ λsA10=>?_
      ·refine .step 5 [] (by decide +kernel) (.cons (i:=5) I (.p I (.ix I U42 S41 q287) (.nil ⟨I,I⟩)) ?_ .nil)
       exact .keepT [1,3,8,9,72,73,74,77] (.c8 I .nil) (.to #[true,true,true,true,true,true,false,false,false,false,false,false,false] (by decide +kernel) sA8)
      refine .via 8 #[true,false,true,true,true,true,false,false,false,false,false,false,false] ⟨[(1,.d (.sl 3 (List.map Swap.enc t1))),(3,.d (.ref (Model.enc t0))),(8,.d (.int x194)),(9,.d (.int x259)),(10,.d (.ref (Question.enc x265.1))),(72,.vec 0 (List.length b0_258)),(74,.vec 2 (List.length b2_280)),(77,.d (.ref (Swap.enc x287)))],[.vec 100 5 (List.map Way.enc b0_258),.dead,.vec 41 3 (List.map Swap.enc b2_280)]⟩ ?_ λsA11=>?_
      ·refine .step 1 [6] (by decide +kernel) (.cons (i:=1) I (.p I (.ld Y34 I) (.nil ⟨I,I⟩)) ?_ (.cons (i:=6) I (.p I (.ld Y41 I) (.nil ⟨I,I⟩)) ?_ .nil))
       ·exact .keepT [1,3,8,9,72,73,74,77] (.c8 I .nil) (.to #[true,true,true,true,true,true,false,false,false,false,false,false,false] (by decide +kernel) sA8)
       ·exact .keepT [1,3,8,9,10,72,74,78] (.c8 I .nil) (.to #[true,false,true,true,true,true,true,false,false,false,false,false,false] (by decide +kernel) sA9)
      refine .step 1 [5] (by decide +kernel) (.cons (i:=1) I (.p I (.ld Y34 I) (.nil ⟨I,I⟩)) ?_ (.cons (i:=5) I (.p I (.ix I U42 S41 q287) (.nil ⟨I,I⟩)) ?_ .nil))
      ·exact .keepT [1,3,8,9,72,73,74,75,76] (.c8 I<|.c I .nil) (.to #[true,true,true,true,true,false,false,false,false,false,false,false,false] (by decide +kernel) sA10)
      ·exact .keepT [1,3,8,9,10,72,74,77] (.c8 I .nil) (.to #[true,false,true,true,true,true,false,false,false,false,false,false,false] (by decide +kernel) sA11)
    ·refine .skip (ndE h I)
   ·refine .rA 3 I (ndE h I)
  ·refine .exit<|.rA 3 I (ndE h I)
 ·refine .exit<|.sA 2 I<|.ret ?_
  cases h
  exact zb9 I (.vec I (by simp))
theorem zg9 (n t0 t1 r) (h:zat n t0 t1=some r):Pure pg 25 [Model.enc t0,Question.enc t1] (eP r):=by
 refine Pure.ot Tryz.func25 I Tryz.ntmps25 I λA w=>.S 2 I<|.p I (.nilS 4 (α:=Question) Question.enc I)<|.nil<|.sr<|.buildVec [] I I I I I E49 I (λ_=>I) I (enc:=Question.enc)<|.A 1 I<|.nil<|.seq<|.S 2 I<|.Z h I (zkQ _ _ _) λx1 h=>.A 1 I<|.nil<|.condS I h (λh=>?_) λh=>?_
 ·refine .sA 2 I<|.ret ?_
  cases h
  exact zb9 I (.vec I (by simp))
 ·refine .skip<|.seq<|.draw 6 Hm (by kernel_rfl) (by kernel_rfl)<|.A 2 I<|.Z h I (zfc _ _) λx2 h=>.A 1 I<|.Z h I (zhP _ _ _ _) λx3 h=>.A 1 I<|.nil<|.nil<|.seq<|.block<|.L [6] h (λv=>[(5,.vec 0 (List.length v))]) (λv=>[(0,.vec 34 4 (List.map Question.enc v))]) I λ_ b0_124 h=>.seq<|.S 1 I<|.p I (.lenV I U49 I I I)<|.A 1 I<|.p I (.len I U97 I)<|.A 1 I<|.nil<|.K [5,6,26] I<|.condS I h (λh=>?_) λh=>?_
  ·refine .skip<|.block<|.sr<|.p I (.castD (Question.enc (⟨0,0,(⟨false,0⟩:Target)⟩:Question)) I (.build I Pl34 (.agg Zc34 (ds':=[_,_,_,_]) (.e (.e (.e .e1)))) I I))<|.allocZ I I I I (.agg Zc34 (ds':=[.int 0,.int 0,.bool false,.int 0]) (.e (.e (.e .e1)))) I<|.store I I I I I I (.ofD I) C34 I (yd I)<|.nil<|.sA 1 I<|.seq<|.sA 1 I<|.block<|.L [5,6,7] h (λv=>[(8,.d (.bool v.2.2.2.2.1)),(9,.d (.int v.2.2.2.2.2))]) (λv=>[(1,.box 34 [.d (.int v.1),.d (.int v.2.1),.d (.bool v.2.2.1),.d (.int v.2.2.2.1)])]) I λ_ ⟨c1_0_164,c1_1_165,c1_2_166,c1_3_167,x168,x169⟩ h=>.seq<|.S 2 I<|.p I (.len I U97 I)<|.A 1 I<|.nil<|.K [5,6,7,8,9,31] I<|.condS I h (λh=>?_) λh=>?_
   ·refine .skip<|.J [5,6,7,9] h (λv=>[(8,.d (.bool v.2.2.2.2))]) (λv=>[(1,.box 34 [.d (.int v.1),.d (.int v.2.1),.d (.bool v.2.2.1),.d (.int v.2.2.2.1)])]) I (λk_176 h=>?_) (λv h=>?_)
    ·refine .block<|.S 2 I<|.X h I λx177 h=>.p I (.fa I (zoz _))<|.A 1 I<|.allocStore I I I I I I I I (by simp) I I Z34<|.nil<|.seq<|.draw 22 Hm (by kernel_rfl) (by kernel_rfl)<|.A 1 I<|.p I (.lenV I U49 I I I)<|.A 2 I<|gK h λc179 h=>gK h λc180 h=>.jO 8 (((zcf n ((idx b0_124 (sub64 (b0_124.length:Int) 1)).getD default) x177.question).getD default)) I (λb178=>?_) ?_
     ·refine .A 2 I<|.q I (.lenV I U49 I I I)<|.A 1 I<|.q I (.idxV I I I I I U49 S34 (someD (impF c179 b178)))<|.q I (.loadEl I I I I (someD (impF c179 b178)) Y34 I)<|.A 1 I<|.q I (.call I (kC I) I (zhO _ _ _ _ (someD (impF c180 b178))))<|.nil I
     refine .A 1 I<|gK h λc183 h=>.jA 7 ((!x168)||((zcf n x177.question (⟨c1_0_164,c1_1_165,(⟨c1_2_166,c1_3_167⟩:Target)⟩:Question)).getD default)) I (λb181=>?_) ?_
     ·refine .A 3 I<|.jOr 3 (b2:=((zcf n x177.question (⟨c1_0_164,c1_1_165,(⟨c1_2_166,c1_3_167⟩:Target)⟩:Question)).getD default)) I I I I (.inr ⟨_,_,_,I,I,I⟩) (λ_ _ _ h1 h2=>by cases h1;cases h2;decide) I I (λb182=>?_) ?_
      ·refine .A 1 I<|.q I (.loadLoc I I I Y34 (yd I) (v:=.d (Question.enc (⟨c1_0_164,c1_1_165,(⟨c1_2_166,c1_3_167⟩:Target)⟩:Question))) I)<|.q I (.call I (kC I) I (zhO _ _ _ _ (someD (impF (impT c183 b181) b182))))<|.nil I
      exact .nil I
     refine .nil<|.nil<|.K [5,6,7,8,9,10,60] I<|.condS I h (λh=>?_) λh=>?_
     ·refine .S 1 I<|.store I I I I I I (.ofD I) C34 I (yd I)<|.nil<|.rA 1 I (ndE h I)
     ·refine .skip (ndE h I)
    ·obtain ⟨c1_0_171,c1_1_172,c1_2_173,c1_3_174,x175⟩:=v
     refine .rA 3 I (ndE h I)
   ·refine .exit<|.region<|.A 1 I<|.p I (.loadLoc I I I Y34 (yd I) (v:=.d (Question.enc (⟨c1_0_164,c1_1_165,(⟨c1_2_166,c1_3_167⟩:Target)⟩:Question))) I)<|.p I (.buildSl [_] I I E49 I (λ_=>I) I (enc:=Question.enc))<|bK h λx184 q184 h=>.app I I I I I I I I E49 I (λ_=>I) q184<|.A 1 I<|.nil (ndE h I)
  ·refine .exit<|.sA 2 I<|.ret ?_
   cases h
   exact zb9 I (.vec I (by simp))
theorem zfP (n t0 t1 r) (h:zar n t0 t1=some r):Pure pg 17 [Model.enc t0,Question.enc t1] (.tup [Question.enc r.1,.sl 3 (List.map Swap.enc r.2)]):=by
 refine Pure.ot Tryz.func17 I Tryz.ntmps17 I λA w=>.S 2 I<|.allocZ I I I I (.agg Zc34 (ds':=[.int 0,.int 0,.bool false,.int 0]) (.e (.e (.e .e1)))) I<|.p I (.nilS 3 (α:=Swap) Swap.enc I)<|.nil<|.S 2 I<|.Z h I (zg9 _ _ _) λx1 h=>.A 1 I<|.nil<|.seq<|.S 1 I<|.p I (.len I U49 I)<|.A 1 I<|.nil<|.condS I h (λh=>?_) λh=>?_
 ·refine .sr<|.p I (.castD (Question.enc (⟨0,0,(⟨false,0⟩:Target)⟩:Question)) I (.build I Pl34 (.agg Zc34 (ds':=[_,_,_,_]) (.e (.e (.e .e1)))) I I))<|.store I I I I I I (.ofD I) C34 I (yd I)<|.p I (.nilS 3 (α:=Swap) Swap.enc I)<|.nil<|.ret ?_
  cases h
  exact zbz I I Y34 (.v (.v (.v .v1))) I (.d _)
 ·refine .skip<|.seq<|.draw 8 Hm (by kernel_rfl) (by kernel_rfl)<|.A 2 I<|.Z h I (zfc _ _) λx2 h=>.A 1 I<|.X h I λx3 h=>.A 1 I<|.Z h I (zhP _ _ _ _) λx4 h=>.A 1 I<|.nil<|.nil<|.K [3,4,6,7] I<|.seq<|.sA 1 I<|.block<|.L [3,4,6,7] h (λv=>[(8,.d (.int v))]) (λv=>[]) I λ_ x13 h=>.seq<|.S 2 I<|.p I (.len I U97 I)<|.A 1 I<|.nil<|.K [3,4,6,7,8,26] I<|.condS I h (λh=>?_) λh=>?_
  ·refine .skip<|.seq<|.block<|.seq<|.draw 7 Hm (by kernel_rfl) (by kernel_rfl)<|.A 2 I<|.X h I λx15 h=>.p I (.fa I (zoz _))<|.A 2 I<|.p I (.seql I SE34 I I (xs:=Question.vals _) (ys:=Question.vals _) I I I I (SQ34 _ _))<|.nil<|.nil<|.condS I h (λh=>?_) λh=>?_
   ·refine .seq<|bK h λx16 q16 h=>bK h λx17 q17 h=>.drawA 10 Hm I<|.first 0 I (by decide +kernel) (by decide +kernel) (by decide +kernel) I (.m I (.nil ⟨I,I⟩))<|.first 3 I (by decide +kernel) (by decide +kernel) (by decide +kernel) I (.m I (.nil ⟨I,I⟩))<|.first 4 I (by decide +kernel) (by decide +kernel) (by decide +kernel) I (.m I (.nil ⟨I,I⟩))<|.via 1 #[true,true,true,true,true,true,true,true,true,false] ⟨[(4,.loc 0 0),(43,.d (.sl 3 (List.map Swap.enc x17.swaps)))],[.box 34 [.d (.int x16.e),.d (.int x16.f),.d (.bool x16.target.hold),.d (.int x16.target.index)]]⟩ ?_ λsA0=>?_
    ·refine .step 9 [] (by decide +kernel) (.cons (i:=9) I (.z I (.nil ⟨I,I⟩)) ?_ .nil)
     refine .done (by decide +kernel)<|.K [4,5] I<|.ret ?_
     cases h
     exact zbz I I Y34 (.v (.v (.v .v1))) I (.d _)
    refine .via 2 #[true,true,true,true,true,true,true,true,false,false] ⟨[(4,.loc 0 0),(38,.d (Question.enc x16)),(43,.d (.sl 3 (List.map Swap.enc x17.swaps)))],[.box 34 [.d (.int 0),.d (.int 0),.d (.bool false),.d (.int 0)]]⟩ ?_ λsA1=>?_
    ·refine .step 8 [] (by decide +kernel) (.cons (i:=8) I (.store I I I I I I (.ofD I) C34 I (yd I) (.nil ⟨I,I⟩)) ?_ .nil)
     exact .keepT [4,43] (.c2 I .nil) (.to #[true,true,true,true,true,true,true,true,true,false] (by decide +kernel) sA0)
    refine .via 2 #[true,true,true,true,true,true,true,false,true,false] ⟨[(4,.loc 0 0),(42,.d (.ref (.sl 3 (List.map Swap.enc x17.swaps))))],[.box 34 [.d (.int x16.e),.d (.int x16.f),.d (.bool x16.target.hold),.d (.int x16.target.index)]]⟩ ?_ λsA2=>?_
    ·refine .step 7 [] (by decide +kernel) (.cons (i:=7) I (.p I (.ld Y42 I) (.nil ⟨I,I⟩)) ?_ .nil)
     exact .keepT [4,43] (.c2 I .nil) (.to #[true,true,true,true,true,true,true,true,true,false] (by decide +kernel) sA0)
    refine .via 3 #[true,true,true,true,true,true,true,false,false,false] ⟨[(4,.loc 0 0),(38,.d (Question.enc x16)),(42,.d (.ref (.sl 3 (List.map Swap.enc x17.swaps))))],[.box 34 [.d (.int 0),.d (.int 0),.d (.bool false),.d (.int 0)]]⟩ ?_ λsA3=>?_
    ·refine .step 7 [8] (by decide +kernel) (.cons (i:=7) I (.p I (.ld Y42 I) (.nil ⟨I,I⟩)) ?_ (.cons (i:=8) I (.store I I I I I I (.ofD I) C34 I (yd I) (.nil ⟨I,I⟩)) ?_ .nil))
     ·exact .keepT [4,38,43] (.c2 I<|.c I .nil) (.to #[true,true,true,true,true,true,true,true,false,false] (by decide +kernel) sA1)
     ·exact .keepT [4,42] (.c2 I .nil) (.to #[true,true,true,true,true,true,true,false,true,false] (by decide +kernel) sA2)
    refine .via 3 #[true,true,true,true,true,true,false,false,true,false] ⟨[(4,.loc 0 0),(41,.d (.ref (Way.enc x17)))],[.box 34 [.d (.int x16.e),.d (.int x16.f),.d (.bool x16.target.hold),.d (.int x16.target.index)]]⟩ ?_ λsA4=>?_
    ·refine .step 6 [] (by decide +kernel) (.cons (i:=6) I (.p I (.fa I (znl _)) (.nil ⟨I,I⟩)) ?_ .nil)
     exact .keepT [4,42] (.c2 I .nil) (.to #[true,true,true,true,true,true,true,false,true,false] (by decide +kernel) sA2)
    refine .via 3 #[true,true,false,true,true,true,true,true,false,false] ⟨[(4,.loc 0 0),(37,.d (.ref (Question.enc x16))),(43,.d (.sl 3 (List.map Swap.enc x17.swaps)))],[.box 34 [.d (.int 0),.d (.int 0),.d (.bool false),.d (.int 0)]]⟩ ?_ λsA5=>?_
    ·refine .step 2 [] (by decide +kernel) (.cons (i:=2) I (.p I (.ld Y34 I) (.nil ⟨I,I⟩)) ?_ .nil)
     exact .keepT [4,38,43] (.c2 I<|.c I .nil) (.to #[true,true,true,true,true,true,true,true,false,false] (by decide +kernel) sA1)
    refine .via 4 #[true,true,true,true,true,true,false,false,false,false] ⟨[(4,.loc 0 0),(38,.d (Question.enc x16)),(41,.d (.ref (Way.enc x17)))],[.box 34 [.d (.int 0),.d (.int 0),.d (.bool false),.d (.int 0)]]⟩ ?_ λsA6=>?_
    ·refine .step 6 [8] (by decide +kernel) (.cons (i:=6) I (.p I (.fa I (znl _)) (.nil ⟨I,I⟩)) ?_ (.cons (i:=8) I (.store I I I I I I (.ofD I) C34 I (yd I) (.nil ⟨I,I⟩)) ?_ .nil))
     ·exact .keepT [4,38,42] (.c2 I<|.c I .nil) (.to #[true,true,true,true,true,true,true,false,false,false] (by decide +kernel) sA3)
     ·exact .keepT [4,41] (.c2 I .nil) (.to #[true,true,true,true,true,true,false,false,true,false] (by decide +kernel) sA4)
    refine .via 4 #[true,true,true,true,true,false,false,false,true,false] ⟨[(4,.loc 0 0),(39,.d (.sl 5 (List.map Way.enc x4))),(40,.d (.int x13))],[.box 34 [.d (.int x16.e),.d (.int x16.f),.d (.bool x16.target.hold),.d (.int x16.target.index)]]⟩ ?_ λsA7=>?_
    ·refine .step 5 [] (by decide +kernel) (.cons (i:=5) I (.p I (.ix I U97 S100 q17) (.nil ⟨I,I⟩)) ?_ .nil)
     exact .keepT [4,41] (.c2 I .nil) (.to #[true,true,true,true,true,true,false,false,true,false] (by decide +kernel) sA4)
    refine .via 4 #[true,true,false,true,true,true,true,false,false,false] ⟨[(4,.loc 0 0),(37,.d (.ref (Question.enc x16))),(42,.d (.ref (.sl 3 (List.map Swap.enc x17.swaps))))],[.box 34 [.d (.int 0),.d (.int 0),.d (.bool false),.d (.int 0)]]⟩ ?_ λsA8=>?_
    ·refine .step 2 [7] (by decide +kernel) (.cons (i:=2) I (.p I (.ld Y34 I) (.nil ⟨I,I⟩)) ?_ (.cons (i:=7) I (.p I (.ld Y42 I) (.nil ⟨I,I⟩)) ?_ .nil))
     ·exact .keepT [4,38,42] (.c2 I<|.c I .nil) (.to #[true,true,true,true,true,true,true,false,false,false] (by decide +kernel) sA3)
     ·exact .keepT [4,37,43] (.c2 I<|.c I .nil) (.to #[true,true,false,true,true,true,true,true,false,false] (by decide +kernel) sA5)
    refine .via 4 #[true,false,false,true,true,true,true,true,false,false] ⟨[(4,.loc 0 0),(36,.d (eP x1)),(43,.d (.sl 3 (List.map Swap.enc x17.swaps)))],[.box 34 [.d (.int 0),.d (.int 0),.d (.bool false),.d (.int 0)]]⟩ ?_ λsA9=>?_
    ·refine .step 1 [] (by decide +kernel) (.cons (i:=1) I (.p I (.ix I U49 S34 q16) (.nil ⟨I,I⟩)) ?_ .nil)
     exact .keepT [4,37,43] (.c2 I<|.c I .nil) (.to #[true,true,false,true,true,true,true,true,false,false] (by decide +kernel) sA5)
    refine .via 5 #[true,true,true,true,true,false,false,false,false,false] ⟨[(4,.loc 0 0),(38,.d (Question.enc x16)),(39,.d (.sl 5 (List.map Way.enc x4))),(40,.d (.int x13))],[.box 34 [.d (.int 0),.d (.int 0),.d (.bool false),.d (.int 0)]]⟩ ?_ λsA10=>?_
    ·refine .step 5 [8] (by decide +kernel) (.cons (i:=5) I (.p I (.ix I U97 S100 q17) (.nil ⟨I,I⟩)) ?_ (.cons (i:=8) I (.store I I I I I I (.ofD I) C34 I (yd I) (.nil ⟨I,I⟩)) ?_ .nil))
     ·exact .keepT [4,38,41] (.c2 I<|.c I .nil) (.to #[true,true,true,true,true,true,false,false,false,false] (by decide +kernel) sA6)
     ·exact .keepT [4,39,40] (.c2 I<|.c I .nil) (.to #[true,true,true,true,true,false,false,false,true,false] (by decide +kernel) sA7)
    refine .via 5 #[true,true,false,true,true,true,false,false,false,false] ⟨[(4,.loc 0 0),(37,.d (.ref (Question.enc x16))),(41,.d (.ref (Way.enc x17)))],[.box 34 [.d (.int 0),.d (.int 0),.d (.bool false),.d (.int 0)]]⟩ ?_ λsA11=>?_
    ·refine .step 2 [6] (by decide +kernel) (.cons (i:=2) I (.p I (.ld Y34 I) (.nil ⟨I,I⟩)) ?_ (.cons (i:=6) I (.p I (.fa I (znl _)) (.nil ⟨I,I⟩)) ?_ .nil))
     ·exact .keepT [4,38,41] (.c2 I<|.c I .nil) (.to #[true,true,true,true,true,true,false,false,false,false] (by decide +kernel) sA6)
     ·exact .keepT [4,37,42] (.c2 I<|.c I .nil) (.to #[true,true,false,true,true,true,true,false,false,false] (by decide +kernel) sA8)
    refine .via 5 #[true,false,false,true,true,true,true,false,false,false] ⟨[(4,.loc 0 0),(36,.d (eP x1)),(42,.d (.ref (.sl 3 (List.map Swap.enc x17.swaps))))],[.box 34 [.d (.int 0),.d (.int 0),.d (.bool false),.d (.int 0)]]⟩ ?_ λsA12=>?_
    ·refine .step 1 [7] (by decide +kernel) (.cons (i:=1) I (.p I (.ix I U49 S34 q16) (.nil ⟨I,I⟩)) ?_ (.cons (i:=7) I (.p I (.ld Y42 I) (.nil ⟨I,I⟩)) ?_ .nil))
     ·exact .keepT [4,37,42] (.c2 I<|.c I .nil) (.to #[true,true,false,true,true,true,true,false,false,false] (by decide +kernel) sA8)
     ·exact .keepT [4,36,43] (.c2 I<|.c I .nil) (.to #[true,false,false,true,true,true,true,true,false,false] (by decide +kernel) sA9)
    refine .via 6 #[true,true,false,true,true,false,false,false,false,false] ⟨[(4,.loc 0 0),(37,.d (.ref (Question.enc x16))),(39,.d (.sl 5 (List.map Way.enc x4))),(40,.d (.int x13))],[.box 34 [.d (.int 0),.d (.int 0),.d (.bool false),.d (.int 0)]]⟩ ?_ λsA13=>?_
    ·refine .step 2 [5] (by decide +kernel) (.cons (i:=2) I (.p I (.ld Y34 I) (.nil ⟨I,I⟩)) ?_ (.cons (i:=5) I (.p I (.ix I U97 S100 q17) (.nil ⟨I,I⟩)) ?_ .nil))
     ·exact .keepT [4,38,39,40] (.c4 I .nil) (.to #[true,true,true,true,true,false,false,false,false,false] (by decide +kernel) sA10)
     ·exact .keepT [4,37,41] (.c2 I<|.c I .nil) (.to #[true,true,false,true,true,true,false,false,false,false] (by decide +kernel) sA11)
    refine .via 6 #[true,false,false,true,true,true,false,false,false,false] ⟨[(4,.loc 0 0),(36,.d (eP x1)),(41,.d (.ref (Way.enc x17)))],[.box 34 [.d (.int 0),.d (.int 0),.d (.bool false),.d (.int 0)]]⟩ ?_ λsA14=>?_
    ·refine .step 1 [6] (by decide +kernel) (.cons (i:=1) I (.p I (.ix I U49 S34 q16) (.nil ⟨I,I⟩)) ?_ (.cons (i:=6) I (.p I (.fa I (znl _)) (.nil ⟨I,I⟩)) ?_ .nil))
     ·exact .keepT [4,37,41] (.c2 I<|.c I .nil) (.to #[true,true,false,true,true,true,false,false,false,false] (by decide +kernel) sA11)
     ·exact .keepT [4,36,42] (.c2 I<|.c I .nil) (.to #[true,false,false,true,true,true,true,false,false,false] (by decide +kernel) sA12)
    refine .step 1 [5] (by decide +kernel) (.cons (i:=1) I (.p I (.ix I U49 S34 q16) (.nil ⟨I,I⟩)) ?_ (.cons (i:=5) I (.p I (.ix I U97 S100 q17) (.nil ⟨I,I⟩)) ?_ .nil))
    ·exact .keepT [4,37,39,40] (.c4 I .nil) (.to #[true,true,false,true,true,false,false,false,false,false] (by decide +kernel) sA13)
    ·exact .keepT [4,36,41] (.c2 I<|.c I .nil) (.to #[true,false,false,true,true,true,false,false,false,false] (by decide +kernel) sA14)
   ·refine .skip<|.rA 3 I (ndE h I)
  ·refine .exit<|.sr<|.p I (.castD (Question.enc (⟨0,0,(⟨false,0⟩:Target)⟩:Question)) I (.build I Pl34 (.agg Zc34 (ds':=[_,_,_,_]) (.e (.e (.e .e1)))) I I))<|.store I I I I I I (.ofD I) C34 I (yd I)<|.p I (.nilS 3 (α:=Swap) Swap.enc I)<|.nil<|.ret ?_
   cases h
   exact zbz I I Y34 (.v (.v (.v .v1))) I (.d _)
theorem zlU (n t0 t1 r) (h:zgO n t0 t1=some r):Pure pg 58 [Model.enc t0,Swap.enc t1] (.bool r):=by
 refine Pure.ot Tryz.func58 I Tryz.ntmps58 I λA w=>.sA 3 I<|.seq<|.draw 39 Hm (by kernel_rfl) (by kernel_rfl)<|.A 1 I<|.Z h I (zfb _ _) λx1 h=>.A 1 I<|.jA 3 (decide (0≤t1.sort)) I (λb2=>?_) ?_
 ·refine .A 3 I<|.nil I
 refine .A 1 I<|.jA 6 (decide (t1.sort<(t0.sorts.length:Int))) I (λb3=>?_) ?_
 ·refine .A 4 I<|.q I (.len I U22 I)<|.A 1 I<|.nil I
 refine .A 1 I<|.jA 3 (decide (0≤t1.a)) I (λb4=>?_) ?_
 ·refine .A 3 I<|.nil I
 refine .A 1 I<|.jA 5 (decide (t1.a<t1.b)) I (λb5=>?_) ?_
 ·refine .A 2 I<|.q I (.fa I (G41_2 _))<|.A 2 I<|.nil I
 refine .A 1 I<|gK h λc7 h=>.jA 9 (decide (t1.b<((idx t0.sorts t1.sort).getD default))) I (λb6=>?_) ?_
 ·refine .q I (.fa I (G41_2 _))<|.A 5 I<|.q I (.ix I U22 S3 (someD (impT c7 b6)))<|.A 2 I<|.nil I
 refine .A 1 I<|.nil<|.nil<|.K [4] I<|.ret (rO h I)
theorem zkO (n t0 t1 r) (h:zeD n t0 t1=some r):Pure pg 19 [Model.enc t0,Swap.enc t1] (.bool r):=by
 refine Pure.ot Tryz.func19 I Tryz.ntmps19 I λA w=>.sA 3 I<|.seq<|.plain 8 I<|.A 2 I<|.Z h I (zlU _ _ _) λx1 h=>.A 1 I<|gK h λc3 h=>.jA 3 (((zW n t0 t1).getD default)) I (λb2=>?_) ?_
 ·refine .A 2 I<|.q I (.call I (kC I) I (zeU _ _ _ _ (someD (impT c3 b2))))<|.nil I
 refine .nil<|.A 1 I<|.nil<|.ret (rO h I)
theorem zcT (n t0 t1 r) (h:zl n t0 t1=some r):Pure pg 23 [eP t0,eP t1] (.bool r):=by
 refine Pure.ot Tryz.func23 I Tryz.ntmps23 I λA w=>.sA 1 I<|.seq<|.S 1 I<|.p I (.len I U49 I)<|.A 1 I<|.p I (.len I U49 I)<|.A 1 I<|.nil<|.condS I h (λh=>?_) λh=>?_
 ·refine .sA 1 I<|.ret (rO h I)
 ·refine .skip<|.seq<|.S 1 I<|.p I (.len I U49 I)<|.A 1 I<|.nil<|.block<|.L [0,1,12] h (λv=>[(13,.d (.int v))]) (λv=>[]) I λ_ x7 h=>.sA 1 I<|.seq<|.condS I h (λh=>?_) λh=>?_
  ·refine .skip<|.seq<|.block<|.sA 2 I<|.seq<|.draw 9 Hm (by kernel_rfl) (by kernel_rfl)<|.A 2 I<|.X h I λx9 h=>.A 3 I<|.X h I λx10 h=>.A 1 I<|.p I (.sneq I SE34 I I (xs:=Question.vals _) (ys:=Question.vals _) I I I I (SQ34 _ _))<|.nil<|.nil<|.condS I h (λh=>?_) λh=>?_
   ·refine .sA 1 I<|.ret (rO h I)
   ·refine .skip<|.rA 2 I (ndE h I)
  ·refine .exit<|.sA 1 I<|.ret (rO h I)
theorem zfH (n t0 t1 t2 r) (h:zc3 n t0 t1 t2=some r):Pure pg 4 [Model.enc t0,Swap.enc t1,Question.enc t2] (.bool r):=by
 refine Pure.ot Tryz.func4 I Tryz.ntmps4 I λA w=>.sA 4 I<|.seq<|.sr<|.Z h I (zkB _ ) λx1 h=>.A 1 I<|.nil<|.condS I h (λh=>?_) λh=>?_
 ·refine .sA 1 I<|.ret (rO h I)
 ·refine .skip<|.seq<|.S 1 I<|.Z h I (zmK _ _) λx2 h=>.A 1 I<|.nil<|.condS I h (λh=>?_) λh=>?_
  ·refine .sA 1 I<|.ret (rO h I)
  ·refine .skip<|.S 2 I<|.Z h I (zc0 _ _ _) λx3 h=>.A 1 I<|.p I (.extract I I I)<|.p I (.extract I I I)<|.allocStore I I I I I I I I (by simp) I I Z34<|.A 1 I<|.nil<|.K [3,4,5,7,8] I<|.S 2 I<|.Z h I (zfP _ _ _) λx4 h=>.A 1 I<|.p I (.extract I I I)<|.p I (.extract I I I)<|.allocStore I I I I I I I I (by simp) I I Z34<|.A 1 I<|.nil<|.seq<|.draw 34 Hm (by kernel_rfl) (by kernel_rfl)<|.A 2 I<|.Z h I (zfx _ _ _) λx5 h=>.A 2 I<|.Z h I (zkO _ _ _) λx6 h=>.p I (.beq I U4 I I)<|.A 1 I<|gK h λc8 h=>gK h λc9 h=>gK h λc10 h=>.jA 5 (((zb n ((zal n t0).getD default) ((zN n t0).getD default)).getD default)) I (λb7=>?_) ?_
   ·refine .A 1 I<|.q I (.call I (kC I) I (zfz _ _ _ (someD (impT c8 b7))))<|.A 1 I<|.q I (.call I (kC I) I (zfc _ _ _ (someD (impT c9 b7))))<|.q I (.call I (kC I) I (zbv _ _ _ _ (someD (impT c10 b7))))<|.nil I
   refine .A 1 I<|gK h λc12 h=>gK h λc13 h=>gK h λc14 h=>.jA 7 (((zl n ((zag n t0 t2).getD default) ((zat n t0 t2).getD default)).getD default)) I (λb11=>?_) ?_
   ·refine .A 2 I<|.q I (.call I (kC I) I (zfy _ _ _ _ (someD (impT c12 b11))))<|.A 2 I<|.q I (.call I (kC I) I (zg9 _ _ _ _ (someD (impT c13 b11))))<|.q I (.call I (kC I) I (zcT _ _ _ _ (someD (impT c14 b11))))<|.nil I
   refine .A 1 I<|.jA 3 (decide ((x3.1:Question)=x4.1)) I (λb15=>?_) ?_
   ·refine .A 2 I<|.q I (.seql I SE34 I I (xs:=Question.vals _) (ys:=Question.vals _) I I I I (SQ34 _ _))<|.nil I
   refine .A 1 I<|gK h λc17 h=>.jA 3 (((zb n x3.2 x4.2).getD default)) I (λb16=>?_) ?_
   ·refine .A 2 I<|.q I (.call I (kC I) I (zbv _ _ _ _ (someD (impT c17 b16))))<|.nil I
   refine .A 1 I<|.nil<|.nil<|.K [6] I<|.ret (rO h I)
theorem zT {σ R:Type} {body:(σ→Option R)→σ→Option R} {len:Nat} {st:Nat→σ} {g:Nat→Option R}
  (hb:∀ rec i,i<len→rec (st (i+1))=g (i+1)→body rec (st i)=g i) (he:∀ rec,body rec (st len)=g len) :
  ∀ n i,i≤len→len - i<n→loopF body n (st i)=g i
 | 0,_,_,h=>by omega
 | n+1,i,hi,h=>by
  simp only [loopF];by_cases e:i=len
  ·subst e;exact he _
  ·exact hb _ i (by omega) (zT hb he n (i+1) (by omega) (by omega))
theorem zd {i:Nat} (h:i<4611686018427387904):add64 (i:Int) 1=((i+1:Nat):Int):=by
 unfold add64;rw [zed (by omega) (by omega)];omega
theorem za {α:Type} {l:List α} {i:Nat} (h:i<l.length):idx l (i:Int)=some l[i]:=by
 unfold idx;rw [if_pos (by omega)];simp [h]
theorem zn {α:Type} {l:List α} {i:Nat} (h:i<l.length):decide ((i:Int)<(l.length:Int))=true:=by simp;omega
theorem zaq {α:Type} {l:List α}:decide (((l.length:Nat):Int)<(l.length:Int))=false:=by simp
def zoI:List Change→Int→Int
 | [],_=>0
 | d::l,c=>if d.cell=c then d.add else zoI l c
theorem zh {α:Type} {l:List α} {i:Nat} (h:i<l.length):l.drop i=l[i]::l.drop (i+1):=List.drop_eq_getElem_cons h
def addP (c:Int):List Change→Int→Int
 | [],s=>s
 | d::l,s=>addP c l (if d.cell=c then add64 s d.add else s)
section
variable {κ:Type} [DecidableEq κ]
structure SetIs (m:GMap κ Bool) (l:List κ):Prop where
 tru:∀ e∈m.es,e.2.2=true
 mem:∀ k,k∈m.es.map (λe=>e.2.1)↔k∈l
theorem zjK (k:κ):∀ (es:List (Nat×κ×Bool)),(∀ e∈es,e.2.2=true)→((findK k es).map (·.2)).getD false=decide (k∈es.map (λe=>e.2.1))
 | [],_=>by simp [findK]
 | e::es,h=>by
  simp only [findK,yI,yD];by_cases hk:k=e.2.1
  ·simp [hk,h e (by simp)]
  ·rw [if_neg hk];have:=zjK k es λx hx=>h x (by simp [hx])
   simp only [hk,false_or,← this,Option.map_map];cases findK k es <;> rfl
theorem zny (k:κ):∀ (es:List (Nat×κ×Bool)),findK k es=none→k∉es.map (λe=>e.2.1)
 | [],_=>by simp
 | e::es,h=>by
  simp only [findK] at h;split at h
  ·cases h
  ·rename_i hk;simp only [Option.map_eq_none_iff] at h;simp only [yI,yD,not_or];exact ⟨hk,zny k es h⟩
theorem zjL (k:κ):∀ (es:List (Nat×κ×Bool)) (p:Nat×Bool),findK k es=some p→k∈es.map (λe=>e.2.1)
 | [],_,h=>by simp [findK] at h
 | e::es,p,h=>by
  simp only [findK] at h;split at h
  ·rename_i hk;simp [hk]
  ·simp only [Option.map_eq_some_iff] at h;obtain ⟨q,h1,_⟩:=h;exact uz _ (zjL k es q h1)
theorem SetIs.get {m:GMap κ Bool} {l:List κ} (h:SetIs m l) (k:κ):(m.get? k).getD false=decide (k∈l):=by
 unfold GMap.get?;rw [zjK k m.es h.tru];exact decide_eq_decide.2 (h.mem k)
theorem SetIs.empty:SetIs (GMap.empty:GMap κ Bool) []:=⟨λe he=>(by simp [GMap.empty] at he),λk=>by simp [GMap.empty]⟩
theorem zhk (f:Nat×κ×Bool→Nat×κ×Bool) (hf:∀ e,(f e).2.1=e.2.1):∀ (es:List (Nat×κ×Bool)) (i:Nat),(es.modify i f).map (λe=>e.2.1)=es.map (λe=>e.2.1)
 | [],_=>by simp
 | e::es,0=>by simp [hf]
 | e::es,i+1=>by simp [zhk f hf es i]
theorem zio {p:Nat×κ×Bool→Prop} (f:Nat×κ×Bool→Nat×κ×Bool) (hf:∀ e,p (f e)):∀ (es:List (Nat×κ×Bool)) (i:Nat),(∀ e∈es,p e)→∀ e∈es.modify i f,p e
 | [],_,_=>by simp
 | e::es,0,h=>by
  intro x hx;simp only [List.modify_zero_cons,yD] at hx;rcases hx with rfl | hx
  ·exact hf e
  ·exact h x (by simp [hx])
 | e::es,i+1,h=>by
  intro x hx;simp only [List.modify_succ_cons,yD] at hx;rcases hx with rfl | hx
  ·exact h x (by simp)
  ·exact zio f hf es i (λy hy=>h y (by simp [hy])) x hx
theorem SetIs.put {m:GMap κ Bool} {l:List κ} (h:SetIs m l) (k:κ):SetIs (m.put k true) (l++[k]):=by
 unfold GMap.put;cases hk:findK k m.es with
 | none=>
  simp only [];refine ⟨λe he=>?_,λx=>?_⟩
  ·simp only [yE,yB] at he;rcases he with he | rfl
   ·exact h.tru e he
   ·rfl
  ·simp only [y8,yI,List.map_nil,yE,yB,h.mem x]
 | some p=>
  obtain ⟨i,b⟩:=p;simp only [];have hkl:k∈l:=(h.mem k).1 (zjL k m.es _ hk);refine ⟨zio (p:=λe=>e.2.2=true) _ (λe=>rfl) m.es i h.tru,λx=>?_⟩;rw [zhk (λe:Nat×κ×Bool=>(e.1,e.2.1,true)) (λe=>rfl) m.es i,h.mem x];simp only [yE,yB];exact ⟨.inl,λhx=>hx.elim id λe=>by rw [e];exact hkl⟩
end
def ixP {α:Type} (p:α→Bool):List α→Nat→Int
 | [],_=>-1
 | x::l,i=>if p x=true then (i:Int) else ixP p l (i+1)
theorem zo8 {α:Type} (p):∀ (l:List α) (i:Nat),0≤ixP p l i↔l.any p=true
 | [],_=>by simp [ixP]
 | x::l,i=>by
  have ih:=zo8 p l (i+1);rw [ixP,uL];by_cases h:p x=true
  ·rw [if_pos h,h];simp
  ·rw [if_neg h,ih];simp only [yF] at h;rw [h,ue]
theorem zjO {α:Type} (p:α→Bool) (l:List α) (i:Nat):decide (0≤ixP p l i)=l.any p:=by
 have:=zo8 p l i;cases h:l.any p with
 | true=>exact decide_eq_true (this.2 h)
 | false=>exact decide_eq_false λhc=>by rw [this.1 hc] at h;cases h
theorem zia {n l f p} (hf:∀ x∈l,f x=some (p x)) (hl:l.length<4611686018427387904) (hn:l.length<n):z0 n l f=some (ixP p l 0):=by
 have:=zT (body:=z0.l1 n l f) (len:=l.length) (st:=λi=>(i:Int)) (g:=λi=>some (ixP p (l.drop i) i)) (λrec i hi hr=>?_) (λrec=>?_) n 0 (yp _) (by omega)
 ·simpa [z0] using this
 ·simp only [z0.l1,zn hi,if_true,za hi,ya,hf _ (yj hi),zd (i:=i) (by omega),hr];rw [zh hi];simp only [ixP];split <;> rfl
 ·simp [z0.l1,ixP]
theorem zc2 {n:Nat} {l:List Int} {f:Int→Option Bool} {p:Int→Bool} (hf:∀ x∈l,f x=some (p x)) (hl:l.length<4611686018427387904) (hn:l.length<n):zG n l f=some (l.any p):=by
 unfold zG;rw [zia hf hl hn,ya,zjO]
def zbm (x:Int):Bool:=decide (1≤x)&&decide (x≤6)
def colOK (sizes:List Int) (c:Int):Bool:=decide (0≤c)&&decide (c<(sizes.length:Int))
theorem zjA {α:Type} (p:α→Bool) (l:List α):(!l.any λx=>!p x)=l.all p:=by
 induction l with
 | nil=>rfl
 | cons x l ih=>simp only [uL,uw,← ih];cases p x <;> simp
theorem zky {n:Nat} {l:List Int} (hl:l.length<4611686018427387904) (hn:l.length<n):zfC n l=some (l.all zbm):=by
 unfold zfC;rw [zc2 (p:=λx=>!zbm x) (λx _=>by simp [zfD,zdY,zbm]) hl hn,ya,zjA]
theorem zid {n:Nat} {sizes cols:List Int} (hl:cols.length<4611686018427387904) (hn:cols.length<n):zdO n sizes cols=some (decide (cols.length≤3)&&cols.all (colOK sizes)):=by
 unfold zdO;rw [zc2 (p:=λx=>!colOK sizes x) (λx _=>by
  simp only [zcu,colOK,yi,Bool.not_and];congr 1
  ·rw [← decide_not];exact decide_eq_decide.2 (by omega)
  ·rw [← decide_not];exact decide_eq_decide.2 (by omega)) hl hn]
 simp only [yk,yC,grd,if_true,yh,zjA,yi];congr 1;exact decide_eq_decide.2 (by omega)
theorem zg6 {n l} (hl:l.length<4611686018427387904) (hn:l.length<n):za9 n l=some (l.all zbm):=by
 have:=zT (body:=za9.l1 n l) (len:=l.length) (st:=λi=>(i:Int)) (g:=λi=>some ((l.drop i).all zbm)) (λrec i hi hr=>?_) (λrec=>?_) n 0 (yp _) (by omega)
 ·simpa [za9] using this
 ·simp only [za9.l1,zn hi,if_true,za hi,ya,yk,yC,grd,yh,zd (i:=i) (by omega),hr];rw [zh hi];simp only [uw,zbm];by_cases h:1≤l[i]∧l[i]≤6
  ·rw [if_neg (by simp;omega)];simp [h.1,h.2]
  ·rw [if_pos (by simp;omega)];have:(decide (1≤l[i])&&decide (l[i]≤6))=false:=by
    simp only [uf,yM];omega
   rw [this,yU]
 ·simp [za9.l1]
def zac (sizes:List Int):List Int→Int→Int
 | [],s=>s
 | c::l,s=>zac sizes l (mul64 s (sizes.getD c.toNat 0))
theorem zdF (sizes):∀ (l m:List Int) (s:Int),zac sizes (l++m) s=zac sizes m (zac sizes l s)
 | [],_,_=>rfl
 | _::l,m,s=>by simp only [ud,zac];exact zdF sizes l m _
theorem zdu {sizes c} (h:colOK sizes c=true):idx sizes c=some (sizes.getD c.toNat 0):=by
 simp only [colOK,yc,ye] at h;obtain ⟨n,rfl⟩:=yS h.1;have:n<sizes.length:=by omega
 rw [za this];simp [List.getD,this]
theorem ze2 {n sizes cols} (hc:cols.all (colOK sizes)=true) (hl:cols.length<4611686018427387904) (hn:cols.length<n):za6 n sizes cols=some (zac sizes cols 1):=by
 have:=zT (body:=za6.l1 n sizes cols) (len:=cols.length) (st:=λi=>(zac sizes (cols.take i) 1,(i:Int))) (g:=λ_=>some (zac sizes cols 1)) (λrec i hi hr=>?_) (λrec=>?_) n 0 (yp _) (by omega)
 ·simpa [za6,zac] using this
 ·rw [yv hi,zdF] at hr;simp only [zac] at hr;simp only [za6.l1,zn hi,if_true,za hi,ya,zdu (yr.1 hc _ (yj hi)),zd (i:=i) (by omega),hr]
 ·simp [za6.l1]
theorem zm7 {n sizes cols} (hl:cols.length<4611686018427387904) (hn:cols.length<n):loopF (zak.l1 n sizes cols) n (1,0)=some (if cols.all (colOK sizes)=true then zac sizes cols 1 else 0):=by
 by_cases hc:cols.all (colOK sizes)=true
 ·rw [if_pos hc];have:=zT (body:=zak.l1 n sizes cols) (len:=cols.length) (st:=λi=>(zac sizes (cols.take i) 1,(i:Int))) (g:=λ_=>some (zac sizes cols 1)) (λrec i hi hr=>?_) (λrec=>?_) n 0 (yp _) (by omega)
  ·simpa [zac] using this
  ·rw [yv hi,zdF] at hr;simp only [zac] at hr;have hcol:=yr.1 hc _ (yj hi);have h2:=zdu hcol;simp only [colOK,yc,ye] at hcol;have hif:((decide (cols[i]<0))||(decide ((sizes.length:Int)≤cols[i])))=false:=by
    simp only [un,yM];omega
   simp only [zak.l1,zn hi,if_true,za hi,ya,yk,yC,grd,yh,hif,yf,if_false,h2,zd (i:=i) (by omega),hr]
  ·simp [zak.l1]
 ·rw [if_neg hc];have:=zT (body:=zak.l1 n sizes cols) (len:=cols.length) (st:=λi=>(zac sizes (cols.take i) 1,(i:Int))) (g:=λi=>some (if (cols.drop i).all (colOK sizes)=true then zac sizes cols 1 else 0)) (λrec i hi hr=>?_) (λrec=>?_) n 0 (yp _) (by omega)
  ·simpa [zac,hc] using this
  ·rw [yv hi,zdF] at hr;simp only [zac] at hr;rw [zh hi,uw];by_cases hcol:colOK sizes cols[i]=true
   ·have h2:=zdu hcol;rw [hcol,yA];simp only [colOK,yc,ye] at hcol;have hif:((decide (cols[i]<0))||(decide ((sizes.length:Int)≤cols[i])))=false:=by
     simp only [un,yM];omega
    simp only [zak.l1,zn hi,if_true,za hi,ya,yk,yC,grd,yh,hif,yf,if_false,h2,zd (i:=i) (by omega),hr]
   ·have hif:((decide (cols[i]<0))||(decide ((sizes.length:Int)≤cols[i])))=true:=by
     simp only [colOK,yc,ye] at hcol;simp only [yz,ye];omega
    simp only [yF] at hcol;rw [hcol,yU,if_neg (by simp)];simp only [zak.l1,zn hi,if_true,za hi,ya,yk,yC,grd,yh,hif]
  ·simp [zak.l1]
theorem zez {n sizes cols} (hl:cols.length<4611686018427387904) (hn:cols.length<n) (hs:sizes.length<4611686018427387904) (hsn:sizes.length<n) :
  zak n sizes cols=some (if (decide (cols.length≤3)&&sizes.all zbm&&cols.all (colOK sizes))=true then zac sizes cols 1 else 0):=by
 unfold zak;rw [zg6 hs hsn,zm7 hl hn];simp only [yk,yC,grd,if_true,yh];by_cases h3:cols.length≤3
 ·cases h4:sizes.all zbm with
  | true=>rw [if_neg (by simp;omega)];simp [h3]
  | false=>rw [if_pos (by simp)];simp
 ·rw [if_pos (by simp;left;omega)];simp [h3]
theorem zet {S R:Type} {body:(S→Option R)→S→Option R} (μ:S→Nat) (I:S→Prop) (Q:S→Option R→Prop)
  (hb:∀ rec s,I s→(∀ s',I s'→μ s'<μ s→Q s' (rec s'))→Q s (body rec s)):∀ n s,I s→μ s<n→Q s (loopF body n s)
 | 0,_,_,h=>by omega
 | n+1,s,hI,h=>hb _ s hI λs' hI' hlt=>zet μ I Q hb n s' hI' (by omega)
theorem zbi {σ S R:Type} {body:(S→Option R)→S→Option R} {len:Nat} {st:σ→Nat→S} {g:Nat→σ→Option R} (I:Nat→σ→Prop)
  (hb:∀ rec i s,i<len→I i s→(∀ s',I (i+1) s'→rec (st s' (i+1))=g (i+1) s')→body rec (st s i)=g i s) (he:∀ rec s,I len s→body rec (st s len)=g len s) :
  ∀ n i s,i≤len→len - i<n→I i s→loopF body n (st s i)=g i s
 | 0,_,_,_,h,_=>by omega
 | n+1,i,s,hi,h,hI=>by
  simp only [loopF];by_cases e:i=len
  ·subst e;exact he _ _ hI
  ·exact hb _ i s (by omega) hI λs' hI'=>zbi I hb he n (i+1) s' (by omega) (by omega) hI'
theorem zhi {S R:Type} {body:(S→Option R)→S→Option R} {n:Nat} (h:0<n) (s:S):loopF body n s=body (loopF body (n - 1)) s:=by
 obtain ⟨m,rfl⟩:∃ m,n=m+1:=⟨n - 1,by omega⟩
 rfl
theorem zdX {a b:Nat} (h:a+b<9223372036854775808):add64 (a:Int) (b:Int)=((a+b:Nat):Int):=by
 unfold add64;rw [zed (by omega) (by omega)];omega
theorem zde {l:List UInt8} {i} (h:i<l.length):sidx l (i:Int)=some ((l[i].toNat:Nat):Int):=by
 unfold sidx;rw [if_pos (by omega)];simp [h]
theorem ze3 {α:Type} {l:List α} {a b:Nat} (h1:a≤b) (h2:b≤l.length):cut l (a:Int) (b:Int)=some ((l.drop a).take (b - a)):=by
 unfold cut;rw [if_pos (by omega)];simp
theorem zig {α:Type} {l:List α} {a:Nat} (h1:a≤l.length):cut l (a:Int) (l.length:Int)=some (l.drop a):=by
 rw [ze3 h1 (yn _),List.take_of_length_le (by simp)]
theorem zqL {α:Type} {l:List α}:cut l 0 (l.length:Int)=some l:=by
 have:=zig (l:=l) (a:=0) (by omega);simpa using this
theorem zgo {i k:Nat} (h:i<k):decide ((i:Int)<(k:Int))=true:=by simp;omega
theorem zeP {i k:Nat} (h:k≤i):decide ((i:Int)<(k:Int))=false:=by simp;omega
def runP (p:Int→Bool):List UInt8→Nat
 | []=>0
 | b::l=>if p (b.toNat:Nat)=true then runP p l+1 else 0
theorem zkk (p):∀ l,runP p l≤l.length
 | []=>yn _
 | b::l=>by
  simp only [runP,yQ];split
  ·exact Nat.succ_le_succ (zkk p l)
  ·omega
theorem zgk {n} {l:List UInt8} {f p} (hf:∀ q,f q=some (p q)) (hl:l.length<4611686018427387904) (hn:l.length<n):zcI n l f=some ((runP p l:Nat):Int):=by
 have:=zT (body:=zcI.l1 n l f) (len:=l.length) (st:=λi=>(i:Int)) (g:=λi=>some ((i+runP p (l.drop i):Nat):Int)) (λrec i hi hr=>?_) (λrec=>?_) n 0 (yp _) (by omega)
 ·simpa [zcI] using this
 ·simp only [zcI.l1,zn hi,zde hi,yk,yW,ue,grd,if_true,yh,hf,yA,zd (i:=i) (by omega),hr];rw [zh hi];simp only [runP];split <;> simp <;> omega
 ·simp [zcI.l1,runP,grd]
def zbT (q:Int):Bool:=decide (97≤q)&&decide (q≤122)
def ziS (q:Int):Bool:=decide (48≤q)&&decide (q≤57)
def partP (q:Int):Bool:=(zbT q||ziS q)||(q==95)
theorem zjW {n q}:zcH n q=some (zbT q):=rfl
theorem zkC {n q}:zbo n q=some (ziS q):=rfl
theorem zfS {n q}:zaO n q=some (zbT q):=rfl
theorem zeV {n q}:za0 n q=some (ziS q):=rfl
def zds (q:Int):Bool:=!(q==9||q==10||q==13||q==32||q==35)
theorem zdZ {q} (h:zbT q=true):zds q=true:=by
 simp only [zbT,yc,ye] at h;simp only [zds,yG,un,ug];omega
theorem zlK {n:Nat} {l:List UInt8} (hl:l.length<1000000) (hn:1000000≤n) :
  ∃ k:Nat,zcP n l=some (k:Int)∧k≤l.length∧(∀ h:0<l.length,zds (l[0].toNat:Nat)=true→k=0)∧(∀ h:0<l.length,zds (l[0].toNat:Nat)=false→0<k):=by
 have:=zet (body:=zcP.l1 n l) (λs:Int=>l.length - s.toNat) (λs=>∃ i:Nat,s=i∧i≤l.length) (λs o=>∃ k:Nat,o=some (k:Int)∧k≤l.length∧s.toNat≤k∧∀ h:s.toNat<l.length,(zds (l[s.toNat].toNat:Nat)=true→k=s.toNat)∧(zds (l[s.toNat].toNat:Nat)=false→s.toNat<k))
  (λrec s hI hr=>by
   obtain ⟨i,rfl,hi⟩:=hI;by_cases hlt:i<l.length
   ·simp only [zcP.l1,zn hlt,if_true,zde hlt,ya,zb5,yx];by_cases hw:((((((l[i].toNat:Nat):Int)==32)||(((l[i].toNat:Nat):Int)==9))||(((l[i].toNat:Nat):Int)==10))||(((l[i].toNat:Nat):Int)==13))=true
    ·rw [if_pos hw,zd (i:=i) (by omega)];obtain ⟨k,e,k1,k2,-⟩:=hr ((i+1:Nat):Int) ⟨i+1,rfl,by omega⟩ (by simp only [yx];omega);simp only [yx] at k2;refine ⟨k,e,k1,by omega,λh=>⟨λhb=>?_,λhb=>by omega⟩⟩;exfalso;simp only [yz,beq_iff_eq] at hw;simp only [zds,yG,un,ug] at hb;omega
    ·rw [if_neg hw];by_cases hh:((l[i].toNat:Nat):Int)=35
     ·rw [if_pos (by simp [hh]),zig hi,ya,zgk (f:=λq=>zgm n q) (p:=λq=>q != 10) (λq=>rfl) (by rw [yZ];omega) (by rw [yZ];omega),ya];have hrun:1≤runP (λq=>q != 10) (l.drop i):=by
       rw [zh hlt,runP,hh];simp
      have hle:=zkk (λq=>q != 10) (l.drop i);simp only [yZ] at hle;rw [zdX (by omega)];obtain ⟨k,e,k1,k2,-⟩:=hr ((i+runP (λq=>q != 10) (l.drop i):Nat):Int) ⟨_,rfl,by omega⟩ (by simp only [yx];omega);simp only [yx] at k2;refine ⟨k,e,k1,by omega,λh=>⟨λhb=>?_,λhb=>by omega⟩⟩;rw [hh] at hb;exact absurd hb (by decide)
     ·rw [if_neg (by simpa using hh)];refine ⟨i,rfl,hi,yn _,λh=>⟨λ_=>rfl,λhb=>?_⟩⟩;exfalso;simp only [yz,beq_iff_eq,not_or] at hw;simp only [zds,Bool.not_eq_false',yz,beq_iff_eq] at hb;omega
   ·have:i=l.length:=by omega
    subst this;refine ⟨l.length,by simp [zcP.l1],yn _,by simp,λh=>by simp at h⟩) n 0 ⟨0,rfl,by omega⟩ (by simp;omega)
 obtain ⟨k,e,k1,-,k2⟩:=this;exact ⟨k,by simpa [zcP] using e,k1,λh hb=>(k2 h).1 hb,λh hb=>(k2 h).2 hb⟩
theorem zgn {n:Nat} {l:List UInt8} (hn:1000000≤n):∃ k:Int,zbg n l=some k:=by
 have:=zet (body:=zbg.l1 n l) (λs:Int=>5 - s.toNat) (λs=>∃ i:Nat,s=i∧i≤5) (λ_ o=>∃ k:Int,o=some k) (λrec s hI hr=>by
  obtain ⟨i,rfl,hi⟩:=hI;simp only [zbg.l1];generalize hL:([[61,61],[33,61],[60,61],[62,61],[46,46]]:List (List UInt8))=L;have hLl:L.length=5:=by rw [← hL];rfl
  by_cases hlt:i<L.length
  ·have hp:∃ b,zcV n l L[i]=some b:=by
    simp only [zcV,zbt];by_cases h:L[i].length≤l.length
    ·have:cut l 0 (L[i].length:Int)=some ((l.drop 0).take (L[i].length - 0)):=ze3 (a:=0) (by omega) (by omega)
     simp [this,grd]
    ·simp [h,grd]
   obtain ⟨b,hp⟩:=hp;have hd:decide ((i:Int)<(([[61,61],[33,61],[60,61],[62,61],[46,46]]:List (List Nat)).length:Int))=true:=by simp;omega
   simp only [hd,if_true,za hlt,ya,hp,zd (i:=i) (by omega)];split
   ·exact ⟨_,rfl⟩
   ·exact hr _ ⟨i+1,rfl,by omega⟩ (by simp only [yx];omega)
  ·have hd:decide ((i:Int)<(([[61,61],[33,61],[60,61],[62,61],[46,46]]:List (List Nat)).length:Int))=false:=by simp;omega
   rw [hd,if_neg (by simp)];cases l with
   | nil=>simp [grd]
   | cons b l=>
    have h0:sidx (b::l) 0=some ((b.toNat:Nat):Int):=zde (l:=b::l) (i:=0) (by simp)
    simp only [h0,zch,zbu,ya,yk,yC,grd,if_true,yh];split <;> exact ⟨_,rfl⟩) n 0 ⟨0,rfl,by omega⟩ (by simp;omega)
 simpa [zbg] using this
theorem zjV {n} {l:List UInt8} (hn:1000000≤n) (h:0<l.length):∃ b,zdm n l=some b:=by
 obtain ⟨k,hk⟩:=zgn (n:=n) (l:=l) hn;have h0:sidx l 0=some ((l[0].toNat:Nat):Int):=zde (i:=0) h;simp [zdm,h0,zcH,zbo,hk,grd]
theorem zkD {n:Nat} {l:List UInt8} {k:(Int×Int)→Option Token} (hl:l.length<1000000) (hn:1000000≤n) (h1:0<l.length):∃ e,loopF (zaC.l2 n l k) n 1=k (5,e):=by
 refine zet (body:=zaC.l2 n l k) (λs:Int=>l.length - s.toNat) (λs=>∃ i:Nat,s=i∧i≤l.length) (λ_ o=>∃ e,o=k (5,e)) (λrec s hI hr=>?_) n 1 ⟨1,rfl,h1⟩ (by simp;omega);obtain ⟨i,rfl,hi⟩:=hI;by_cases hlt:i<l.length
 ·obtain ⟨b,hb⟩:=zjV (n:=n) (l:=l.drop i) hn (by simp;omega);simp only [zaC.l2,zn hlt,zde hlt,zb5,zig hi,hb,yk,yC,grd,if_true,yh,zd (i:=i) (by omega)];split
  ·exact hr _ ⟨i+1,rfl,by omega⟩ (by simp only [yx];omega)
  ·exact ⟨_,rfl⟩
 ·have:i=l.length:=by omega
  subst this;exact ⟨(l.length:Int),by simp [zaC.l2,grd]⟩
def wordP (w:List UInt8):Bool:=(match w with | []=>false | b::_=>zbT (b.toNat:Nat))&&decide (runP partP w=w.length)
theorem ziD (w:List UInt8) (h:0<w.length):wordP w=(zbT (w[0].toNat:Nat)&&decide (runP partP w=w.length)):=by
 cases w with
 | nil=>simp at h
 | cons b l=>rfl
theorem zm4 {n:Nat} {w:List UInt8} {kw:GMap (List UInt8) Bool} (hl:w.length<1000000) (hn:1000000≤n) (h0:0<w.length) :
  ∃ t,zaC n w kw=some t∧(t.at_=0∧t.end_=(w.length:Int)∧t.kind=1↔wordP w=true∧(kw.get? w).getD false=false):=by
 obtain ⟨k,e,k1,k2,k3⟩:=zlK (n:=n) (l:=w) hl hn;unfold zaC;rw [zhi (by omega)];have hz:add64 0 (k:Int)=(k:Int):=by have:=zdX (a:=0) (b:=k) (by omega);simpa using this
 simp only [zaC.l1,zqL,ya,e,hz,zig k1,jn];by_cases hk:k=w.length
 ·subst hk;rw [if_pos (by simp)];refine ⟨_,rfl,?_⟩;simp only [];constructor
  ·rintro ⟨-,-,h⟩;simp at h
  ·rintro ⟨h,-⟩;exfalso;rw [ziD w h0,yc] at h;have:=k2 h0 (zdZ h.1);omega
 ·have hd:0<(w.drop k).length:=by simp;omega
  rw [if_neg (by simp;omega)];have hs:sidx (w.drop k) 0=some (((w.drop k)[0].toNat:Nat):Int):=zde (i:=0) hd;simp only [hs,ya,zjW];rw [ziD w h0];by_cases hlet:zbT (((w.drop k)[0].toNat:Nat):Int)=true
  ·rw [if_pos hlet,zgk (p:=partP) (λq=>by simp [zim,zcH,zbo,grd,partP,zbT,ziS]) (by simp;omega) (by simp;omega)];have hle:=zkk partP (w.drop k);have hc:=ze3 (l:=w.drop k) (a:=0) (b:=runP partP (w.drop k)) (by omega) hle;simp only [ya,Int.natCast_zero] at hc ⊢;rw [hc];simp only [yZ] at hle;have ha:add64 (k:Int) (runP partP (w.drop k):Nat)=((k+runP partP (w.drop k):Nat):Int):=zdX (by omega)
   simp only [ya,ha,List.drop_zero,Nat.sub_zero];by_cases hk0:k=0
   ·subst hk0;simp only [List.drop_zero] at hlet ⊢;by_cases hrun:runP partP w=w.length
    ·rw [hrun,List.take_of_length_le (yn _)];by_cases hkw:(kw.get? w).getD false=true
     ·rw [if_pos hkw];refine ⟨_,rfl,?_⟩;simp [hkw]
     ·rw [if_neg hkw];refine ⟨_,rfl,?_⟩;simp only [yF] at hkw;simp [hkw,hlet]
    ·split
     all_goals
      refine ⟨_,rfl,?_⟩;simp [hrun]
      try omega
   ·have hbl:zds (w[0].toNat:Nat)=false:=by
     cases hb:zds (w[0].toNat:Nat) with
     | false=>rfl
     | true=>exact absurd (k2 h0 hb) hk0
    have hnl:zbT (w[0].toNat:Nat)=false:=by
     cases hb:zbT (w[0].toNat:Nat) with
     | false=>rfl
     | true=>rw [zdZ hb] at hbl;cases hbl
    split
    all_goals
     refine ⟨_,rfl,?_⟩;simp [hnl,hk0]
  ·rw [if_neg hlet];have hno:k=0→zbT (w[0].toNat:Nat)=false:=by
    intro hk0;subst hk0;simp only [List.drop_zero,yF] at hlet;exact hlet
   have hno':zbT (w[0].toNat:Nat)=false:=by
    by_cases hk0:k=0
    ·exact hno hk0
    ·cases hb:zbT (w[0].toNat:Nat) with
     | false=>rfl
     | true=>exact absurd (k2 h0 (zdZ hb)) hk0
   simp only [zkC,ya,hno',yU,yf,false_and,iff_false];split
   ·rw [zgk (p:=ziS) (λq=>rfl) (by simp;omega) (by simp;omega)];exact ⟨_,rfl,by simp⟩
   ·obtain ⟨v,hv⟩:=zgn (n:=n) (l:=w.drop k) hn;simp only [hv,ya];split
    ·exact ⟨_,rfl,by simp⟩
    ·obtain ⟨e,he⟩:=zkD (n:=n) (l:=w.drop k) (k:=λv=>some (⟨v.1,0,(k:Int),add64 (k:Int) v.2⟩:Token)) (by simp;omega) hn hd;rw [he];exact ⟨_,rfl,by simp⟩
def kwL:List (List UInt8):=[[115,111,114,116],[114,101,108,97,116,105,111,110],[99,111,117,110,116,101,114],[115,101,116],[114,101,103,105,115,116,101,114],[105,110,118,97,114,105,97,110,116],[111,112,101,114,97,116,105,111,110],[107,101,121],[114,101,102,101,114,101,110,99,101],[116,111],[99,111,117,110,116],[97,99,121,99,108,105,99],[97,108,108],[115,117,109],[105,110],[97,100,100,119,105,110,115],[114,101,109,111,118,101,119,105,110,115],[108,97,115,116],[109,117,108,116,105],[104,105,100,101],[111,114,100,101,114,101,100],[114,101,113,117,105,114,101],[104,111,108,100],[105,110,115,101,114,116],[100,101,108,101,116,101],[97,100,100],[102,114,111,109],[112,117,116],[100,114,111,112],[97,115,115,105,103,110],[102,111,114],[119,104,101,114,101],[97,110,100],[111,114],[110,111,116]]
structure Fuel (n:Nat):Prop where
 big:4294967296≤n
 kw:∃ m,zbH n=some m∧SetIs m kwL
def nameP (w:List UInt8):Bool:=decide (w.length≤16)&&(wordP w&&!decide (w∈kwL))
theorem zhB {n} {w:List UInt8} (hF:Fuel n):zfl n w=some (nameP w):=by
 have hn:=hF.big;unfold zfl nameP;by_cases h16:w.length≤16
 ·have hd:decide ((w.length:Int)≤16)=true:=by simp;omega
  simp only [hd,h16,decide_true,yA,yW,ue];unfold zen;obtain ⟨m,hm,hs⟩:=hF.kw;cases hw:w with
  | nil=>simp [grd,wordP]
  | cons b l=>
   rw [← hw];have h0:0<w.length:=by rw [hw];simp
   rw [if_neg (by simp;exact ⟨by rw [hw];simp,by omega⟩),hm,ya];obtain ⟨t,ht,hiff⟩:=zm4 (n:=n) (w:=w) (kw:=m) (by omega) (by omega) h0;rw [hs.get] at hiff;simp only [ht,ya];by_cases hc:t.at_=0∧t.end_=(w.length:Int)∧t.kind=1
   ·have:=hiff.1 hc;rw [if_neg (by simp [hc.1,hc.2.1])];simp only [yM] at this;simp [grd,hc.2.2,this.1,this.2]
   ·have hr:(wordP w&&!decide (w∈kwL))=false:=by
     cases hx:(wordP w&&!decide (w∈kwL)) with
     | false=>rfl
     | true=>
      simp only [yc,yG,yM] at hx;exact absurd (hiff.2 ⟨hx.1,by simp [hx.2]⟩) hc
    rw [hr];split
    ·simp [grd]
    ·rename_i hne;simp only [yz,bne_iff_ne,ne_eq,not_or,Decidable.not_not] at hne;have:t.kind≠1:=λe=>hc ⟨hne.1,hne.2,e⟩
     simp [grd,this]
 ·have hd:decide ((w.length:Int)≤16)=false:=by simp;omega
  simp [hd,h16,grd]
theorem zm9 {n} {t:List UInt8} {rec x} (hx:x≤t.length) (hl:t.length<1000000) (hn:1000000≤n) :
  ∃ y:Nat,x≤y∧y≤t.length∧loopF (zbe.l2 n t rec) n x=rec (y:Int)∧∀ h:x<t.length,(t[x].toNat:Nat)=35→x<y:=by
 have:=zet (body:=zbe.l2 n t rec) (λs:Int=>t.length - s.toNat) (λs=>∃ i:Nat,s=i∧i≤t.length) (λs o=>∃ y:Nat,s.toNat≤y∧y≤t.length∧o=rec (y:Int)∧∀ h:s.toNat<t.length,(t[s.toNat].toNat:Nat)=35→s.toNat<y) (λr s hI hr=>by
  obtain ⟨i,rfl,hi⟩:=hI;by_cases hlt:i<t.length
  ·simp only [zbe.l2,zn hlt,zde hlt,yk,yC,grd,if_true,yh,yA,zd (i:=i) (by omega),yx];by_cases h10:((((t[i].toNat:Nat):Int) != 10))=true
   ·rw [if_pos h10];obtain ⟨y,y1,y2,y3,-⟩:=hr ((i+1:Nat):Int) ⟨_,rfl,by omega⟩ (by simp only [yx];omega);simp only [yx] at y1;exact ⟨y,by omega,y2,y3,λ_ _=>by omega⟩
   ·rw [if_neg h10];refine ⟨i,yn _,hi,rfl,λ_ h=>?_⟩;rw [h] at h10;exact absurd h10 (by decide)
  ·have:i=t.length:=by omega
   subst this;exact ⟨t.length,by simp,yn _,by simp [zbe.l2,grd],λh=>by simp at h⟩) n x ⟨x,rfl,hx⟩ (by simp;omega)
 simpa using this
theorem zho {n} {t:List UInt8} {a} (ha:a≤t.length) (hl:t.length<1000000) (hn:1000000≤n) :
  ∃ k:Nat,zbe n t a=some (k:Int)∧a≤k∧k≤t.length∧(∀ h:k<t.length,zds (t[k].toNat:Nat)=true)∧(∀ h:a<t.length,zds (t[a].toNat:Nat)=true→k=a):=by
 have:=zet (body:=zbe.l1 n t) (λs:Int=>t.length - s.toNat) (λs=>∃ i:Nat,s=i∧i≤t.length)
  (λs o=>∃ k:Nat,o=some (k:Int)∧s.toNat≤k∧k≤t.length∧(∀ h:k<t.length,zds (t[k].toNat:Nat)=true)∧(∀ h:s.toNat<t.length,zds (t[s.toNat].toNat:Nat)=true→k=s.toNat)) (λr s hI hr=>by
  obtain ⟨i,rfl,hi⟩:=hI;by_cases hlt:i<t.length
  ·simp only [zbe.l1,zn hlt,zde hlt,zaU,yk,yC,grd,if_true,yh,yA,ya,zd (i:=i) (by omega),yx];by_cases hb:zds (t[i].toNat:Nat)=true
   ·rw [if_neg (by
     simp only [zds,yG,un,ug] at hb;simp only [yz,beq_iff_eq];omega)]
    exact ⟨i,rfl,yn _,hi,λ_=>hb,λ_ _=>rfl⟩
   ·rw [if_pos (by
     simp only [zds,yG,un,ug] at hb;simp only [yz,beq_iff_eq];omega)]
    by_cases hh:(t[i].toNat:Nat)=35
    ·rw [if_pos (by simp [hh])];obtain ⟨y,y1,y2,y3,y4⟩:=zm9 (n:=n) (rec:=r) hi hl hn;have y5:=y4 hlt hh;rw [y3];obtain ⟨k,e,k1,k2,k3,-⟩:=hr (y:Int) ⟨y,rfl,y2⟩ (by simp only [yx];omega);simp only [yx] at k1;exact ⟨k,e,by omega,k2,k3,λ_ h=>absurd h hb⟩
    ·rw [if_neg (by simp;omega)];obtain ⟨k,e,k1,k2,k3,-⟩:=hr ((i+1:Nat):Int) ⟨_,rfl,by omega⟩ (by simp only [yx];omega);simp only [yx] at k1;exact ⟨k,e,by omega,k2,k3,λ_ h=>absurd h hb⟩
  ·have:i=t.length:=by omega
   subst this;exact ⟨t.length,by simp [zbe.l1,grd],by simp,yn _,λh=>absurd h (by omega),λh=>by simp at h⟩) n a ⟨a,rfl,ha⟩ (by simp;omega)
 simpa [zbe] using this
theorem zhR {n} {t:List UInt8} {a} (ha:a≤t.length) (hl:t.length<1000000) (hn:1000000≤n):∃ v:Nat,zbh n t a=some (v:Int)∧a+v≤t.length:=by
 unfold zbh;simp only [zfO,ya];generalize hL:([[61,61],[33,61],[60,61],[62,61],[46,46],[60],[62],[61],[43],[45],[42],[40],[41],[123],[125],[44],[58],[59]]:List (List UInt8))=L;have hLl:L.length=18:=by rw [← hL];rfl
 have hL2:∀ x∈L,x.length≤2:=by rw [← hL];decide
 refine zet (body:=zbh.l1 n t a L) (λs:Int=>18 - s.toNat) (λs=>∃ i:Nat,s=i∧i≤18) (λs o=>∃ v:Nat,o=some (v:Int)∧a+v≤t.length) (λr s hI hr=>?_) n 0 ⟨0,rfl,by omega⟩ (by simp;omega);obtain ⟨i,rfl,hi⟩:=hI;by_cases hlt:i<L.length
 ·have h2:=hL2 _ (yj hlt);simp only [zbh.l1,zn hlt,if_true,za hlt,ya,yk,yh,yC,zd (i:=i) (by omega),zdX (show a+L[i].length<9223372036854775808 by omega)];by_cases hle:a+L[i].length≤t.length
  ·simp only [ze3 (l:=t) (a:=a) (b:=a+L[i].length) (by omega) hle,yk,yC,grd,if_true];split
   ·exact ⟨_,rfl,hle⟩
   ·exact hr _ ⟨i+1,rfl,by omega⟩ (by simp only [yx];omega)
  ·have hd:decide (((a+L[i].length:Nat):Int)≤(t.length:Int))=false:=by simp;omega
   simp only [hd,ui,uO,grd,if_true,yU,yf,if_false];exact hr _ ⟨i+1,rfl,by omega⟩ (by simp only [yx];omega)
 ·have:i=L.length:=by omega
  subst this;exact ⟨0,by simp [zbh.l1],by omega⟩
theorem zis {n} {L:List (List UInt8)} {w:List UInt8} (hl:L.length<1000000) (hn:1000000≤n):zcv n L w=some (decide (w∈L)):=by
 have:=zT (body:=zcv.l1 n L w) (len:=L.length) (st:=λi=>(i:Int)) (g:=λi=>some (decide (w∈L.drop i))) (λrec i hi hr=>?_) (λrec=>?_) n 0 (yp _) (by omega)
 ·simpa [zcv] using this
 ·simp only [zcv.l1,zn hi,if_true,za hi,ya,zd (i:=i) (by omega),hr];rw [zh hi];by_cases h:L[i]=w
  ·rw [if_pos (by simpa using h)];simp only [yD,h,true_or,decide_true]
  ·have h':¬ w=L[i]:=λe=>h e.symm
   rw [if_neg (by simpa using h)];simp only [yD,h',false_or]
 ·simp [zcv.l1]
theorem zgA {n}:ze7 n=some kwL:=rfl
theorem zi2 {n} {t:List UInt8} {a} (ha:a<t.length) (hb:zds (t[a].toNat:Nat)=true) (hl:t.length<1000000) (hn:1000000≤n) :
  ∃ (k:Int) (e:Nat),zay n t a=some (k,(e:Int))∧a<e∧e≤t.length∧(zbT (t[a].toNat:Nat)=true→e=a+runP partP (t.drop a))∧(k=1↔zbT (t[a].toNat:Nat)=true∧(t.drop a).take (e - a)∉kwL):=by
 unfold zay;simp only [zde ha,ya,zfS,zeV];by_cases hlet:zbT ((t[a].toNat:Nat):Int)=true
 ·rw [if_pos hlet];have hlp:zbT (t[a].toNat:Nat)=true:=hlet;have hrun1:1≤runP partP (t.drop a):=by
   rw [zh ha,runP,if_pos (by simp [partP,hlp])];omega
  have hle:=zkk partP (t.drop a);simp only [yZ] at hle;have:=zbi (body:=zay.l1 n t a) (len:=t.length) (st:=λ(_:Unit) i=>(i:Int)) (g:=λi _=>some (if decide ((t.drop a).take (i+runP partP (t.drop i) - a)∈kwL)=true then (2,((i+runP partP (t.drop i):Nat):Int)) else (1,((i+runP partP (t.drop i):Nat):Int)))) (λi _=>a≤i) (λrec i _ hi hai hr=>?_) (λrec _ hai=>?_) n a () (by omega) (by omega) (yn _)
  ·rw [this];refine ⟨if decide ((t.drop a).take (a+runP partP (t.drop a) - a)∈kwL)=true then 2 else 1,a+runP partP (t.drop a),?_,by omega,by omega,λ_=>rfl,?_⟩
   ·split <;> rfl
   ·rw [hlp];by_cases hk:(t.drop a).take (a+runP partP (t.drop a) - a)∈kwL
    ·simp [hk]
    ·simp [hk]
  ·have hr:=hr () (by omega);have hle':=zkk partP (t.drop i);simp only [yZ] at hle';simp only [zay.l1,zn hi,zde hi,zfS,zeV,yk,yC,grd,if_true,yh,yA,zd (i:=i) (by omega),hr];rw [zh hi,runP];have hpe:(zbT ((t[i].toNat:Nat):Int)||ziS ((t[i].toNat:Nat):Int)||((t[i].toNat:Nat):Int)==95)=partP ((t[i].toNat:Nat):Int):=rfl;rw [hpe];by_cases hp:partP (t[i].toNat:Nat)=true
   ·rw [if_pos hp,if_pos hp,show i+(runP partP (t.drop (i+1))+1)=i+1+runP partP (t.drop (i+1)) by omega]
   ·rw [if_neg hp,if_neg hp];simp only [ul,zgA,ya,ze3 hai (Nat.le_of_lt hi)];rw [zis (by decide) hn,ya];cases decide ((t.drop a).take (i - a)∈kwL) <;> rfl
  ·simp only [zay.l1,zaq,ui,uO,grd,if_true,yU,yf,if_false,zgA,ya,ze3 hai (yn _)];rw [zis (by decide) hn,ya];simp only [List.drop_length,runP,ul];cases decide ((t.drop a).take (t.length - a)∈kwL) <;> rfl
 ·rw [if_neg hlet];have hlp:zbT (t[a].toNat:Nat)=false:=by simpa using hlet
  simp only [hlp,yf,false_implies,false_and,iff_false,true_and];by_cases hdig:ziS ((t[a].toNat:Nat):Int)=true
  ·rw [if_pos hdig];have:=zet (body:=zay.l2 n t) (λs:Int=>t.length - s.toNat) (λs=>∃ i:Nat,s=i∧i≤t.length) (λs o=>∃ e:Nat,o=some (3,(e:Int))∧s.toNat≤e∧e≤t.length∧∀ h:s.toNat<t.length,ziS (t[s.toNat].toNat:Nat)=true→s.toNat<e) (λr s hI hr=>by
    obtain ⟨i,rfl,hi⟩:=hI;by_cases hlt:i<t.length
    ·simp only [zay.l2,zn hlt,zde hlt,zeV,yk,yC,grd,if_true,yh,yA,zd (i:=i) (by omega),yx];split
     ·obtain ⟨e,e1,e2,e3,-⟩:=hr ((i+1:Nat):Int) ⟨_,rfl,by omega⟩ (by simp only [yx];omega);simp only [yx] at e2;exact ⟨e,e1,by omega,e3,λ_ _=>by omega⟩
     ·rename_i hno;exact ⟨i,rfl,yn _,hi,λ_ h=>absurd h hno⟩
    ·have:i=t.length:=by omega
     subst this;exact ⟨t.length,by simp [zay.l2,grd],by simp,yn _,λh=>by simp at h⟩) n a ⟨a,rfl,Nat.le_of_lt ha⟩ (by simp;omega)
   obtain ⟨e,e1,-,e3,e4⟩:=this;exact ⟨3,e,e1,e4 ha hdig,e3,by decide⟩
  ·rw [if_neg hdig];obtain ⟨v,hv,hv2⟩:=zhR (n:=n) (t:=t) (a:=a) (Nat.le_of_lt ha) hl hn;rw [hv,ya];by_cases hv0:0<v
   ·rw [if_pos (by simpa using hv0),zdX (by omega)];exact ⟨4,a+v,rfl,by omega,hv2,by decide⟩
   ·have hv0:v=0:=by omega
    subst hv0;rw [if_neg (by simp)];have:=zet (body:=zay.l3 n t) (λs:Int=>t.length - s.toNat) (λs=>∃ i:Nat,s=i∧i≤t.length) (λs o=>∃ e:Nat,o=some (5,(e:Int))∧s.toNat≤e∧e≤t.length∧(s=a→a<e)) (λr s hI hr=>by
     obtain ⟨i,rfl,hi⟩:=hI;by_cases hlt:i<t.length
     ·obtain ⟨u,hu,-⟩:=zhR (n:=n) (t:=t) (a:=i) hi hl hn;simp only [zay.l3,zn hlt,zde hlt,zaU,zfS,zeV,hu,yk,yC,grd,if_true,yh,yA,zd (i:=i) (by omega),yx];split
      ·obtain ⟨e,e1,e2,e3,-⟩:=hr ((i+1:Nat):Int) ⟨_,rfl,by omega⟩ (by simp only [yx];omega);simp only [yx] at e2;exact ⟨e,e1,by omega,e3,λh=>by omega⟩
      ·rename_i hno;refine ⟨i,rfl,yn _,hi,λh=>?_⟩;have hia:i=a:=by omega
       subst hia;exfalso;apply hno;rw [hv] at hu;simp only [yi,Int.natCast_inj] at hu;subst hu;simp only [zds,yG,un,ug] at hb;simp only [yc,bne_iff_ne,ne_eq,yG,un,ug];simp only [yF] at hlet hdig;exact ⟨⟨⟨⟨by omega,by omega⟩,hlet⟩,hdig⟩,by simp⟩
     ·have:i=t.length:=by omega
      subst this;exact ⟨t.length,by simp [zay.l3,grd],by simp,yn _,λh=>by omega⟩) n a ⟨a,rfl,Nat.le_of_lt ha⟩ (by simp;omega)
    obtain ⟨e,e1,-,e3,e4⟩:=this;exact ⟨5,e,e1,e4 rfl,e3,by decide⟩
theorem zam {α:Type} {b:Nat} {xs ys:List α} (h:(xs.length+ys.length)*b≤140737488355328):Go.Proofs.YtehefbidnkfciaaGreatDoor.app b xs ys=some (xs++ys):=by
 unfold Go.Proofs.YtehefbidnkfciaaGreatDoor.app;rw [if_pos h]
theorem zkj {n:Nat} {t:List UInt8} (hl:t.length<1000000) (hn:1000000≤n):∀ (m:Nat) (b:List Token) (a:Nat),a≤t.length→b.length≤a→t.length - a<m→∃ r,r≠[]∧loopF (zcQ.l1 n t) m (b,(a:Int))=some (b++r,0)
 | 0,_,_,_,_,h=>by omega
 | m+1,b,a,ha,hb,h=>by
  obtain ⟨k,e,k1,k2,k3,-⟩:=zho (n:=n) ha hl hn;simp only [loopF,zcQ.l1,e,ya];by_cases hlt:k<t.length
  ·obtain ⟨q,z,hz,z1,z2,-,-⟩:=zi2 (n:=n) hlt (k3 hlt) hl hn;simp only [zn hlt,if_true,hz,ya];rw [zam (by simp;omega),ya];obtain ⟨r,-,hr⟩:=zkj hl hn m (b++[(⟨q,(a:Int),(k:Int),(z:Int)⟩:Token)]) z z2 (by simp;omega) (by omega);rw [hr];exact ⟨_::r,by simp,by rw [yT];rfl⟩
  ·rw [zeP (by omega),if_neg (by simp),zam (by simp;omega),ya];exact ⟨_,by simp,rfl⟩
theorem zm8 {n:Nat} {w:List UInt8} (hl:w.length≤4096) (hn:1000000≤n):∃ k,zgN n w=some k∧(k=1↔wordP w=true∧w∉kwL):=by
 unfold zgN zcQ;rw [if_neg (by simp;omega),zhi (by omega)];obtain ⟨k,e,-,k2,k3,k4⟩:=zho (n:=n) (t:=w) (a:=0) (by omega) (by omega) hn;simp only [Int.natCast_zero] at e;simp only [zcQ.l1,e,ya];by_cases hlt:k<w.length
 ·obtain ⟨q,z,hz,z1,z2,z3,z4⟩:=zi2 (n:=n) hlt (k3 hlt) (by omega) hn;simp only [zn hlt,if_true,hz,ya,y9];rw [zam (by simp),ya];obtain ⟨r,r0,hr⟩:=zkj (n:=n) (t:=w) (by omega) hn (n - 1) [(⟨q,0,(k:Int),(z:Int)⟩:Token)] z z2 (by simp;omega) (by omega);simp only [y9];rw [hr];have h0:idx ([(⟨q,0,(k:Int),(z:Int)⟩:Token)]++r) 0=some ⟨q,0,(k:Int),(z:Int)⟩:=by simp [idx]
  simp only [ya,h0,yk,yC,grd,if_true,yh];rw [ziD w (by omega)];have hw0:k=0→z=w.length→(zbT (w[k].toNat:Nat)=true∧(w.drop k).take (z - k)∉kwL↔(zbT (w[0].toNat:Nat)&&decide (runP partP w=w.length))=true∧w∉kwL):=by
   intro e1 e2;subst e1;rw [e2];simp only [List.drop_zero,Nat.sub_zero,List.take_length,yc,ye];constructor
   ·rintro ⟨h1,h2⟩;have:=z3 h1;simp only [List.drop_zero] at this;exact ⟨⟨h1,by omega⟩,h2⟩
   ·rintro ⟨⟨h1,-⟩,h2⟩;exact ⟨h1,h2⟩
  by_cases hc:((((((0:Int) != 0)||((([(⟨q,0,(k:Int),(z:Int)⟩:Token)]++r).length:Int) != 2))||((k:Int) != 0))||((z:Int) != (w.length:Int))))=true
  ·rw [if_pos hc];refine ⟨0,rfl,?_⟩;constructor
   ·intro h;exact absurd h (by decide)
   ·rintro ⟨h1,h2⟩;exfalso;simp only [yc,ye] at h1;have hk0:k=0:=k4 (by omega) (zdZ h1.1);subst hk0;have hzw:=z3 h1.1;simp only [List.drop_zero] at hzw;have hzl:z=w.length:=by omega
    subst hzl;rw [zhi (by omega)] at hr;obtain ⟨k',e',p1,p2,-,-⟩:=zho (n:=n) (t:=w) (a:=w.length) (yn _) (by omega) hn;have:k'=w.length:=by omega
    subst this;simp only [zcQ.l1,e',ya,zaq,yf,if_false] at hr;rw [zam (by simp),ya] at hr;simp only [yi,yN,and_true,List.append_cancel_left_eq] at hr;subst hr;simp at hc
  ·rw [if_neg hc];refine ⟨q,rfl,?_⟩;simp only [yz,bne_iff_ne,ne_eq,not_or,Decidable.not_not] at hc;rw [z4];exact hw0 (by omega) (by omega)
 ·rw [zeP (by omega),if_neg (by simp),zam (by simp),ya];simp only [y9,ya];refine ⟨0,by simp [grd,idx],?_⟩;constructor
  ·intro h;exact absurd h (by decide)
  ·rintro ⟨h1,-⟩;exfalso;cases w with
   | nil=>simp [wordP] at h1
   | cons x l=>
    simp only [wordP,yc] at h1;have:=k4 (by simp) (zdZ h1.1);simp at hlt;omega
theorem zhJ {n} {w:List UInt8} (hl:w.length≤4096) (hn:1000000≤n):zft n w=some (nameP w):=by
 unfold zft nameP;obtain ⟨k,hk,hiff⟩:=zm8 (n:=n) hl hn;rw [hk,ya];have h16:decide ((w.length:Int)≤16)=decide (w.length≤16):=decide_eq_decide.2 (by omega);rw [h16,Bool.and_comm];congr 2;rw [Bool.eq_iff_iff];simp only [beq_iff_eq,hiff,yc,yG,yM]
theorem SetIs.getS {m:GMap (List UInt8) Bool} {l:List (List UInt8)} (h:SetIs m l) (k:List UInt8):(m.get? k).getD false=decide (k∈l):=(h.get k).trans (decide_eq_decide.2 Iff.rfl)
def distP:List (List UInt8)→List (List UInt8)→Bool
 | _,[]=>true
 | seen,s::l=>nameP s&&!decide (s∈seen)&&distP (seen++[s]) l
theorem zfo {n} {l:List (List UInt8)} (hF:Fuel n) (hl:l.length<1000000):zau n l=some (distP [] l):=by
 have hn:=hF.big;have:=zbi (body:=zau.l1 n l) (len:=l.length) (st:=λm i=>(m,(i:Int))) (g:=λi _=>some (distP (l.take i) (l.drop i))) (λi m=>SetIs m (l.take i)) (λrec i m hi hm hr=>?_) (λrec m _=>?_) n 0 (GMap.empty) (yp _) (by omega) (by simpa using SetIs.empty)
 ·simpa [zau] using this
 ·simp only [zau.l1,zn hi,if_true,za hi,ya,zhB hF,hm.getS,zd (i:=i) (by omega)];rw [hr _ (by rw [yv hi];exact hm.put _),zh hi,distP,yv hi];cases nameP l[i] <;> cases hd:decide (l[i]∈l.take i) <;> simp
 ·simp [zau.l1,distP]
theorem zfu {n} {l:List (List UInt8)} (hn:1000000≤n) (hl:l.length<1000000) (hw:∀ w∈l,w.length≤4096):zav n l=some (distP [] l):=by
 have:=zT (body:=zav.l1 n l) (len:=l.length) (st:=λi=>(i:Int)) (g:=λi=>some (distP (l.take i) (l.drop i))) (λrec i hi hr=>?_) (λrec=>?_) n 0 (yp _) (by omega)
 ·simpa [zav] using this
 ·have hc:=ze3 (l:=l) (a:=0) (b:=i) (by omega) (Nat.le_of_lt hi)
  simp only [Int.natCast_zero,List.drop_zero,Nat.sub_zero] at hc;simp only [zav.l1,zn hi,if_true,za hi,ya,zhJ (hw _ (yj hi)) hn,hc,yk,yh,yC,grd,zis (show (l.take i).length<1000000 by simp;omega) hn,zd (i:=i) (by omega),hr];rw [zh hi,distP,yv hi];cases nameP l[i] <;> cases hd:decide (l[i]∈l.take i) <;> simp
 ·simp [zav.l1,distP]
theorem zoD {n l v} (hl:l.length<1000000) (hn:1000000≤n):zae n l v=some (ixP (λx=>v==x) l 0):=by
 have:=zT (body:=zae.l1 n l v) (len:=l.length) (st:=λi=>(i:Int)) (g:=λi=>some (ixP (λx=>v==x) (l.drop i) i)) (λrec i hi hr=>?_) (λrec=>?_) n 0 (yp _) (by omega)
 ·simpa [zae] using this
 ·simp only [zae.l1,zn hi,if_true,za hi,ya,zd (i:=i) (by omega),hr];rw [zh hi];simp only [ixP];split <;> rfl
 ·simp [zae.l1,ixP]
theorem ziP {n l} (hl:l.length<1000000) (hn:1000000≤n):zgc n l=some (l.all id):=by
 unfold zgc zbU;rw [zoD hl hn];simp only [ya,zjO,yi];rw [← zjA];congr 2;funext x;cases x <;> rfl
def b6:Nat→Int→Int
 | 0,A=>A
 | k+1,A=>b6 k (A*6)
theorem b6_le:∀ (k:Nat) (A:Int),1≤A→A≤b6 k A
 | 0,_,_=>Int.le_refl _
 | k+1,A,h=>Int.le_trans (by omega) (b6_le k (A*6) (by omega))
theorem zph {a b A:Int} (h1:1≤a) (h2:a≤A) (h3:1≤b) (h4:b≤6):1≤a*b∧a*b≤A*6:=by
 have e1:1*1≤a*b:=Int.mul_le_mul h1 h3 (by omega) (by omega);have e2:a*b≤A*6:=Int.mul_le_mul h2 h4 (by omega) (by omega);omega
theorem zmV (sizes:List Int) (hs:sizes.all zbm=true):∀ (cols:List Int) (s A:Int),cols.all (colOK sizes)=true→1≤s→s≤A→b6 cols.length A≤1000000→1≤zac sizes cols s∧zac sizes cols s≤b6 cols.length A
 | [],s,A,_,h1,h2,_=>by simpa [zac,b6] using ⟨h1,h2⟩
 | c::l,s,A,hc,h1,h2,h3=>by
  simp only [uw,yc] at hc;have hcol:=hc.1;simp only [colOK,yc,ye] at hcol;obtain ⟨k,rfl⟩:=yS hcol.1;have hk:k<sizes.length:=by omega
  have hz:=yr.1 hs _ (yj hk);simp only [zbm,yc,ye] at hz;have hg:sizes.getD (k:Int).toNat 0=sizes[k]:=by simp [List.getD,hk]
  have hm:=zph h1 h2 hz.1 hz.2;simp only [yQ,b6] at h3 ⊢;have hb:=b6_le l.length (A*6) (by omega);simp only [zac,hg];unfold mul64;rw [zed (by omega) (by omega)];exact zmV sizes hs l _ _ hc.2 hm.1 hm.2 h3
theorem zeY {sizes cols} (hs:sizes.all zbm=true) (hc:cols.all (colOK sizes)=true) (h3:cols.length≤3):1≤zac sizes cols 1∧zac sizes cols 1≤216:=by
 have h:b6 cols.length 1≤216:=by
  match cols,h3 with
  | [],_=>decide
  | [_],_=>simp [b6]
  | [_,_],_=>simp [b6]
  | [_,_,_],_=>simp [b6]
  | _::_::_::_::_,h=>simp at h
 have:=zmV sizes hs cols 1 1 hc (by decide) (by decide) (by omega);omega
def zaw (k:Int):Bool:=k==0||k==1
def zhn (t:Table):Bool:=if (t.kind==1||t.kind==4||t.kind==5)=true then (decide (t.range.lo≤t.range.hi)&&decide (-9999≤t.range.lo))&&decide (t.range.hi≤9999) else decide (t.range=(⟨0,1⟩:Range))
def tabP (sizes:List Int) (t:Table):Bool:=nameP t.name&&(decide (0≤t.kind)&&decide (t.kind≤5))&&(decide (t.columns.length≤3)&&t.columns.all (colOK sizes))&&zhn t
def layP (sizes:List Int):List (List UInt8)→Int→Int→List Table→Bool
 | _,a,b,[]=>decide (a≤128)&&decide (b≤64)
 | seen,a,b,t::l=>(tabP sizes t&&!decide (t.name∈seen))&&(if zaw t.kind=true then t.first==a&&layP sizes (seen++[t.name]) (add64 a (zac sizes t.columns 1)) b l else t.first==b&&layP sizes (seen++[t.name]) a (add64 b (zac sizes t.columns 1)) l)
def zaN (sizes:List Int) (tables:List Table):Bool:=decide (sizes.length≤4)&&decide (tables.length≤12)&&sizes.all zbm&&layP sizes [] 0 0 tables
theorem zjE {n t}:zeM n t=some (zhn t):=by
 unfold zeM zhn jn;by_cases h1:t.kind=1
 ·simp [h1]
 ·by_cases h4:t.kind=4
  ·simp [h4]
  ·by_cases h5:t.kind=5
   ·simp [h5]
   ·simp [h1,h4,h5]
theorem ze0 {n sizes tables} (hF:Fuel n) (hs:sizes.length≤1000) (ht:tables.length≤1000) (hc:∀ t∈tables,t.columns.length≤1000):zbL n sizes tables=some (zaN sizes tables):=by
 have hn:=hF.big;unfold zbL zaN;rw [zky (by omega) (by omega),ya,ziP (by simp) (by omega),ya];simp only [uw,List.all_nil,id,uC];have e1:decide ((sizes.length:Int)≤4)=decide (sizes.length≤4):=decide_eq_decide.2 (by omega);have e2:decide ((tables.length:Int)≤12)=decide (tables.length≤12):=decide_eq_decide.2 (by omega);rw [e1,e2,← Bool.and_assoc];by_cases h:(decide (sizes.length≤4)&&decide (tables.length≤12)&&sizes.all zbm)=true
 ·rw [h,if_neg (by simp),yA];have:=zbi (body:=zbL.l1 n sizes tables) (len:=tables.length) (st:=λ(s:GMap (List UInt8) Bool×Int×Int) i=>(s.1,s.2.1,s.2.2,(i:Int))) (g:=λi s=>some (layP sizes ((tables.take i).map (·.name)) s.2.1 s.2.2 (tables.drop i))) (λi s=>SetIs s.1 ((tables.take i).map (·.name))) (λrec i s hi hm hr=>?_) (λrec s _=>?_) n 0 (GMap.empty,0,0) (yp _) (by omega) (by simpa using SetIs.empty)
  ·simpa using this
  ·obtain ⟨m,a,b⟩:=s;simp only [] at hm;have hmem:=yj hi;have hcols:=hc _ hmem;simp only [zbL.l1,jn,zn hi,if_true,za hi,ya,zhB hF,hm.getS,zdY,zid (show tables[i].columns.length<4611686018427387904 by omega) (show tables[i].columns.length<n by omega),zjE,zb4,zd (i:=i) (by omega)];rw [ziP (by simp) (by omega),ya];simp only [uw,List.all_nil,id,uC];have hput:=hm.put tables[i].name;have htk:((tables.take (i+1)).map (·.name))=(tables.take i).map (·.name)++[tables[i].name]:=by rw [yv hi,y8];rfl
   rw [← htk] at hput;have hT:(nameP tables[i].name&&(!decide (tables[i].name∈(tables.take i).map (·.name))&&(decide (0≤tables[i].kind)&&decide (tables[i].kind≤5)&&(decide (tables[i].columns.length≤3)&&tables[i].columns.all (colOK sizes)&&zhn tables[i]))))=(tabP sizes tables[i]&&!decide (tables[i].name∈(tables.take i).map (·.name))):=by
    unfold tabP;cases nameP tables[i].name <;> cases decide (tables[i].name∈(tables.take i).map (·.name)) <;> simp [Bool.and_assoc]
   rw [hT,zh hi,layP];by_cases hv:(tabP sizes tables[i]&&!decide (tables[i].name∈(tables.take i).map (·.name)))=true
   ·rw [hv,if_neg (by simp),yA];have hcol:tables[i].columns.all (colOK sizes)=true:=by
     simp only [tabP,yc] at hv;exact hv.1.1.2.2
    simp only [ze2 hcol (show tables[i].columns.length<4611686018427387904 by omega) (show tables[i].columns.length<n by omega),ya,← htk];unfold zaw;by_cases hk:(tables[i].kind==0||tables[i].kind==1)=true
    ·rw [if_pos hk,if_pos hk];by_cases hf:tables[i].first=a
     ·rw [if_neg (by simp [hf]),hr (m.put tables[i].name true,add64 a (zac sizes tables[i].columns 1),b) hput];simp [hf]
     ·rw [if_pos (by simp [hf])];simp [hf]
    ·rw [if_neg hk,if_neg hk];by_cases hf:tables[i].first=b
     ·rw [if_neg (by simp [hf]),hr (m.put tables[i].name true,a,add64 b (zac sizes tables[i].columns 1)) hput];simp [hf]
     ·rw [if_pos (by simp [hf])];simp [hf]
   ·simp only [yF] at hv;rw [hv,if_pos (by simp),yU]
  ·simp [zbL.l1,layP]
 ·simp only [yF] at h;rw [h,if_pos (by simp),yU]
theorem ze8 {n sizes tables} (hn:1000000≤n) (hs:sizes.length≤1000) (ht:tables.length≤1000) (hc:∀ t∈tables,t.columns.length≤1000∧t.name.length≤4096):zaF n sizes tables=some (zaN sizes tables):=by
 unfold zaF zaN;have e1:decide (4<(sizes.length:Int)) = !decide (sizes.length≤4):=by rw [← decide_not];exact decide_eq_decide.2 (by omega)
 have e2:decide (12<(tables.length:Int)) = !decide (tables.length≤12):=by rw [← decide_not];exact decide_eq_decide.2 (by omega)
 rw [zg6 (by omega) (by omega),e1,e2];simp only [yk,yC,grd,if_true,yh];by_cases h:(decide (sizes.length≤4)&&decide (tables.length≤12)&&sizes.all zbm)=true
 ·rw [h,yA];simp only [yc] at h;obtain ⟨⟨h1,h2⟩,h3⟩:=h;rw [h1,h2,h3,if_neg (by simp)];have:=zbi (body:=zaF.l1 n sizes tables) (len:=tables.length) (st:=λ(s:Int×Int) i=>(s.1,s.2,(i:Int))) (g:=λi s=>some (layP sizes ((tables.take i).map (·.name)) s.1 s.2 (tables.drop i))) (λ_ _=>True) (λrec i s hi _ hr=>?_) (λrec s _=>?_) n 0 (0,0) (yp _) (by omega) trivial
  ·simpa using this
  ·obtain ⟨a,b⟩:=s;have hmem:=yj hi;obtain ⟨hcols,hname⟩:=hc _ hmem;simp only [zaF.l1,jn,zn hi,if_true,za hi,ya];generalize hK:(λ(v:Int×Int)=>rec (v.1,v.2,add64 (i:Int) 1))=K;have inner:=zT (body:=zaF.l2 n sizes tables a b i K tables[i]) (len:=i) (st:=λk=>(k:Int)) (g:=λk=>if decide (tables[i].name∈((tables.take i).drop k).map (·.name))=true then some false else zaF.l2 n sizes tables a b i K tables[i] (λ_=>none) (i:Int)) (λrec' k hk hr'=>?_) (λrec'=>?_) n 0 (yp _) (by omega)
   ·rw [show ((0:Nat):Int)=0 from rfl] at inner;rw [inner,zh hi,layP,List.drop_zero];have htk:((tables.take (i+1)).map (·.name))=(tables.take i).map (·.name)++[tables[i].name]:=by rw [yv hi,y8];rfl
    cases hseen:decide (tables[i].name∈(tables.take i).map (·.name)) with
    | true=>simp
    | false=>
     simp only [yf,if_false,ui,uC];have hnum:=zez (n:=n) (sizes:=sizes) (cols:=tables[i].columns) (by omega) (by omega) (by omega) (by omega);rw [h3,uC] at hnum;simp only [zaF.l2,zeP (yn i),yf,if_false,hnum,ya,zhJ hname hn,zb0];unfold tabP;by_cases hcol:(decide (tables[i].columns.length≤3)&&tables[i].columns.all (colOK sizes))=true
     ·simp only [hcol,if_true,uC];have hcol':=hcol;simp only [yc,ye] at hcol';have hw:=zeY h3 hcol'.2 hcol'.1;have hw0:(zac sizes tables[i].columns 1==0)=false:=by simp;omega
      rw [hw0,Bool.or_false];by_cases hnk:(nameP tables[i].name&&(decide (0≤tables[i].kind)&&decide (tables[i].kind≤5)))=true
      ·rw [hnk,yA];simp only [yc,ye] at hnk;rw [if_neg (by simp [hnk.1];omega)];by_cases hrg:zhn tables[i]=true
       ·rw [hrg,yA];unfold zhn at hrg;rw [if_neg (by
         split at hrg
         ·simp only [yc,ye] at hrg;simp only [yz,ye];omega
         ·simp only [ye] at hrg;rw [hrg];decide),if_neg (by
         split at hrg
         ·rename_i hk;simp only [yz,beq_iff_eq] at hk;simp only [yc,yz,beq_iff_eq];omega
         ·simp only [ye] at hrg;rw [hrg];simp)]
        unfold zaw;by_cases hk:(tables[i].kind==0||tables[i].kind==1)=true
        ·rw [if_pos hk,if_pos hk];by_cases hf:tables[i].first=a
         ·rw [if_neg (by simp [hf]),← hK];simp only [zd (i:=i) (by omega)];have:=hr (add64 a (zac sizes tables[i].columns 1),b) trivial;simp only [] at this;rw [this,htk];simp [hf]
         ·rw [if_pos (by simp [hf])];simp [hf]
        ·rw [if_neg hk,if_neg hk];by_cases hf:tables[i].first=b
         ·rw [if_neg (by simp [hf]),← hK];simp only [zd (i:=i) (by omega)];have:=hr (a,add64 b (zac sizes tables[i].columns 1)) trivial;simp only [] at this;rw [this,htk];simp [hf]
         ·rw [if_pos (by simp [hf])];simp [hf]
       ·simp only [yF] at hrg;rw [hrg,yU];unfold zhn at hrg;split at hrg
        ·rename_i hk;rw [if_pos (by
          simp only [uf,yM] at hrg;simp only [yz,ye];omega)]
        ·rename_i hk;simp only [yz,beq_iff_eq,not_or] at hk;have hr01:¬ (tables[i].range.lo=0∧tables[i].range.hi=1):=by
          rintro ⟨q1,q2⟩;simp only [yM] at hrg;apply hrg;cases hrr:tables[i].range;rw [hrr] at q1 q2;simp only [] at q1 q2;rw [q1,q2]
         split
         ·rfl
         ·rw [if_pos (by
           simp only [yc,yz,beq_iff_eq,bne_iff_ne,ne_eq];omega)]
      ·simp only [yF] at hnk;rw [hnk,yU,yU];rw [if_pos (by
        simp only [uf,yM] at hnk;simp only [yz,yG,ye];rcases hnk with h | h | h
        ·exact .inl (.inl h)
        ·exact .inl (.inr (by omega))
        ·exact .inr (by omega))]
     ·simp only [yF] at hcol;simp only [hcol,Bool.and_false,yU,yf,if_false];rw [if_pos (by simp)]
   ·have hk':k<tables.length:=by omega
    simp only [zaF.l2,zgo hk,if_true,za hk',ya,zd (i:=k) (by omega),hr'];have hk2:k<(tables.take i).length:=by simp;omega
    rw [zh hk2];simp only [List.getElem_take,yI,yD];by_cases hnm:tables[k].name=tables[i].name
    ·rw [if_pos (by simpa using hnm),if_pos (by simp [hnm])]
    ·rw [if_neg (by simpa using hnm)];have hnm':¬ tables[i].name=tables[k].name:=λe=>hnm e.symm
     simp only [hnm',false_or]
   ·rw [if_neg (by simp)];simp only [zaF.l2,zeP (yn i),yf,if_false]
  ·simp [zaF.l1,layP]
 ·simp only [yF] at h;rw [h,yU];rw [if_pos (by
   simp only [uf] at h;simp only [yz,yG];rcases h with (h | h) | h
   ·exact .inl (.inl h)
   ·exact .inr h
   ·exact .inl (.inr h))]
def zI (sizes:List Int) (s:Bool):List Table→List Range
 | []=>[]
 | t::l=>if (zaw t.kind==s)=true then List.replicate (zac sizes t.columns 1).toNat t.range++zI sizes s l else zI sizes s l
theorem zcB {sizes}:∀ {l:List Table} {seen:List (List UInt8)} {a b:Int},layP sizes seen a b l=true→∀ t∈l,tabP sizes t=true
 | [],_,_,_,_,_,ht=>by simp at ht
 | x::l,seen,a,b,h,t,ht=>by
  simp only [layP,yc] at h;simp only [yD] at ht;rcases ht with rfl | ht
  ·exact h.1.1
  ·have h2:=h.2;split at h2
   ·simp only [yc] at h2;exact zcB h2.2 t ht
   ·simp only [yc] at h2;exact zcB h2.2 t ht
theorem zbn {sizes tables} (h:zaN sizes tables=true):sizes.length≤4∧tables.length≤12∧sizes.all zbm=true∧∀ t∈tables,nameP t.name=true∧(0≤t.kind∧t.kind≤5)∧t.columns.length≤3∧t.columns.all (colOK sizes)=true∧1≤zac sizes t.columns 1∧zac sizes t.columns 1≤216:=by
 simp only [zaN,yc,ye] at h;obtain ⟨⟨⟨h1,h2⟩,h3⟩,h4⟩:=h;refine ⟨h1,h2,h3,λt ht=>?_⟩;have:=zcB h4 t ht;simp only [tabP,yc,ye] at this;obtain ⟨⟨⟨p1,p2⟩,p3⟩,-⟩:=this;exact ⟨p1,p2,p3.1,p3.2,zeY h3 p3.2 p3.1⟩
theorem zcJ {sizes s}:∀ {l:List Table},(∀ t∈l,1≤zac sizes t.columns 1∧zac sizes t.columns 1≤216)→(zI sizes s l).length≤l.length*216
 | [],_=>by simp [zI]
 | t::l,h=>by
  have ih:=zcJ (s:=s) (l:=l) λx hx=>h x (by simp [hx])
  have ht:=h t (by simp);simp only [zI,yQ];split
  ·simp only [yL,y0];omega
  ·omega
theorem zrT {n}:∀ w:Fin 217,zej n 1 ((w.1:Nat):Int)=some (0,((w.1:Nat):Int)):=by
 intro w;unfold zej zeu;revert w;decide +kernel
theorem zn4:∀ w:Fin 217,wk .u64 ((w.1:Nat):Int)=((w.1:Nat):Int)∧wk .i64 ((w.1:Nat):Int)=((w.1:Nat):Int):=by decide +kernel
theorem zoE {n x w} (h1:1≤w) (h2:w≤216) (hn:1000000≤n):zQ n [x] w=some (List.replicate w.toNat x):=by
 obtain ⟨W,rfl⟩:=yS (show 0≤w by omega);have hW:W<217:=by omega
 have hwk:=zn4 ⟨W,hW⟩;simp only [] at hwk;have h1k:wk .u64 (([x]:List Range).length:Int)=1:=(zn4 ⟨1,by decide⟩).1;unfold zQ;rw [if_neg (by simp),h1k,hwk.1,zrT ⟨W,hW⟩];simp only [ya];rw [if_neg (by simp;omega),hwk.2];have hm:mkl 16 (W:Int) (⟨0,0⟩:Range)=some (List.replicate W ⟨0,0⟩):=by
  unfold mkl;rw [if_pos (by omega)];simp
 rw [hm,ya];simp only [y0,uq,Nat.sub_zero,yx];rw [show min W 1=1 by omega];refine zet (body:=zQ.l1 n) (λs=>W - s.2.toNat) (λs=>∃ k:Nat,s.2=(k:Int)∧1≤k∧k≤W∧s.1.length=W∧s.1.take k=List.replicate k x) (λ_ o=>o=some (List.replicate W x)) (λrec s hI hr=>?_) n _ ⟨1,rfl,by omega,by omega,?_,?_⟩ (by simp;omega)
 ·obtain ⟨b,kk⟩:=s;obtain ⟨k,rfl,k1,k2,hb,hk⟩:=hI;simp only [] at hb hk;simp only [zQ.l1];by_cases hlt:k<W
  ·have hcE:cut b (k:Int) (W:Int)=some (b.drop k):=by rw [← hb];exact zig (by omega)
   have hc:=ze3 (l:=b) (a:=0) (b:=k) (by omega) (by omega)
   simp only [Int.natCast_zero] at hc;simp only [hb,zgo hlt,if_true,hcE,hc,ya,yx,List.drop_zero,Nat.sub_zero,hk,y0];rw [zdX (by omega)];refine hr (_,((k+min (W - k) k:Nat):Int)) ⟨k+min (W - k) k,rfl,by omega,by omega,?_,?_⟩ (by simp only [yx];omega)
   ·simp only [];rw [zdt (by omega) (by omega),hb]
   ·simp only [zeN,hk,List.take_replicate,y0];rw [show min (W - k) k=min (W - k) k from rfl,← yT,List.replicate_append_replicate];rw [List.take_append_of_le_length (by simp)];simp
  ·have:k=W:=by omega
   subst this;have hd:decide ((k:Int)<(b.length:Int))=false:=by rw [hb];exact zeP (yn _)
   simp only [hd,yf,if_false];rw [← hk,List.take_of_length_le (by omega)]
 ·rw [zdt (by omega) (by simp)];simp
 ·simp [zeN,List.take_append];rw [List.take_of_length_le (l:=[x]) (by simp;omega),show min W 1=1 by omega];simp
theorem zg4 (sizes s):∀ (l m:List Table),zI sizes s (l++m)=zI sizes s l++zI sizes s m
 | [],_=>rfl
 | t::l,m=>by
  simp only [ud,zI,zg4 sizes s l m];split <;> simp
theorem ziY {sizes:List Int} {s:Bool} {l:List Table} {i:Nat} (hi:i<l.length):zI sizes s (l.take (i+1))=if (zaw l[i].kind==s)=true then zI sizes s (l.take i)++List.replicate (zac sizes l[i].columns 1).toNat l[i].range else zI sizes s (l.take i):=by
 rw [yv hi,zg4];simp only [zI];split <;> simp
theorem zjC {n:Nat} {sizes:List Int} {tables:List Table} {s:Bool} (hF:Fuel n) (hs:sizes.length≤1000) (ht:tables.length≤1000) (hc:∀ t∈tables,t.columns.length≤1000) :
  zbY n sizes tables s=some (if zaN sizes tables=true then zI sizes s tables else []):=by
 have hn:=hF.big;unfold zbY;rw [ze0 hF hs ht hc,ya];cases hL:zaN sizes tables with
 | false=>simp
 | true=>
  obtain ⟨l1,l2,l3,l4⟩:=zbn hL;have:=zT (body:=zbY.l1 n sizes tables s) (len:=tables.length) (st:=λi=>(zI sizes s (tables.take i),(i:Int))) (g:=λ_=>some (zI sizes s tables)) (λrec i hi hr=>?_) (λrec=>?_) n 0 (yp _) (by omega)
  ·simpa [zI] using this
  ·obtain ⟨-,-,c1,c2,c3,c4⟩:=l4 _ (yj hi);have hlen:=zcJ (sizes:=sizes) (s:=s) (l:=tables.take i) λx hx=>(l4 x (List.mem_of_mem_take hx)).2.2.2.2
   simp only [yP] at hlen;rw [ziY hi] at hr;simp only [zbY.l1,jn,zn hi,if_true,za hi,ya,zb4,zd (i:=i) (by omega)];unfold zaw at hr;by_cases hk:((tables[i].kind==0||tables[i].kind==1)==s)=true
   ·rw [if_pos hk] at hr ⊢;rw [ze2 c2 (by omega) (by omega),ya,zoE c3 c4 (by omega),ya,zam (by simp only [y0];omega),ya,hr]
   ·rw [if_neg hk] at hr ⊢;rw [hr]
  ·simp [zbY.l1]
theorem zey {n:Nat} {sizes:List Int} {tables:List Table} {s:Bool} (hn:1000000≤n) (hs:sizes.length≤1000) (ht:tables.length≤1000) (hc:∀ t∈tables,t.columns.length≤1000∧t.name.length≤4096) :
  zaP n sizes tables s=some (if zaN sizes tables=true then zI sizes s tables else []):=by
 unfold zaP;rw [ze8 hn hs ht hc,ya];cases hL:zaN sizes tables with
 | false=>simp
 | true=>
  obtain ⟨l1,l2,l3,l4⟩:=zbn hL;have:=zT (body:=zaP.l1 n sizes tables s) (len:=tables.length) (st:=λi=>(zI sizes s (tables.take i),(i:Int))) (g:=λ_=>some (zI sizes s tables)) (λrec i hi hr=>?_) (λrec=>?_) n 0 (yp _) (by omega)
  ·simpa [zI] using this
  ·obtain ⟨-,-,c1,c2,c3,c4⟩:=l4 _ (yj hi);have hlen:=zcJ (sizes:=sizes) (s:=s) (l:=tables.take i) λx hx=>(l4 x (List.mem_of_mem_take hx)).2.2.2.2
   simp only [yP] at hlen;rw [ziY hi] at hr;simp only [zaP.l1,zn hi,if_true];obtain ⟨W,hW⟩:=yS (show 0≤zac sizes tables[i].columns 1 by omega);have hnum:=zez (n:=n) (sizes:=sizes) (cols:=tables[i].columns) (by omega) (by omega) (by omega) (by omega);simp only [l3,c2,c1,decide_true,uC,if_true] at hnum;have inner:=zT (body:=zaP.l2 n sizes tables s i rec) (len:=if (zaw tables[i].kind==s)=true then W else 0) (st:=λk=>(zI sizes s (tables.take i)++List.replicate k tables[i].range,(k:Int))) (g:=λ_=>some (zI sizes s tables)) (λrec' k hk hr'=>?_) (λrec'=>?_) n 0 (yp _) (by split <;> omega)
   ·simpa using inner
   ·split at hk
    ·rename_i hst;simp only [zaw] at hst;simp only [zaP.l2,za hi,ya,zb0,hst,yk,yC,grd,if_true,yh,hnum,yA,hW,zgo hk,zd (i:=k) (by omega)];rw [zam (by simp only [yL,y0,uq];omega),ya,yT,← List.replicate_succ',hr']
    ·omega
   ·by_cases hst:((tables[i].kind==0||tables[i].kind==1)==s)=true
    ·have hst':(zaw tables[i].kind==s)=true:=hst;rw [if_pos hst'] at hr ⊢;simp only [zaP.l2,za hi,ya,zb0,hst,yk,yC,grd,if_true,yh,hnum,yA,hW,zeP (yn W),yf,if_false,zd (i:=i) (by omega)];rw [hW] at hr;simpa using hr
    ·have hst':¬ (zaw tables[i].kind==s)=true:=hst;rw [if_neg hst'] at hr ⊢;simp only [yF] at hst;simp only [zaP.l2,za hi,ya,zb0,hst,ui,uO,grd,if_true,yU,yf,if_false,zd (i:=i) (by omega)];simpa using hr
  ·simp [zaP.l1]

structure Good (n:Nat) (m:Model):Prop where
 acts:∀ a∈m.actions,a.effect.delta.length<4611686018427387904∧a.effect.delta.length<n∧(∀ k,addP k a.effect.delta 0=zoI a.effect.delta k)∧∀ r∈a.effect.hold,r.terms.length<4611686018427387904∧r.terms.length<n
 cons:∀ c∈m.constraints,(c.kind=0∨c.kind=1)∧c.row.terms.length<4611686018427387904∧c.row.terms.length<n∧∃ K:Nat,mul64 c.size c.size=(K:Int)∧K<17592186044416∧K<n
theorem zd5 {α:Type} {l:List α} {i:Int} {x:α} (h:idx l i=some x):x∈l:=by
 obtain ⟨n,rfl,hn,rfl⟩:=idxS h;exact yj hn
theorem zbw {α:Type} {l:List α} {i:Int} (h0:0≤i) (h1:i<(l.length:Int)):∃ x,idx l i=some x:=by
 obtain ⟨n,rfl⟩:=yS h0;exact ⟨_,za (by omega)⟩
def allR (p:Nat→Bool) (i:Nat):Nat→Bool
 | 0=>true
 | k+1=>p i&&allR p (i+1) k
theorem znq {p}:∀ {k i:Nat},allR p i k=true↔∀ j,i≤j→j<i+k→p j=true
 | 0,i=>by simp [allR];omega
 | k+1,i=>by
  simp only [allR,yc,znq (k:=k) (i:=i+1)];constructor
  ·rintro ⟨h1,h2⟩ j hj hk;by_cases e:j=i
   ·rw [e];exact h1
   ·exact h2 j (by omega) (by omega)
  ·intro h;exact ⟨h i (yn _) (by omega),λj hj hk=>h j (by omega) (by omega)⟩
theorem zht {p k}:allR p 0 k=true↔∀ j,j<k→p j=true:=by
 rw [znq];simp
theorem zd0 {S R:Type} {body:(S→Option R)→S→Option R} {len n:Nat} {st:Nat→S} (p:Nat→Bool) (F T:Option R)
  (hb:∀ rec i,i<len→body rec (st i)=if p i=true then rec (st (i+1)) else F) (he:∀ rec,body rec (st len)=T) (hn:len<n):loopF body n (st 0)=if allR p 0 len=true then T else F:=by
 have:=zT (body:=body) (len:=len) (st:=st) (g:=λi=>if allR p i (len - i)=true then T else F) (λrec i hi hr=>?_) (λrec=>?_) n 0 (yp _) (by omega)
 ·simpa using this
 ·rw [hb rec i hi,show len - i=(len - (i+1))+1 by omega,allR,hr];cases p i <;> simp
 ·rw [he];simp [allR]
theorem zd4 {n l f p} (hf:∀ x∈l,f x=some (p x)) (hl:l.length<1000000) (hn:1000000≤n):zB n l f=some (ixP p l 0):=by
 have:=zT (body:=zB.l1 n l f) (len:=l.length) (st:=λi=>(i:Int)) (g:=λi=>some (ixP p (l.drop i) i)) (λrec i hi hr=>?_) (λrec=>?_) n 0 (yp _) (by omega)
 ·simpa [zB] using this
 ·simp only [zB.l1,zn hi,if_true,za hi,ya,hf _ (yj hi),zd (i:=i) (by omega),hr];rw [zh hi];simp only [ixP];split <;> rfl
 ·simp [zB.l1,ixP]
theorem zdG {n l f p} (hf:∀ x∈l,f x=some (p x)) (hl:l.length<1000000) (hn:1000000≤n):zY n l f=some (l.any p):=by
 unfold zY;rw [zd4 hf hl hn,ya,zjO]
theorem zeZ {n l f p} (hf:∀ x∈l,f x=some (p x)) (hl:l.length<1000000) (hn:1000000≤n):zM n l f=some (ixP p l 0):=by
 have:=zT (body:=zM.l1 n l f) (len:=l.length) (st:=λi=>(i:Int)) (g:=λi=>some (ixP p (l.drop i) i)) (λrec i hi hr=>?_) (λrec=>?_) n 0 (yp _) (by omega)
 ·simpa [zM] using this
 ·simp only [zM.l1,zn hi,if_true,za hi,ya,hf _ (yj hi),zd (i:=i) (by omega),hr];rw [zh hi];simp only [ixP];split <;> rfl
 ·simp [zM.l1,ixP]
theorem zee {n l f p} (hf:∀ x∈l,f x=some (p x)) (hl:l.length<1000000) (hn:1000000≤n):zX n l f=some (l.any p):=by
 unfold zX;rw [zeZ hf hl hn,ya,zjO]
theorem zeq {n l f p} (hf:∀ x∈l,f x=some (p x)) (hl:l.length<1000000) (hn:1000000≤n):zF n l f=some (ixP p l 0):=by
 have:=zT (body:=zF.l1 n l f) (len:=l.length) (st:=λi=>(i:Int)) (g:=λi=>some (ixP p (l.drop i) i)) (λrec i hi hr=>?_) (λrec=>?_) n 0 (yp _) (by omega)
 ·simpa [zF] using this
 ·simp only [zF.l1,zn hi,if_true,za hi,ya,hf _ (yj hi),zd (i:=i) (by omega),hr];rw [zh hi];simp only [ixP];split <;> rfl
 ·simp [zF.l1,ixP]
theorem zdU {n l f p} (hf:∀ x∈l,f x=some (p x)) (hl:l.length<1000000) (hn:1000000≤n):zaB n l f=some (l.any p):=by
 unfold zaB;rw [zeq hf hl hn,ya,zjO]
def zbB (x most:Int):Bool:=decide (-most≤x)&&decide (x≤most)
theorem around3 {n x}:zaE n x 1000=some (zbB x 1000):=rfl
theorem around9 {n x}:zaE n x 1000000000=some (zbB x 1000000000):=rfl
theorem around4 {n x}:zaE n x 9999=some (zbB x 9999):=rfl
theorem between3 {n x}:zao n x 1000=some (zbB x 1000):=rfl
theorem between9 {n x}:zao n x 1000000000=some (zbB x 1000000000):=rfl
theorem between4 {n x}:zao n x 9999=some (zbB x 9999):=rfl
def rowP (K:Nat):Int→List Term→Bool
 | _,[]=>true
 | last,t::l=>(decide (last<t.cell)&&decide (t.cell<(K:Int))&&(t.factor != 0)&&zbB t.factor 1000)&&rowP K t.cell l
def rowOK (K:Nat) (r:Row):Bool:=rowP K (-1) r.terms&&zbB r.bound 1000000000
theorem ziw {i:Nat} (h0:0<i) (h:i<4611686018427387904):sub64 (i:Int) 1=((i - 1:Nat):Int):=by
 unfold sub64;rw [zed (by omega) (by omega)];omega
theorem ziW {n} {j:Judge} {r} (hl:r.terms.length<1000000) (hn:1000000≤n):zaA n j r=some (rowOK j.strict.length r):=by
 have:=zbi (body:=zaA.l1 n j r) (len:=r.terms.length) (st:=λ(s:Int) i=>(s,(i:Int))) (g:=λi s=>some (rowP j.strict.length s (r.terms.drop i)&&zbB r.bound 1000000000)) (λ_ _=>True) (λrec i s hi _ hr=>?_) (λrec s _=>?_) n 0 (-1) (yp _) (by omega) trivial
 ·simpa [zaA,rowOK] using this
 ·simp only [zaA.l1,zn hi,if_true,za hi,ya,around3,yk,yC,grd,yh,zd (i:=i) (by omega),hr r.terms[i].cell trivial];rw [zh hi,rowP];by_cases h:(decide (s<r.terms[i].cell)&&decide (r.terms[i].cell<(j.strict.length:Int))&&(r.terms[i].factor != 0)&&zbB r.terms[i].factor 1000)=true
  ·rw [h,yA];simp only [yc,ye,bne_iff_ne] at h;rw [if_neg (by simp [h.2,h.1.2];omega)]
  ·rw [if_pos (by
    simp only [yc,ye,bne_iff_ne,ne_eq] at h;simp only [yz,ye,beq_iff_eq,yG,← yF];by_cases ha:zbB r.terms[i].factor 1000=true
    ·left;simp only [ha,and_true] at h;omega
    ·exact .inr ha)]
   simp only [yF] at h;rw [h];rfl
 ·simp [zaA.l1,around9,rowP]
theorem zld {n K:Nat} {r} (hl:r.terms.length<1000000) (hn:1000000≤n):zce n r (K:Int)=some (rowOK K r):=by
 have:=zbi (body:=zce.l1 n r (K:Int)) (len:=r.terms.length) (st:=λ(_:Int) i=>(i:Int)) (g:=λi s=>some (rowP K s (r.terms.drop i)&&zbB r.bound 1000000000)) (λi s=>-1≤s∧((i=0∧s = -1)∨(0<i∧∃ x,idx r.terms (sub64 (i:Int) 1)=some x∧x.cell=s))) (λrec i s hi hI hr=>?_) (λrec s _=>?_) n 0 (-1) (yp _) (by omega) ⟨by omega,.inl ⟨rfl,rfl⟩⟩
 ·simpa [zce,rowOK] using this
 ·obtain ⟨h1,h2⟩:=hI;have hprev:(decide (0<(i:Int))&&decide (r.terms[i].cell≤((idx r.terms (sub64 (i:Int) 1)).getD default).cell))=(decide (0<i)&&decide (r.terms[i].cell≤s))∧(!(decide (0<(i:Int)))||(idx r.terms (sub64 (i:Int) 1)).isSome)=true:=by
   rcases h2 with ⟨h2,h3⟩ | ⟨h2,x,h3,h4⟩
   ·subst h2;simp
   ·rw [h3];simp [h4,h2]
  simp only [zce.l1,zn hi,if_true,za hi,ya,between3,yk,yC,grd,yh,hprev.1,hprev.2,zd (i:=i) (by omega)];rw [zh hi,rowP];by_cases h:(decide (s<r.terms[i].cell)&&decide (r.terms[i].cell<(K:Int))&&(r.terms[i].factor != 0)&&zbB r.terms[i].factor 1000)=true
  ·rw [h,yA];simp only [yc,ye,bne_iff_ne] at h;rw [if_neg (by simp [h.2,h.1.2];omega),hr r.terms[i].cell ⟨by omega,.inr ⟨by omega,r.terms[i],by
    rw [ziw (by omega) (by omega),show i+1 - 1=i by omega,za hi],rfl⟩⟩]
  ·rw [if_pos (by
    simp only [yc,ye,bne_iff_ne,ne_eq] at h;simp only [yz,yc,ye,beq_iff_eq,yG,← yF];by_cases ha:zbB r.terms[i].factor 1000=true
    ·left;simp only [ha,and_true] at h;rcases h2 with ⟨h2,h3⟩ | ⟨h2,-⟩ <;> omega
    ·exact .inr ha)]
   simp only [yF] at h;rw [h];rfl
 ·simp [zce.l1,between9,rowP]
def zhz (sorts:List Int) (c:Constraint) (t:Table):Bool:=(t.kind==0&&((t.columns.length:Int)==2))&&(((idx t.columns 0).getD default==(idx t.columns 1).getD default)&&t.first==c.first&&((idx sorts ((idx t.columns 0).getD default)).getD default==c.size))
def zgi (m:Model) (c:Constraint):Bool:=(((c.row.terms.length:Int)==0)&&(c.row.bound==0))&&m.tables.any (zhz m.sorts c)
theorem zgL {sorts:List Int} {t:Table} (hc:t.columns.all (colOK sorts)=true) (h2:(t.columns.length:Int)=2):(∃ x,idx t.columns 0=some x)∧(∃ x,idx t.columns 1=some x)∧∃ x,idx sorts ((idx t.columns 0).getD default)=some x:=by
 obtain ⟨x,hx⟩:=zbw (l:=t.columns) (i:=0) (by omega) (by omega);obtain ⟨y,hy⟩:=zbw (l:=t.columns) (i:=1) (by omega) (by omega);refine ⟨⟨x,hx⟩,⟨y,hy⟩,?_⟩;rw [hx];exact ⟨_,zdu (yr.1 hc x (zd5 hx))⟩
theorem zog {n} {j:Judge} {c t} (hc:t.columns.all (colOK j.model.sorts)=true):zbp n t c j=some (zhz j.model.sorts c t):=by
 unfold zbp zhz;by_cases h2:(t.kind==0&&((t.columns.length:Int)==2))=true
 ·have h2':=h2;simp only [yc,beq_iff_eq] at h2';obtain ⟨⟨x,hx⟩,⟨y,hy⟩,z,hz⟩:=zgL hc h2'.2;rw [hx] at hz;simp only [yh] at hz;simp [h2,hx,hy,hz,grd,Bool.and_assoc]
 ·simp only [yF] at h2;simp [h2,grd]
theorem zkH {n} {j:Judge} {c} (hc:∀ t∈j.model.tables,t.columns.all (colOK j.model.sorts)=true) (hl:j.model.tables.length<1000000) (hn:1000000≤n):zbK n j c=some (zgi j.model c):=by
 unfold zbK zgi;rw [zdG (p:=zhz j.model.sorts c) (λt ht=>zog (hc t ht)) hl hn];simp [grd]
theorem zmL {n m c} (hc:∀ t∈m.tables,t.columns.all (colOK m.sorts)=true) (hl:m.tables.length<1000000) (hn:1000000≤n):zbC n m c=some (zgi m c):=by
 unfold zbC zgi;by_cases h:(((c.row.terms.length:Int)==0)&&(c.row.bound==0))=true
 ·rw [h,yA];simp only [yc,beq_iff_eq] at h;rw [if_neg (by rw [h.1,h.2];decide)];have:=zT (body:=zbC.l1 n m c) (len:=m.tables.length) (st:=λi=>(i:Int)) (g:=λi=>some ((m.tables.drop i).any (zhz m.sorts c))) (λrec i hi hr=>?_) (λrec=>?_) n 0 (yp _) (by omega)
  ·simpa using this
  ·simp only [zbC.l1,zn hi,if_true,za hi,ya,zd (i:=i) (by omega),hr];rw [zh hi,uL];have hcol:=hc _ (yj hi);by_cases h2:(m.tables[i].kind==0&&((m.tables[i].columns.length:Int)==2))=true
   ·have h2':=h2;simp only [yc,beq_iff_eq] at h2';obtain ⟨⟨x,hx⟩,⟨y,hy⟩,z,hz⟩:=zgL hcol h2'.2;rw [hx] at hz;simp only [yh] at hz;simp only [h2,hx,hy,hz,grd,yk,yC,if_true,yh,yA,zhz];cases (x==y&&m.tables[i].first==c.first&&z==c.size) <;> simp
   ·simp only [yF] at h2;simp [h2,grd,zhz]
  ·simp [zbC.l1]
 ·simp only [yF] at h;rw [h,yU,if_pos (by
   simp only [uf,ug] at h;simp only [yz,ye,bne_iff_ne];omega)]
theorem ziF {n a b} (hl:a.length<1000000) (hn:1000000≤n):zy n a b=some (decide (a=b)):=by
 unfold zy;by_cases h:a.length=b.length
 ·rw [if_neg (by simp [h])];have:=zT (body:=zy.l1 n a b) (len:=a.length) (st:=λi=>(i:Int)) (g:=λi=>some (decide (a.drop i=b.drop i))) (λrec i hi hr=>?_) (λrec=>?_) n 0 (yp _) (by omega)
  ·simpa using this
  ·have hib:i<b.length:=by omega
   simp only [zy.l1,zn hi,if_true,za hi,za hib,ya,zd (i:=i) (by omega),hr];rw [zh hi,zh hib];by_cases e:a[i]=b[i]
   ·simp only [e,decide_true,yW,yf,if_false,List.cons.injEq,true_and]
   ·simp only [e,decide_false,ui,if_true,List.cons.injEq,false_and]
  ·simp [zy.l1,h]
 ·rw [if_pos (by simp;omega)];have:¬ a=b:=λe=>h (by rw [e])
  simp [this]
theorem zl5 {n a b} (hl:a.length<1000000) (hn:1000000≤n):zaQ n a b=some (decide (a=b)):=by
 unfold zaQ;by_cases h:a.length=b.length
 ·rw [if_neg (by simp [h])];have:=zT (body:=zaQ.l1 n a b) (len:=a.length) (st:=λi=>(i:Int)) (g:=λi=>some (decide (a.drop i=b.drop i))) (λrec i hi hr=>?_) (λrec=>?_) n 0 (yp _) (by omega)
  ·simpa using this
  ·have hib:i<b.length:=by omega
   simp only [zaQ.l1,zn hi,if_true,za hi,za hib,ya,zd (i:=i) (by omega),hr];rw [zh hi,zh hib];by_cases e:a[i]=b[i]
   ·simp only [e,decide_true,yW,yf,if_false,List.cons.injEq,true_and]
   ·simp only [e,decide_false,ui,if_true,List.cons.injEq,false_and]
  ·simp [zaQ.l1,h]
 ·rw [if_pos (by simp;omega)];have:¬ a=b:=λe=>h (by rw [e])
  simp [this]
theorem zpH {n r c f b} (hl:r.terms.length<1000000) (hn:1000000≤n):zdn n r c f b=some (decide (r=(⟨[⟨c,f⟩],b⟩:Row))):=by
 unfold zdn;rw [ziF hl hn,ya];congr 1;rw [Bool.eq_iff_iff];cases r;simp
theorem zkW {n a b} (hl:a.terms.length<1000000) (hn:1000000≤n):zct n a b=some (decide (a=b)):=by
 unfold zct;rw [zl5 hl hn];simp only [yk,yC,grd,if_true,yh];congr 1;rw [Bool.eq_iff_iff];cases a;cases b;simp [and_comm]
structure SmallM (m:Model):Prop where
 sorts:m.sorts.length≤8
 tables:m.tables.length≤6
 tab:∀ t∈m.tables,t.name.length≤40∧t.columns.length≤12
 families:m.families.length≤20
 fam:∀ s∈m.families,s.length≤40
 constraints:m.constraints.length≤60
 con:∀ c∈m.constraints,c.row.terms.length≤20
 operations:m.operations.length≤8
 op:∀ o∈m.operations,o.name.length≤40∧o.sorts.length≤6
 actions:m.actions.length≤30
 act:∀ a∈m.actions,a.arguments.length≤6∧a.effect.delta.length≤20∧a.effect.hold.length≤10∧a.effect.updates.length≤40∧∀ r∈a.effect.hold,r.terms.length≤20
 hides:m.hides.length≤12
def zda (l:List Range) (i:Nat):Row:=⟨[⟨((i / 2:Nat):Int),if i % 2=0 then -1 else 1⟩],if i % 2=0 then neg64 ((idx l ((i / 2:Nat):Int)).getD default).lo else ((idx l ((i / 2:Nat):Int)).getD default).hi⟩
def famP (m:Model) (c:Constraint):Bool:=decide (0≤c.family)&&decide (c.family<(m.families.length:Int))
def zec (K:Nat) (c:Constraint):Bool:=(((c.kind==0)&&(c.first==0))&&(c.size==0))&&rowOK K c.row
def acyP (m:Model) (c:Constraint):Bool:=c.kind==1&&zgi m c
def conP (m:Model) (l:List Range) (i:Nat) (c:Constraint):Bool:=famP m c&&(zec l.length c||acyP m c)&&(!decide (i / 2<l.length)||(c.kind==0&&decide (c.row=zda l i)))
def consP (m:Model) (l:List Range):Bool:=decide (m.constraints.length≤512)&&decide (2*l.length≤m.constraints.length)&&allR (λi=>conP m l i ((idx m.constraints (i:Int)).getD default)) 0 m.constraints.length
theorem quo2 {i:Nat} (h:i<1000000):quo64 (i:Int) 2=some ((i / 2:Nat):Int):=by
 unfold quo64;rw [if_neg (by decide),Int.tdiv_eq_ediv_of_nonneg (by omega),zed (by omega) (by omega)];congr 1
theorem rem2 {i:Nat}:rem64 (i:Int) 2=some ((i % 2:Nat):Int):=by
 unfold rem64;rw [if_neg (by decide),Int.tmod_eq_emod_of_nonneg (by omega)];congr 1
theorem mul2 {i:Nat} (h:i<1000000):mul64 2 (i:Int)=((2*i:Nat):Int):=by
 unfold mul64;rw [zed (by omega) (by omega)];omega
theorem zgS {n:Nat} {m} {l:List Range} (hS:SmallM m) (hc:∀ t∈m.tables,t.columns.all (colOK m.sorts)=true) (hK:l.length<100000) (hn:1000000≤n):zad n ⟨m,l⟩=some (consP m l):=by
 have hcl:=hS.constraints;have htl:=hS.tables;unfold zad consP;simp only [mul2 (show l.length<1000000 by omega)];by_cases h0:(decide (m.constraints.length≤512)&&decide (2*l.length≤m.constraints.length))=true
 ·rw [h0,yA];simp only [yc,ye] at h0;rw [if_neg (by simp;omega)];have:=zd0 (body:=zad.l1 n ⟨m,l⟩) (len:=m.constraints.length) (n:=n) (st:=λi=>(i:Int)) (λi=>conP m l i ((idx m.constraints (i:Int)).getD default)) (some false) (some true) (λrec i hi=>?_) (λrec=>?_) (by omega)
  ·simp only [Int.natCast_zero] at this;rw [this];cases allR (λi=>conP m l i ((idx m.constraints (i:Int)).getD default)) 0 m.constraints.length <;> rfl
  ·have hterms:=hS.con _ (yj hi);simp only [zad.l1,jn,zn hi,if_true,za hi,ya,zas,yh,ziW (j:=⟨m,l⟩) (r:=m.constraints[i].row) (show m.constraints[i].row.terms.length<1000000 by omega) hn,zkH (j:=⟨m,l⟩) (c:=m.constraints[i]) hc (show m.tables.length<1000000 by omega) hn,yk,yC,grd,quo2 (show i<1000000 by omega),rem2,zpH (r:=m.constraints[i].row) (show m.constraints[i].row.terms.length<1000000 by omega) hn,zd (i:=i) (by omega)];have hfam:(decide (0≤m.constraints[i].family)&&decide (m.constraints[i].family<(m.families.length:Int)))=famP m m.constraints[i]:=rfl;rw [hfam];cases hf:famP m m.constraints[i] with
   | false=>simp [conP,hf]
   | true=>
    simp only [yW,yf,if_false];have hrest:∀ (X:Bool),X=(zec l.length m.constraints[i]||acyP m m.constraints[i]) →
      (if X=true then (if decide (((i / 2:Nat):Int)<(l.length:Int))=true then (idx l ((i / 2:Nat):Int)).bind λx81=>(if (((i % 2:Nat):Int)==0)=true then (if (m.constraints[i].kind != 0||!decide (m.constraints[i].row=(⟨[⟨((i / 2:Nat):Int),-1⟩],neg64 x81.lo⟩:Row)))=true then some false else rec ((i+1:Nat):Int)) else (if (m.constraints[i].kind != 0||!decide (m.constraints[i].row=(⟨[⟨((i / 2:Nat):Int),1⟩],x81.hi⟩:Row)))=true then some false else rec ((i+1:Nat):Int))) else rec ((i+1:Nat):Int)) else some false)=if conP m l i m.constraints[i]=true then rec ((i+1:Nat):Int) else some false:=by
     intro X hX;unfold conP;rw [hf,← hX];cases X with
     | false=>simp
     | true=>
      simp only [if_true,yA];by_cases hlt:i / 2<l.length
      ·rw [if_pos (zgo hlt),za hlt,ya];simp only [hlt,decide_true,yW,ue,zda,za hlt,yh];by_cases hm:i % 2=0
       ·rw [if_pos (by simp [hm])];simp only [hm,if_true];cases hkk:(m.constraints[i].kind==0) <;> simp [bne,hkk]
       ·rw [if_neg (by simp;omega)];simp only [hm,if_false];cases hkk:(m.constraints[i].kind==0) <;> simp [bne,hkk]
      ·rw [if_neg (by rw [zeP (by omega)];simp)];simp [hlt]
    by_cases hk:m.constraints[i].kind=0
    ·rw [if_pos (by simp [hk])];have hX:(zec l.length m.constraints[i]||acyP m m.constraints[i])=((m.constraints[i].first==0&&m.constraints[i].size==0)&&rowOK l.length m.constraints[i].row):=by
      simp [zec,acyP,hk]
     rw [← hrest _ hX.symm];cases h1:(m.constraints[i].first==0) <;> cases h2:(m.constraints[i].size==0) <;> cases h3:rowOK l.length m.constraints[i].row <;> simp [bne,h1,h2]
    ·rw [if_neg (by simp [hk])];have hX:(zec l.length m.constraints[i]||acyP m m.constraints[i])=(m.constraints[i].kind==1&&zgi m m.constraints[i]):=by
      simp [zec,acyP,hk]
     rw [← hrest _ hX.symm];cases h1:(m.constraints[i].kind==1) <;> cases h3:zgi m m.constraints[i] <;> simp [bne,h1]
  ·simp [zad.l1]
 ·rw [if_pos (by
   simp only [yc,ye] at h0;simp only [yz,ye];omega)]
  simp only [yF] at h0;rw [h0,yU]
theorem zoS {m l} (h2:2*l.length≤m.constraints.length) :
  allR (λi=>conP m l i ((idx m.constraints (i:Int)).getD default)) 0 m.constraints.length=(allR (λi=>decide (((idx m.constraints ((2*i:Nat):Int)).getD default).row=zda l (2*i))&&decide (((idx m.constraints ((2*i+1:Nat):Int)).getD default).row=zda l (2*i+1))) 0 l.length
   && allR (λi=>famP m ((idx m.constraints (i:Int)).getD default)&&(zec l.length ((idx m.constraints (i:Int)).getD default)||(decide (2*l.length≤i)&&acyP m ((idx m.constraints (i:Int)).getD default)))) 0 m.constraints.length):=by
 rw [Bool.eq_iff_iff,yc,zht,zht,zht];constructor
 ·intro h;refine ⟨λj hj=>?_,λi hi=>?_⟩
  ·have ha:=h (2*j) (by omega);have hb:=h (2*j+1) (by omega);simp only [conP,yc,yz,yG,yM,ye] at ha hb ⊢;rcases ha.2 with e | e
   ·omega
   rcases hb.2 with f | f
   ·omega
   exact ⟨e.2,f.2⟩
  ·have ha:=h i hi;simp only [conP,yc,yz,yG,yM,ye] at ha ⊢;refine ⟨ha.1.1,?_⟩;rcases ha.1.2 with e | e
   ·exact .inl e
   ·refine .inr ⟨?_,e⟩;rcases ha.2 with f | f
    ·omega
    ·simp only [acyP,yc,beq_iff_eq] at e;have:=f.1;simp only [beq_iff_eq] at this;omega
 ·rintro ⟨ha,hb⟩ i hi;have hb:=hb i hi;simp only [conP,yc,yz,yG,yM,ye] at hb ⊢;refine ⟨⟨hb.1,hb.2.imp id (·.2)⟩,?_⟩;by_cases hlt:i / 2<l.length
  ·right;have ha:=ha (i / 2) hlt;simp only [yc,ye] at ha;rcases hb.2 with e | e
   ·refine ⟨?_,?_⟩
    ·simp only [zec,yc] at e;exact e.1.1.1
    ·by_cases hm:i % 2=0
     ·have:=ha.1
      rwa [show 2*(i / 2)=i by omega] at this
     ·have:=ha.2
      rwa [show 2*(i / 2)+1=i by omega] at this
   ·omega
  ·exact .inl hlt
theorem zgU {n:Nat} {m} (hS:SmallM m) (hL:zaN m.sorts m.tables=true) (hn:1000000≤n):zZ n m=some (consP m (zI m.sorts true m.tables)):=by
 have hcl:=hS.constraints;have htl:=hS.tables;have hsl:=hS.sorts;obtain ⟨l1,l2,l3,l4⟩:=zbn hL;have hlen:=zcJ (sizes:=m.sorts) (s:=true) (l:=m.tables) λx hx=>(l4 x hx).2.2.2.2
 unfold zZ zcm consP;rw [zey hn (by omega) (by omega) (λt ht=>by have:=hS.tab t ht;omega),hL,if_pos rfl];generalize zI m.sorts true m.tables=l at hlen;simp only [ya,mul2 (show l.length<1000000 by omega)];by_cases h0:(decide (m.constraints.length≤512)&&decide (2*l.length≤m.constraints.length))=true
 ·rw [h0,yA];simp only [yc,ye] at h0;rw [if_neg (by simp;omega),zoS h0.2];have first:=zd0 (body:=zZ.l1 n m l) (len:=l.length) (n:=n) (st:=λi=>(i:Int)) (λi=>decide (((idx m.constraints ((2*i:Nat):Int)).getD default).row=zda l (2*i))&&decide (((idx m.constraints ((2*i+1:Nat):Int)).getD default).row=zda l (2*i+1))) (some false) (loopF (zZ.l2 n m l) n 0) (λrec i hi=>?_) (λrec=>?_) (by omega)
  ·simp only [Int.natCast_zero] at first
   rw [first];have second:=zd0 (body:=zZ.l2 n m l) (len:=m.constraints.length) (n:=n) (st:=λi=>(i:Int)) (λi=>famP m ((idx m.constraints (i:Int)).getD default)&&(zec l.length ((idx m.constraints (i:Int)).getD default)||(decide (2*l.length≤i)&&acyP m ((idx m.constraints (i:Int)).getD default)))) (some false) (some true) (λrec i hi=>?_) (λrec=>?_) (by omega)
   ·simp only [Int.natCast_zero] at second;rw [second];cases allR (λi=>decide (((idx m.constraints ((2*i:Nat):Int)).getD default).row=zda l (2*i))&&decide (((idx m.constraints ((2*i+1:Nat):Int)).getD default).row=zda l (2*i+1))) 0 l.length <;> cases allR (λi=>famP m ((idx m.constraints (i:Int)).getD default)&&(zec l.length ((idx m.constraints (i:Int)).getD default)||(decide (2*l.length≤i)&&acyP m ((idx m.constraints (i:Int)).getD default)))) 0 m.constraints.length <;> rfl
   ·have hterms:=hS.con _ (yj hi);have hd:decide (mul64 2 (l.length:Int)≤(i:Int))=decide (2*l.length≤i):=by rw [mul2 (by omega)];exact decide_eq_decide.2 (by omega)
    simp only [zZ.l2,zn hi,if_true,za hi,ya,yh,zld (r:=m.constraints[i].row) (show m.constraints[i].row.terms.length<1000000 by omega) hn,zmL (m:=m) (c:=m.constraints[i]) (λt ht=>(l4 t ht).2.2.2.1) (show m.tables.length<1000000 by omega) hn,yk,yC,grd,zd (i:=i) (by omega),hd];have hfam:(decide (m.constraints[i].family<0)||decide ((m.families.length:Int)≤m.constraints[i].family)) = !famP m m.constraints[i]:=by
     unfold famP;rw [Bool.not_and,← decide_not,← decide_not];congr 1
     ·exact decide_eq_decide.2 (by omega)
     ·exact decide_eq_decide.2 (by omega)
    rw [hfam];cases famP m m.constraints[i] with
    | false=>simp
    | true=>
     have hp:((((m.constraints[i].kind==0)&&(m.constraints[i].first==0))&&(m.constraints[i].size==0))&&rowOK l.length m.constraints[i].row)=zec l.length m.constraints[i]:=rfl;rw [hp];unfold acyP;cases zec l.length m.constraints[i] <;> cases decide (2*l.length≤i) <;> cases (m.constraints[i].kind==1) <;> cases zgi m m.constraints[i] <;> simp
   ·simp [zZ.l2]
  ·have h2i:2*i<m.constraints.length:=by omega
   have h2j:2*i+1<m.constraints.length:=by omega
   have t1:=hS.con _ (yj h2i);have t2:=hS.con _ (yj h2j);have e1:zda l (2*i)=⟨[⟨(i:Int),-1⟩],neg64 l[i].lo⟩:=by
    unfold zda;rw [show 2*i / 2=i by omega,if_pos (by omega),if_pos (by omega),za hi];rfl
   have e2:zda l (2*i+1)=⟨[⟨(i:Int),1⟩],l[i].hi⟩:=by
    unfold zda;rw [show (2*i+1) / 2=i by omega,if_neg (by omega),if_neg (by omega),za hi];rfl
   have hadd:add64 ((2*i:Nat):Int) 1=((2*i+1:Nat):Int):=zd (by omega);simp only [zZ.l1,zn hi,if_true,za hi,mul2 (show i<1000000 by omega),za h2i,hadd,za h2j,ya,yh,zkW (show m.constraints[2*i].row.terms.length<1000000 by omega) hn,zkW (show m.constraints[2*i+1].row.terms.length<1000000 by omega) hn,yk,yC,grd,zd (i:=i) (by omega),e1,e2];cases decide (m.constraints[2*i].row=⟨[⟨(i:Int),-1⟩],neg64 l[i].lo⟩) <;> cases decide (m.constraints[2*i+1].row=⟨[⟨(i:Int),1⟩],l[i].hi⟩) <;> simp
  ·simp [zZ.l1]
 ·rw [if_pos (by
   simp only [yc,ye] at h0;simp only [yz,ye];omega)]
  simp only [yF] at h0;rw [h0,yU]
theorem zaJ {α S R:Type} {body:(S→Option R)→S→Option R} {l:List α} {n:Nat} {st:Nat→S} (p:α→Bool) (F T:Option R)
  (hb:∀ rec i (hi:i<l.length),body rec (st i)=if p l[i]=true then rec (st (i+1)) else F) (he:∀ rec,body rec (st l.length)=T) (hn:l.length<n):loopF body n (st 0)=if l.all p=true then T else F:=by
 have:=zT (body:=body) (len:=l.length) (st:=st) (g:=λi=>if (l.drop i).all p=true then T else F) (λrec i hi hr=>?_) (λrec=>?_) n 0 (yp _) (by omega)
 ·simpa using this
 ·rw [hb rec i hi,zh hi,uw,hr];cases p l[i] <;> simp
 ·rw [he];simp
def zcC (sizes:List Int) (c:Int):Int:=sizes.getD c.toNat 0
def digR (sizes:List Int):List Int→Int→List Int
 | [],_=>[]
 | c::l,k=>k.tmod (zcC sizes c)::digR sizes l (w64 (k.tdiv (zcC sizes c)))
def zn0 (sizes cols:List Int) (k:Int):List Int:=(digR sizes cols.reverse k).reverse
theorem zhW {sizes:List Int} (hs:sizes.all zbm=true) {c:Int} (hc:colOK sizes c=true):1≤zcC sizes c∧zcC sizes c≤6:=by
 simp only [colOK,yc,ye] at hc;obtain ⟨k,rfl⟩:=yS hc.1;have hk:k<sizes.length:=by omega
 have hz:=yr.1 hs _ (yj hk);simp only [zbm,yc,ye] at hz;have hg:zcC sizes (k:Int)=sizes[k]:=by simp [zcC,List.getD,hk]
 rw [hg];exact hz
theorem zpJ {r:Nat} {done:List Int} {x:Int}:sto (List.replicate (r+1) 0++done) (r:Int) x=some (List.replicate r 0++x::done):=by
 unfold sto;rw [if_pos (by simp;omega)];simp only [yx,yi];rw [List.replicate_succ',yT,List.set_append_right _ _ (by simp)];simp
theorem zo5 {r:Nat} {done:List Int}:∃ x,idx (List.replicate (r+1) 0++done) (r:Int)=some x:=⟨_,za (by simp;omega)⟩
theorem znY {α:Type} {l:List α} {r:Nat} (h:r<l.length):(l.take (r+1)).reverse=l[r]::(l.take r).reverse:=by
 rw [yv h];simp
theorem ziR {n:Nat} {sizes:List Int} {t:Table} {i:Int} (hs:sizes.all zbm=true) (hc:t.columns.all (colOK sizes)=true) (hl:t.columns.length<1000000):∀ (m r:Nat) (done:List Int) (k:Int),r<m→r≤t.columns.length →
  loopF (za5.l2 n sizes i t) m (List.replicate r 0++done,k,(r:Int) - 1)=some (i,(digR sizes (t.columns.take r).reverse k).reverse++done,true)
 | 0,_,_,_,h,_=>by omega
 | m+1,0,done,k,_,_=>by simp [loopF,za5.l2,digR]
 | m+1,r+1,done,k,h,hr=>by
  have hrl:r<t.columns.length:=by omega
  have hcol:=yr.1 hc _ (yj hrl);have hsz:=zhW hs hcol;have e:(((r+1:Nat):Int)) - 1=(r:Int):=by omega
  obtain ⟨x,hx⟩:=zo5 (r:=r) (done:=done);have hrem:rem64 k (zcC sizes t.columns[r])=some (k.tmod (zcC sizes t.columns[r])):=by unfold rem64;rw [if_neg (by omega)]
  have hquo:quo64 k (zcC sizes t.columns[r])=some (w64 (k.tdiv (zcC sizes t.columns[r]))):=by unfold quo64;rw [if_neg (by omega)]
  have hcs:=zdu hcol;have hsub:sub64 (r:Int) 1=(r:Int) - 1:=by unfold sub64;rw [zed (by omega) (by omega)]
  have hd:decide (0≤(r:Int))=true:=by simp
  unfold zcC at hrem hquo;simp only [loopF,za5.l2,e,hd,if_true,za hrl,hcs,hrem,hquo,hx,zpJ,ya,hsub];rw [ziR hs hc hl m r _ _ (by omega) (by omega),znY hrl];simp only [digR,zcC,List.reverse_cons,yT,List.singleton_append]
theorem zlc {n:Nat} {sizes cols:List Int} (hs:sizes.all zbm=true) (hc:cols.all (colOK sizes)=true) (hl:cols.length<1000000):∀ (m r:Nat) (done:List Int) (k:Int),r<m→r≤cols.length →
  loopF (zdC.l1 n sizes cols) m (List.replicate r 0++done,k,(r:Int) - 1)=some ((digR sizes (cols.take r).reverse k).reverse++done)
 | 0,_,_,_,h,_=>by omega
 | m+1,0,done,k,_,_=>by simp [loopF,zdC.l1,digR]
 | m+1,r+1,done,k,h,hr=>by
  have hrl:r<cols.length:=by omega
  have hcol:=yr.1 hc _ (yj hrl);have hsz:=zhW hs hcol;have e:(((r+1:Nat):Int)) - 1=(r:Int):=by omega
  obtain ⟨x,hx⟩:=zo5 (r:=r) (done:=done);have hrem:rem64 k (zcC sizes cols[r])=some (k.tmod (zcC sizes cols[r])):=by unfold rem64;rw [if_neg (by omega)]
  have hquo:quo64 k (zcC sizes cols[r])=some (w64 (k.tdiv (zcC sizes cols[r]))):=by unfold quo64;rw [if_neg (by omega)]
  have hcs:=zdu hcol;have hsub:sub64 (r:Int) 1=(r:Int) - 1:=by unfold sub64;rw [zed (by omega) (by omega)]
  have hd:decide (0≤(r:Int))=true:=by simp
  unfold zcC at hrem hquo;simp only [loopF,zdC.l1,e,hd,if_true,za hrl,hcs,hrem,hquo,hx,zpJ,ya,hsub];rw [zlc hs hc hl m r _ _ (by omega) (by omega),znY hrl];simp only [digR,zcC,List.reverse_cons,yT,List.singleton_append]
theorem mkl_0 {b k:Nat} (h:k*b≤140737488355328):mkl b (k:Int) (0:Int)=some (List.replicate k 0):=by
 have e:((k*b:Nat):Int)=(k:Int)*(b:Int):=uj k b;unfold mkl;rw [if_pos ⟨by omega,by omega⟩];simp
theorem zmS {k:Nat} (h:k<1000000):sub64 (k:Int) 1=(k:Int) - 1:=by
 unfold sub64;rw [zed (by omega) (by omega)]
theorem zmH {n:Nat} {sizes cols:List Int} {k:Int} (hs:sizes.all zbm=true) (hc:cols.all (colOK sizes)=true) (hl:cols.length≤1000) (hn:1000000≤n):zdC n sizes cols k=some (zn0 sizes cols k):=by
 unfold zdC;rw [mkl_0 (by omega),ya,zmS (by omega)];have:=zlc (n:=n) hs hc (by omega) n cols.length [] k (by omega) (yn _);simpa [zn0] using this
def hitP (sizes:List Int) (s:Bool) (cell:Int) (t:Table):Bool:=(zaw t.kind==s)&&(decide (0≤sub64 cell t.first)&&decide (sub64 cell t.first<zac sizes t.columns 1))
def resT (sizes:List Int) (s:Bool) (cell:Int):List Table→Nat→Int×List Int×Bool
 | [],_=>(0,[],false)
 | t::l,i=>if hitP sizes s cell t=true then ((i:Int),zn0 sizes t.columns (sub64 cell t.first),true) else resT sizes s cell l (i+1)
def cellP (sizes:List Int) (tables:List Table) (s:Bool) (cell:Int):Int×List Int×Bool:=if (zaN sizes tables&&decide (0≤cell))=true then resT sizes s cell tables 0 else (0,[],false)
theorem zkw {n:Nat} {sizes:List Int} {tables:List Table} {s:Bool} {cell:Int} (hF:Fuel n) (hs:sizes.length≤1000) (ht:tables.length≤1000) (hc:∀ t∈tables,t.columns.length≤1000):za5 n sizes tables s cell=some (cellP sizes tables s cell):=by
 have hn:=hF.big;unfold za5 cellP;rw [ze0 hF hs ht hc,ya];cases hL:zaN sizes tables with
 | false=>simp
 | true=>
  obtain ⟨l1,l2,l3,l4⟩:=zbn hL;by_cases h0:0≤cell
  ·rw [if_neg (by simp;omega),if_pos (by simp [h0])];have:=zT (body:=za5.l1 n sizes tables s cell) (len:=tables.length) (st:=λi=>(i:Int)) (g:=λi=>some (resT sizes s cell (tables.drop i) i)) (λrec i hi hr=>?_) (λrec=>?_) n 0 (yp _) (by omega)
   ·simpa using this
   ·obtain ⟨-,-,c1,c2,c3,c4⟩:=l4 _ (yj hi);simp only [za5.l1,zn hi,if_true,za hi,ya,zb4,ze2 c2 (show tables[i].columns.length<4611686018427387904 by omega) (show tables[i].columns.length<n by omega),yk,yC,grd,yh,zd (i:=i) (by omega),hr,mkl_0 (b:=8) (k:=tables[i].columns.length) (by omega),y0,zmS (show tables[i].columns.length<1000000 by omega)];have hdig:=ziR (n:=n) (i:=(i:Int)) l3 c2 (by omega) n tables[i].columns.length [] (sub64 cell tables[i].first) (by omega) (yn _);simp only [ur,List.take_length] at hdig;rw [hdig,zh hi,resT];have hh:(((tables[i].kind==0||tables[i].kind==1) != s||decide (sub64 cell tables[i].first<0))||decide (zac sizes tables[i].columns 1≤sub64 cell tables[i].first)) = !hitP sizes s cell tables[i]:=by
     unfold hitP zaw;rw [Bool.not_and,Bool.not_and,← decide_not,← decide_not,Bool.or_assoc];congr 1;congr 1
     ·exact decide_eq_decide.2 (by omega)
     ·exact decide_eq_decide.2 (by omega)
    rw [hh];cases hitP sizes s cell tables[i] <;> simp [zn0]
   ·simp [za5.l1,resT]
  ·rw [if_pos (by simp;omega),if_neg (by simp;omega)]
theorem zkJ {n:Nat} {sizes:List Int} {tables:List Table} {s:Bool} {cell:Int} (hn:1000000≤n) (hs:sizes.length≤1000) (ht:tables.length≤1000) (hc:∀ t∈tables,t.columns.length≤1000∧t.name.length≤4096):zcs n sizes tables s cell=some (cellP sizes tables s cell):=by
 unfold zcs cellP;rw [ze8 hn hs ht hc,ya];cases hL:zaN sizes tables with
 | false=>simp
 | true=>
  obtain ⟨l1,l2,l3,l4⟩:=zbn hL;rw [if_neg (by simp)];have:=zT (body:=zcs.l1 n sizes tables s cell) (len:=tables.length) (st:=λi=>(i:Int)) (g:=λi=>some (if decide (0≤cell)=true then resT sizes s cell (tables.drop i) i else (0,[],false))) (λrec i hi hr=>?_) (λrec=>?_) n 0 (yp _) (by omega)
  ·simpa using this
  ·obtain ⟨-,-,c1,c2,c3,c4⟩:=l4 _ (yj hi);have hnum:=zez (n:=n) (sizes:=sizes) (cols:=tables[i].columns) (by omega) (by omega) (by omega) (by omega);simp only [l3,c2,c1,decide_true,uC,if_true] at hnum;simp only [zcs.l1,zn hi,if_true,za hi,ya,zb0,hnum,yk,yC,grd,yh,zd (i:=i) (by omega),hr,zmH l3 c2 (show tables[i].columns.length≤1000 by omega) hn];rw [zh hi,resT];unfold hitP zaw;cases decide (0≤cell) with
   | false=>simp
   | true=>
    simp only [if_true,uC];by_cases h1:((tables[i].kind==0||tables[i].kind==1)==s&&decide (0≤sub64 cell tables[i].first)&&decide (sub64 cell tables[i].first<zac sizes tables[i].columns 1))=true
    ·rw [if_pos h1,if_pos (by rw [← Bool.and_assoc];exact h1)]
    ·rw [if_neg h1,if_neg (by rw [← Bool.and_assoc];exact h1)]
  ·simp [zcs.l1,resT]
theorem zpy {sizes:List Int} {s:Bool} {cell:Int}:∀ (l:List Table) (i:Nat),(resT sizes s cell l i).2.2=true→∃ k:Nat,(resT sizes s cell l i).1=(k:Int)∧i≤k∧k<i+l.length
 | [],_,h=>by simp [resT] at h
 | t::l,i,h=>by
  rw [resT] at h ⊢;split at h
  ·rename_i hh;rw [if_pos hh];exact ⟨i,rfl,yn _,by simp⟩
  ·rename_i hh;rw [if_neg hh];obtain ⟨k,e,k1,k2⟩:=zpy l (i+1) h;exact ⟨k,e,by omega,by simp only [yQ];omega⟩
theorem zmc {sizes:List Int} {tables:List Table} {s:Bool} {cell:Int} (h:(cellP sizes tables s cell).2.2=true):∃ t,idx tables (cellP sizes tables s cell).1=some t:=by
 unfold cellP at h ⊢;split at h
 ·rename_i hh;rw [if_pos hh];obtain ⟨k,e,-,k2⟩:=zpy tables 0 h;rw [e];exact ⟨_,za (by omega)⟩
 ·simp at h
theorem zoM {sizes:List Int} {tables:List Table} {s:Bool} {cell:Int} (h:cell<0):(cellP sizes tables s cell).2.2=false:=by
 unfold cellP;rw [if_neg (by simp;omega)]
def updT (t:Table) (u:Update):Bool:=if (t.kind==2||t.kind==3)=true then ((u.kind==0)||(u.kind==1))&&(u.value==0) else ((u.kind==2)&&decide (t.range.lo≤u.value))&&decide (u.value≤t.range.hi)
def updP (m:Model) (u:Update):Bool:=(cellP m.sorts m.tables false u.cell).2.2&&updT ((idx m.tables (cellP m.sorts m.tables false u.cell).1).getD default) u
def updsP (m:Model):Int→List Update→Bool
 | _,[]=>true
 | last,u::l=>(decide (last<u.cell)&&updP m u)&&updsP m u.cell l
theorem zj5 {n:Nat} {m:Model} {l:List Range} {u:Update} (hF:Fuel n) (hS:SmallM m):zbx n ⟨m,l⟩ u=some (updP m u):=by
 unfold zbx updP;have hs:=hS.sorts;have ht:=hS.tables;simp only [];rw [zkw hF (by omega) (by omega) (λt h=>by have:=hS.tab t h;omega),ya];cases hok:(cellP m.sorts m.tables false u.cell).2.2 with
 | false=>simp
 | true=>
  obtain ⟨t,ht⟩:=zmc hok;simp only [ht,yW,yf,if_false,ya,yh,yA,jn,updT];by_cases h2:t.kind=2
  ·simp [h2]
  ·by_cases h3:t.kind=3
   ·simp [h3]
   ·simp [h2,h3]
def opP (m:Model) (o:Operation):Bool:=decide (o.sorts.length≤3)&&o.sorts.all λs=>decide (-1≤s)&&decide (s<(m.sorts.length:Int))
def opsP (m:Model):Bool:=m.operations.all (opP m)&&(decide (m.operations.length≤8)&&distP [] (m.operations.map (·.name)))
theorem zei {α β:Type} {f:α→β} {l:List α} {i:Nat} (hi:i<l.length):(l.take i).map f++[f l[i]]=(l.take (i+1)).map f:=by
 rw [yv hi,y8];rfl
theorem zhj {n:Nat} {m:Model} {l:List Range} (hF:Fuel n) (hS:SmallM m):zK n ⟨m,l⟩=some (opsP m):=by
 have hn:=hF.big;have hol:=hS.operations;unfold zK opsP;have:=zaJ (body:=zK.l1 n ⟨m,l⟩) (l:=m.operations) (n:=n) (st:=λi=>((m.operations.take i).map (·.name),(i:Int))) (opP m) (some false) (some (decide (m.operations.length≤8)&&distP [] (m.operations.map (·.name)))) (λrec i hi=>?_) (λrec=>?_) (by omega)
 ·simp only [List.take_zero,List.map_nil,Int.natCast_zero] at this;rw [this];cases m.operations.all (opP m) <;> rfl
 ·have hop:=hS.op _ (yj hi);simp only [zK.l1,zn hi,if_true,za hi,ya];rw [zam (by simp;omega),ya,zc2 (p:=λs=>!(decide (-1≤s)&&decide (s<(m.sorts.length:Int)))) (λx _=>by
   simp only [za1,yi,Bool.not_and,← decide_not];congr 1
   ·exact decide_eq_decide.2 (by omega)
   ·exact decide_eq_decide.2 (by omega)) (by omega) (by omega)]
  simp only [yk,yC,grd,if_true,yh,zd (i:=i) (by omega),zei hi];have h3:decide (3<(m.operations[i].sorts.length:Int)) = !decide (m.operations[i].sorts.length≤3):=by rw [← decide_not];exact decide_eq_decide.2 (by omega)
  rw [h3,← Bool.not_not (m.operations[i].sorts.any _),zjA,← Bool.not_and];unfold opP;cases (decide (m.operations[i].sorts.length≤3)&&m.operations[i].sorts.all λs=>decide (-1≤s)&&decide (s<(m.sorts.length:Int))) <;> rfl
 ·simp only [zK.l1,zaq,yf,if_false,List.take_length];rw [zfo hF (by simp;omega)];simp only [yk,yC,grd,if_true,yh,yH,yi];congr 1;exact decide_eq_decide.2 (by omega)
end Go.Proofs.YtehefbidnkfciaaGreatDoor
