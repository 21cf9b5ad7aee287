/- Part of the proof of one law of the seat. -/
import Derived.Test.YtipkniadbkndfaaGreatDoorFr10
import Derived.Test.YtipkniadbkndfaaGreatDoorFr10b
set_option linter.unusedVariables false
set_option linter.unusedSectionVars false
set_option linter.unusedSimpArgs false
set_option maxRecDepth 100000
set_option maxHeartbeats 40000000
namespace Go.Proofs.YtipkniadbkndfaaGreatDoor
open Go Go.RowKit
section
set_option maxRecDepth 100000
set_option maxHeartbeats 40000000
abbrev wE6:=(.box 91 [.d (.int 0),.d (.int 0),.d (eB []),.d (.int 0),.d (.sl 3 (List.map Step.enc [])),.d (.int 0),.d (.int 0),.d (.sl 5 (List.map Tree.enc [])),.d (.int 0)]:Blk)
abbrev wE7 a b c d e:=(.box 132 [.d (eC a),.d (eL b),.d (eM c),.d (eN d),.d (eL b),.d (.int e),.d (.int 0)]:Blk)
abbrev wE8:=(.box 134 [.d (.osl 1 (List.map D.int [])),.d (.int 0),.d (.int 0),.d (.sl 3 (List.map Step.enc [])),.d (.int 0),.d (.int 0),.d (.sl 5 (List.map Tree.enc []))]:Blk)
theorem zkI (n t0 t1 r) (h:zfG n t0 t1=some r):Pure pg 27 [System.enc t0,.int t1] (.tup [Answer.enc r.1,.int r.2]):=by
 have:HS 26:=⟨⟩
 have:HA 6:=⟨⟩
 have:HS 6:=⟨⟩
 refine Pure.ot Tryz.func27 I Tryz.ntmps27 I λA w=>.S 1 I<|.zuh I I I I (.agg Zc91 (ds':=[.int 0,.int 0,eB [],.int 0,.sl 3 (List.map Step.enc []),.int 0,.int 0,.sl 5 (List.map Tree.enc []),.int 0]) (.e (.e (.o (.e (.o (.e (.e (.o .e1))))))))) I<|.A 1 I<|.nil<|.seq<|.block<|.S 1 I<|.Z h I (system_Valid_ok _ _) λx1 h=>.A 2 I<|.nil<|.ztJ I h (λh=>?_) λh=>?_
 ·exact walk h
 ·refine .seq<|.plain 6 I<|.A 3 I<|.jO 2 (decide (65536<t1)) I (λb2=>?_) ?_
  ·exact walk h
  refine .nil<|.A 1 I<|.nil<|.ztJ I h (λh=>?_) λh=>?_
  ·exact walk h
  ·refine .skip<|.S 4 I<|.p I (.B (ztY.enc ⟨t0,t0.rows,t1,0⟩) Zc132 I)<|.box I I I I I (.ofD I)<|.zuh I I I I (.val Zv130) I<|.store I I I I I I (.cons (.loc I) .nil) C130 I (yq I)<|.nil<|.K [1,2,4,6] I<|.sr<|.zuh I I I I (.agg zwX (ds':=[.osl 1 (List.map D.int []),.int 0,.int 0,.sl 3 (List.map Step.enc []),.int 0,.int 0,.sl 5 (List.map Tree.enc [])]) (.cons (.onil _) (.e (.e (.o (.e (.e .o1))))))) I<|.nil<|.seq<|.sr<|.p I (.zuS I I)<|.guardC zpc I I I I (zt3 I) (zt3 I) Tryz.func71 I Tryz.ntmps71 I I I I (λA0 own0 w gh=>?_)
   refine bK h λx3 q3 h=>.drawB 6 Hm I<|.via 2 (bN 6 15) ⟨[(2,.loc 3 0),(3,.loc 1 0),(6,.vec 4 (List.length x3))],[wE6,wE7 t0.box t0.rows t0.ztA t0.cases t1,.box 130 [.loc 1 0],wE8,.vec 83 2 (List.map Range.enc x3)]⟩ ?_ λsA0=>?_
   ·refine .lin 4 (by decide +kernel) I<|bK h λy_4 hy_4 h=> ?_
    obtain ⟨ey_4,h⟩ | ⟨x5,ey_4,h⟩:=ppkS h
    ·subst ey_4
     refine .zyn (bi:=1) (vi:=4) (zdg n _ _ _ _ hy_4) I I I (.stat I (zt3 I) I) I (yK _).symm I I (λcs2=>?_)
     refine .inr ⟨I,?_⟩
     refine .A 1 I<|.nil ?_
     refine .zxV I<|.S 1 I<|.p I (.zv9 (Answer.enc (⟨2,0,[],(⟨0,[],0,0,[]⟩:Tree),t1⟩:Answer)) (by simp only [Answer.enc,Tree.zut,Tree.enc] <;> rfl) (.build I Pl91 (.agg Zc91 (ds':=[_,_,eB [],_,.sl 3 (List.map Step.enc []),_,_,.sl 5 (List.map Tree.enc []),_]) (.e (.e (.o (.e (.o (.e (.e (.o .e1))))))))) I I))<|.so I<|.A 1 I<|.nil<|.ret ?_
     cases h
     exact zeo I I Y91 (.v (.v (.v (.v (.v (.v (.v (.v .v1)))))))) I (.d _)
    ·subst ey_4
     refine .zyo (bi:=1) (vi:=4) (zdg n _ _ _ _ hy_4) I I I (.stat I (zt3 I) I) I (yK _).symm I I<|.so I<|.nil<|.inl ⟨.inr I,?_⟩
     refine .A 1 I<|.nil<|.K [1,4,6,7,29] I<|.zw0 I<|.skip<|.seq<|.S 2 I<|.p I (.zye I U22 I)<|.nil<|.ztJ I h (λh=>?_) λh=>?_
     ·refine .seq<|.dr 9<|.A 3 I<|.p I (.leD ztg (.ztT I I I Y22 I))<|.A 4 I<|.p I (.zv9 (Answer.enc (⟨0,x5.1.index,x5.1.values,(⟨0,[],0,0,[]⟩:Tree),x5.2.cost⟩:Answer)) (by simp only [Answer.enc,Tree.zut,Tree.enc] <;> rfl) (.build I Pl91 (.agg Zc91 (ds':=[_,_,_,_,.sl 3 (List.map Step.enc []),_,_,.sl 5 (List.map Tree.enc []),_]) (.e (.e (.e (.e (.o (.e (.e (.o .e1))))))))) I I))<|.nil<|.so I<|.A 1 I<|.nil<|.ret ?_
      cases h
      exact zeo I I Y91 (.v (.v (.v (.v (.v (.v (.v (.v .v1)))))))) I (.d _)
     exact walk h
   refine .via 3 (bN 6 7) ⟨[(2,.loc 3 0),(3,.loc 1 0),(5,.d (eC t0.box))],[wE6,wE7 t0.box t0.rows t0.ztA t0.cases t1,.box 130 [.loc 1 0],wE8]⟩ ?_ λsA1=>?_
   ·refine .step 3 [] (by decide +kernel) (.cons (i:=3) I (.clone (enc:=Range.enc) I I I I (zt3 I) Tryz.func73 I I I I E80 I (λ_=>I) (λ_=>I) q3 I I (.nil ⟨I,I⟩)) ?_ .nil)
    exact .kt sA0 I
   refine .via 3 (bN 6 14) ⟨[(0,.loc 2 0),(2,.loc 3 0),(6,.vec 4 (List.length x3))],[wE6,wE7 t0.box t0.rows t0.ztA t0.cases t1,.box 130 [.loc 1 0],wE8,.vec 83 2 (List.map Range.enc x3)]⟩ ?_ λsA2=>?_
   ·refine .step 0 [] (by decide +kernel) (.cons (i:=0) I (.p I (.ztT I I I Y130 I) (.nil ⟨I,I⟩)) ?_ .nil)
    exact .kt sA0 I
   refine .via 4 (bN 6 3) ⟨[(2,.loc 3 0),(3,.loc 1 0),(4,.d (.ref (eC t0.box)))],[wE6,wE7 t0.box t0.rows t0.ztA t0.cases t1,.box 130 [.loc 1 0],wE8]⟩ ?_ λsA3=>?_
   ·refine .step 2 [] (by decide +kernel) (.cons (i:=2) I (.p I (.ld Y80 I) (.nil ⟨I,I⟩)) ?_ .nil)
    exact .kt sA1 I
   refine .via 4 (bN 6 6) ⟨[(0,.loc 2 0),(2,.loc 3 0),(5,.d (eC t0.box))],[wE6,wE7 t0.box t0.rows t0.ztA t0.cases t1,.box 130 [.loc 1 0],wE8]⟩ ?_ λsA4=>?_
   ·refine .step 0 [3] (by decide +kernel) (.cons (i:=0) I (.p I (.ztT I I I Y130 I) (.nil ⟨I,I⟩)) ?_ (.cons (i:=3) I (.clone (enc:=Range.enc) I I I I (zt3 I) Tryz.func73 I I I I E80 I (λ_=>I) (λ_=>I) q3 I I (.nil ⟨I,I⟩)) ?_ .nil))
    ·exact .kt sA1 I
    ·exact .kt sA2 I
   refine .via 5 (bN 6 1) ⟨[(1,.d (.ref (System.enc t0))),(2,.loc 3 0),(3,.loc 1 0)],[wE6,wE7 t0.box t0.rows t0.ztA t0.cases t1,.box 130 [.loc 1 0],wE8]⟩ ?_ λsA5=>?_
   ·refine .step 1 [] (by decide +kernel) (.cons (i:=1) I (.p I (.fa I (G87_0 _)) (.nil ⟨I,I⟩)) ?_ .nil)
    exact .kt sA3 I
   refine .via 5 (bN 6 2) ⟨[(0,.loc 2 0),(2,.loc 3 0),(4,.d (.ref (eC t0.box)))],[wE6,wE7 t0.box t0.rows t0.ztA t0.cases t1,.box 130 [.loc 1 0],wE8]⟩ ?_ λsA6=>?_
   ·refine .step 0 [2] (by decide +kernel) (.cons (i:=0) I (.p I (.ztT I I I Y130 I) (.nil ⟨I,I⟩)) ?_ (.cons (i:=2) I (.p I (.ld Y80 I) (.nil ⟨I,I⟩)) ?_ .nil))
    ·exact .kt sA3 I
    ·exact .kt sA4 I
   refine .step 0 [1] (by decide +kernel) (.cons (i:=0) I (.p I (.ztT I I I Y130 I) (.nil ⟨I,I⟩)) ?_ (.cons (i:=1) I (.p I (.fa I (G87_0 _)) (.nil ⟨I,I⟩)) ?_ .nil))
   ·exact .kt sA5 I
   ·exact .kt sA6 I
instance pair_Decide_1_ok:Kd1 28 zhU (λt0=>.ref (Answer.enc t0)) zuc.enc:=⟨λn t0 r h=>.ot Tryz.func28 I Tryz.ntmps28 I λ_ _=>walk h⟩
instance pair_Decide_2_ok:Kd1 29 zhV (λt0=>.ref (Answer.enc t0)) zuc.enc:=⟨λn t0 r h=>.ot Tryz.func29 I Tryz.ntmps29 I λ_ _=>walk h⟩
instance pair_Decide_3_ok:Kd0 30 zhW zuc.enc:=⟨λn r h=>.ot Tryz.func30 I Tryz.ntmps30 I λ_ _=>walk h⟩
theorem zkC (n t0 t1 t2 t3 r) (h:zbn n t0 t1 t2 t3=some r):Pure pg 10 [Model.enc t0,Question.enc t1,.int t2,eB t3] (.tup [zuc.enc r.1,.int r.2]):=by
 have:HA 15:=⟨⟩
 refine Pure.ot Tryz.func10 I Tryz.ntmps10 I λA w=>.S 2 I<|.zuh I I I I (.agg Zc42 (ds':=[.int 0,eB [],.int 0,.sl 3 (List.map Step.enc []),.int 0,.int 0,.sl 5 (List.map Tree.enc []),.int 0]) (.e (.o (.e (.o (.e (.e (.o .e1)))))))) I<|.A 1 I<|.nil<|.S 3 I<|.Z h I (condition_System_ok _ _ _ _) λx1 h=>.A 3 I<|.aS I<|.A 1 I<|.nil<|.seq<|.seq<|.plain 6 I<|.A 3 I<|.jO 2 (x1.2==2) I (λb2=>?_) ?_
 ·exact walk h
 refine .nil<|.nil<|.K [2,8,10,11,28] I<|.ztJ I h (λh=>?_) λh=>?_
 ·exact walk h
 ·refine .skip<|.seq<|.seq<|.plain 6 I<|.A 3 I<|.jO 2 (decide (65536<t2)) I (λb3=>?_) ?_
  ·exact walk h
  refine .nil<|.nil<|.ztJ I h (λh=>?_) λh=>?_
  ·exact walk h
  ·refine .skip<|.seq<|.sA 2 I<|.ztJ I h (λh=>?_) λh=>?_
   ·exact walk h
   ·refine .skip<|.S 2 I<|.Z h I (zkI _ _ _) λx4 h=>.A 3 I<|.aS I<|.A 1 I<|.nil<|.K [8,11,12] I<|.seq<|.sA 2 I<|.ztJ I h (λh=>?_) λh=>?_
    ·exact walk h
    ·refine .skip<|.sr<|.makeMap (λn:Int=>Value.int .i64 n) (λd:D=>d) I I I I<|.p I (.makeFunc I I)<|.zxy (k:=0) (v:=(.fn (.func 28) [] [.ref (Answer.enc x4.1)])) I I I U95 KT3 I I I I<|.p I (.makeFunc I I)<|.zxy (k:=1) (v:=(.fn (.func 29) [] [.ref (Answer.enc x4.1)])) I I I U95 KT3 I I I I<|.zxy (k:=2) (v:=(.fn (.func 30) [] [])) I I I U95 KT3 I I I I<|.A 2 I<|.nil<|.S 3 I ?_
     by_cases hq:(x4.1.kind==0)=true
     ·rw [if_pos hq] at h
      have hk_9:x4.1.kind=0:=by simpa using hq
      refine .p I (.zv9 (.fn (.func 28) [] [.ref (Answer.enc x4.1)]) (by rw [hk_9];rfl) (.zxx I U95 KT3 I I I (k:=x4.1.kind) (z:=D.val .nilFunc) (.val Zv94)))<|.A 1 I<|.nil<|.S 1 I<|bK h λx10 q10 h=>.p I (.dyn I I I ⟨_,_,I,K28,pair_Decide_1_ok _ _ _ q10⟩)<|.zuh I I I I (.agg Zc42 (ds':=[.int 0,eB [],.int 0,.sl 3 (List.map Step.enc []),.int 0,.int 0,.sl 5 (List.map Tree.enc []),.int 0]) (.e (.o (.e (.o (.e (.e (.o .e1)))))))) I<|.so I<|.nil<|.K [8,12,15] I<|.S 3 I<|.so I<|.nil<|.sr<|.p I (.zu2 I I I Y42 (yq I) (v:=.d (zuc.enc (⟨x10.kind,x10.state,x10.tree,x4.1.steps⟩:zuc))) I)<|.so I<|.A 1 I<|.nil<|.ret ?_
      cases h
      exact zeo I I Y42 (.v (.v (.v (.v (.v (.v (.v .v1))))))) I (.d _)
     ·rw [if_neg hq] at h
      by_cases hq:(x4.1.kind==1)=true
      ·rw [if_pos hq] at h
       have hk_7:x4.1.kind=1:=by simpa using hq
       refine .p I (.zv9 (.fn (.func 29) [] [.ref (Answer.enc x4.1)]) (by rw [hk_7];rfl) (.zxx I U95 KT3 I I I (k:=x4.1.kind) (z:=D.val .nilFunc) (.val Zv94)))<|.A 1 I<|.nil<|.S 1 I<|bK h λx8 q8 h=>.p I (.dyn I I I ⟨_,_,I,K29,pair_Decide_2_ok _ _ _ q8⟩)<|.zuh I I I I (.agg Zc42 (ds':=[.int 0,eB [],.int 0,.sl 3 (List.map Step.enc []),.int 0,.int 0,.sl 5 (List.map Tree.enc []),.int 0]) (.e (.o (.e (.o (.e (.e (.o .e1)))))))) I<|.so I<|.nil<|.K [8,12,15] I<|.S 3 I<|.so I<|.nil<|.sr<|.p I (.zu2 I I I Y42 (yq I) (v:=.d (zuc.enc (⟨x8.kind,x8.state,x8.tree,x4.1.steps⟩:zuc))) I)<|.so I<|.A 1 I<|.nil<|.ret ?_
       cases h
       exact zeo I I Y42 (.v (.v (.v (.v (.v (.v (.v .v1))))))) I (.d _)
      ·rw [if_neg hq] at h
       by_cases hq:(x4.1.kind==2)=true
       ·rw [if_pos hq] at h
        have hk_5:x4.1.kind=2:=by simpa using hq
        refine .p I (.zv9 (.fn (.func 30) [] []) (by rw [hk_5];rfl) (.zxx I U95 KT3 I I I (k:=x4.1.kind) (z:=D.val .nilFunc) (.val Zv94)))<|.A 1 I<|.nil<|.S 1 I<|bK h λx6 q6 h=>.p I (.dyn I I I ⟨_,_,I,K30,pair_Decide_3_ok _ _ q6⟩)<|.zuh I I I I (.agg Zc42 (ds':=[.int 0,eB [],.int 0,.sl 3 (List.map Step.enc []),.int 0,.int 0,.sl 5 (List.map Tree.enc []),.int 0]) (.e (.o (.e (.o (.e (.e (.o .e1)))))))) I<|.so I<|.nil<|.K [8,12,15] I<|.S 3 I<|.so I<|.nil<|.sr<|.p I (.zu2 I I I Y42 (yq I) (v:=.d (zuc.enc (⟨x6.kind,x6.state,x6.tree,x4.1.steps⟩:zuc))) I)<|.so I<|.A 1 I<|.nil<|.ret ?_
        cases h
        exact zeo I I Y42 (.v (.v (.v (.v (.v (.v (.v .v1))))))) I (.d _)
       ·rw [if_neg hq] at h
        cases h
instance pair_Decide_i:Kd4 10 zbn Model.enc Question.enc D.int (slE 1 D.int) (λr=>.tup [zuc.enc r.1,.int r.2]):=⟨λn t0 t1 t2 t3 r h=>zkC n t0 t1 t2 t3 r h⟩
instance slices_Equal_Lint_int_ok:Kd2 16 zap (slE 1 D.int) (slE 1 D.int) D.bool:=⟨λn t0 t1 r h=>.ot Tryz.func16 I Tryz.ntmps16 I λ_ _=>have:HL 4 [0,1,12] (λv:Int=>[(13,.d (.int v))]) (λ_ _=>[]):=⟨⟩;walk h⟩
instance system_looked_1_ok:Kd1 150 zdD D.int D.bool:=⟨λn t0 r h=>.ot Tryz.func150 I Tryz.ntmps150 I λ_ _=>walk h⟩
instance system_looked_ok:Kd2 89 zeg System.enc (slE 1 D.int) D.bool:=⟨λn t0 t1 r h=>.ot Tryz.func89 I Tryz.ntmps89 I λ_ _=>walk h⟩
instance interval_Contains_ok:Kd2 90 zay (slE 2 Range.enc) (slE 1 D.int) D.bool:=⟨λn t0 t1 r h=>.ot Tryz.func90 I Tryz.ntmps90 I λ_ _=>have:HL 4 [1,12,13] (λv:Int=>[(14,.d (.int v))]) (λ_ _=>[]):=⟨⟩;walk h⟩
instance system_value_ok:Kd2 225 zb1 Row.enc (slE 1 D.int) D.int:=⟨λn t0 t1 r h=>.ot Tryz.func225 I Tryz.ntmps225 I λ_ _=>have:HL 3 [1,9,10] (λv:Int×Int=>[(5,.d (.int v.1)),(11,.d (.int v.2))]) (λ_ _=>[]):=⟨⟩;walk h⟩
instance system_holds_ok:Kd2 190 zd4 Row.enc (slE 1 D.int) D.bool:=⟨λn t0 t1 r h=>.ot Tryz.func190 I Tryz.ntmps190 I λ_ _=>walk h⟩
instance system_numbers_ok:Kd1 226 zaN D.int (slE 1 D.int):=⟨λn t0 r h=>.ot Tryz.func226 I Tryz.ntmps226 I λ_ _=>have:HL 3 [8] (λv:(List Int)×Int=>[(3,.vec 0 (List.length v.1)),(9,.d (.int v.2))]) (λ_ v=>[(0,.vec 3 1 (List.map D.int v.1))]):=⟨⟩;walk h⟩
instance system_acyclic_1_1_ok:Kd5 228 zbx D.int (λt1=>.ref (eK t1)) (λt2=>.ref (eB t2)) (λt3=>.ref (ztR.enc t3)) (λt4=>.ref (.int t4)) D.bool:=⟨λn t0 t1 t2 t3 t4 r h=>.ot Tryz.func228 I Tryz.ntmps228 I λ_ _=>walk h⟩
instance system_acyclic_1_ok:Kd4 227 zdb D.int (λt1=>.ref (eK t1)) (λt2=>.ref (ztR.enc t2)) (λt3=>.ref (eB t3)) D.bool:=⟨λn t0 t1 t2 t3 r h=>.ot Tryz.func227 I Tryz.ntmps227 I λ_ _=>walk h⟩
theorem ziI:Kx2 191 za9 ztR.enc eB .bool:=λn t0 t1 r h=>by
 refine .ot Tryz.func191 I Tryz.ntmps191 I λA w=>.sA 3 I<|.S 2 I<|bK h λx1 q1 h=>.zvO (enc:=D.bool) (z:=(false:Bool)) I I I I E173 I I I (.val Zv4) q1<|.zuh I I I I (.nil (k:=1) Zv173) I<|.store I I I I I I (.cons (.vec I (by simp)) .nil) C173 I (yq I)<|.nil<|.seq<|.sA 3 I<|.block<|.L [2,3,5,11] h (λv=>[(12,.d (.int v.2))]) (λv=>[(0,.vec 4 1 (List.map D.bool v.1)),(1,.box 173 [.vec 0 (List.length v.1)])]) I λ_ ⟨b0_14,x15⟩ h=>.sA 1 I<|.K [2,3,5,11,12,13] I<|.seq<|.ztJ I h (λh=>?_) λh=>?_
 ·refine .skip<|.seq<|.block<|.S 2 I<|.Z h I (system_numbers_ok _ _) λx17 h=>.p I (.zuS I I)<|bK h λx18 q18 h=>.p I (.zxD I (zt3 I) (.cons I (.d _) (.cons I (.fn .nil (.cons (.loc1 I (.vec I (by simp)) I) (.v .v1))) .nil)) I (slices_IndexFunc_Lint_int_ok _ _ _ _ (λq0 y hq=>⟨_,_,I,K227,system_acyclic_1_ok _ q0 _ _ _ _ hq⟩) _ q18))<|.A 1 I<|.nil<|.seq<|.sA 2 I<|.ztJ I h (λh=>?_) λh=>?_
  ·refine .sA 1 I<|.ret (rO h I)
  ·refine .skip<|.region<|.A 2 I<|bK h λx19 q19 h=>.p I (.idxV I I I I I U173 S4 q19)<|bK h λb0_20 hb0_20 h=>.zux (enc:=D.bool) I I I I I I I I I C4 hb0_20<|.zuv 21 I (za7 hb0_20)<|.zvo 1 0 I I (za7 hb0_20)<|.nil<|.rA 2 I (ndE h I)
 ·refine .exit<|.sA 1 I<|.ret (rO h I)
instance system_acyclic_i:Kd2 191 za9 ztR.enc (slE 1 D.int) D.bool:=⟨λn t0 t1 r h=>ziI n t0 t1 r h⟩
instance system_fails_ok:Kd2 151 zar System.enc (slE 1 D.int) (λr=>.tup [eB r.1,eB r.2]):=⟨λn t0 t1 r h=>.ot Tryz.func151 I Tryz.ntmps151 I λ_ _=>have:HS 7:=⟨⟩;have:HS 6:=⟨⟩;have:HJ 7 [1,2,7,13,14,15] (λv:(List Int)=>[(6,.vec 0 (List.length v))]) (λ_ v=>[(0,.vec 3 1 (List.map D.int v))]):=⟨⟩;have:HJ 13 [1,6,30,31,32] (λv:(List Int)=>[(7,.vec 1 (List.length v))]) (λ_ v=>[(1,.vec 3 1 (List.map D.int v))]):=⟨⟩;have:HL 9 [1,6,30,31] (λv:(List Int)×Int=>[(7,.vec 1 (List.length v.1)),(32,.d (.int v.2))]) (λ_ v=>[(1,.vec 3 1 (List.map D.int v.1))]):=⟨⟩;have:HL 3 [1,2,7,13,14] (λv:(List Int)×Int=>[(6,.vec 0 (List.length v.1)),(15,.d (.int v.2))]) (λ_ v=>[(0,.vec 3 1 (List.map D.int v.1))]):=⟨⟩;walk h⟩
instance system_alternative_1_ok:Kd2 192 zcc Row.enc (λt1=>.ref (eB t1)) D.bool:=⟨λn t0 t1 r h=>.ot Tryz.func192 I Tryz.ntmps192 I λ_ _=>walk h⟩
instance system_alternative_ok:Kd2 152 zaE System.enc (slE 1 D.int) (λr=>.tup [.int r.1,.bool r.2]):=⟨λn t0 t1 r h=>.ot Tryz.func152 I Tryz.ntmps152 I λ_ _=>have:HL 2 [3,9,10] (λv:Int=>[(11,.d (.int v))]) (λ_ _=>[]):=⟨⟩;walk h⟩
instance system_solves_ok:Kd2 91 zeh System.enc (slE 1 D.int) D.bool:=⟨λn t0 t1 r h=>.ot Tryz.func91 I Tryz.ntmps91 I λ_ _=>walk h⟩
instance system_Holds_ok:Kd2 36 zeU System.enc (slE 1 D.int) D.bool:=⟨λn t0 t1 r h=>.ot Tryz.func36 I Tryz.ntmps36 I λ_ _=>walk h⟩
instance slices_Equal_LStep_api_Step_ok:Kd2 92 zL (slE 3 Step.enc) (slE 3 Step.enc) D.bool:=⟨λn t0 t1 r h=>.ot Tryz.func92 I Tryz.ntmps92 I λ_ _=>have:HL 4 [0,1,12] (λv:Int=>[(13,.d (.int v))]) (λ_ _=>[]):=⟨⟩;walk h⟩
theorem zbS (n t0 t1) (t2:Tree→Tree→Option Bool) (F2:D) (hF2:∀ (q0:Tree) (q1:Tree) (y:Bool),t2 q0 q1=some y→Dyn pg F2 [Tree.enc q0,Tree.enc q1] (.bool y)) (r) (h:zj n t0 t1 t2=some r):Pure pg 93 [.sl 5 (List.map Tree.enc t0),.sl 5 (List.map Tree.enc t1),F2] (.bool r):=by
  refine Pure.ot Tryz.func93 I Tryz.ntmps93 I λA w=>.sA 1 I<|.seq<|.S 1 I<|.e I<|.A 1 I<|.e I<|.A 1 I<|.nil<|.ztJ I h (λh=>.sA 1 I<|.ret (rO h I)) λh=>.skip<|.seq<|.S 1 I<|.e I<|.A 1 I<|.nil<|.block<|.L [1,2,15,16] h (λv=>[(17,.d (.int v))]) (λv=>[]) I λ_ x9 h=>.sA 1 I<|.seq<|.ztJ I h (λh=>.skip<|.seq<|.block<|.S 1 I<|.X h I λx11 h=>.A 1 I<|.zuh I I I I (.agg Zc40 (ds':=[.int 0,.sl 3 (List.map Step.enc []),.int 0,.int 0,.sl 5 (List.map Tree.enc [])]) (.e (.o (.e (.e .o1))))) I<|.A 1 I<|.eqD 21 I (Tree.zvH _)<|.so I<|.nil<|.S 2 I<|.X h I λx12 h=>.A 1 I<|.aS I<|.nil<|.S 1 I<|.p I (.zu2 I I I Y40 (yq I) (v:=.d (Tree.enc x11)) (by rw [Tree.zvH];rfl))<|.A 1 I<|bK h λx13 q13 h=>.p I (.dyn I I I (hF2 _ _ _ q13))<|.A 1 I<|.nil<|.K [1,2,15,16,17,30] I<|.ztJ I h (λh=>.sA 1 I<|.ret (rO h I)) λh=>.skip<|.rA 2 I (ndE h I)) λh=>.exit<|.sA 1 I<|.ret (rO h I)
theorem zgI (n:Nat) (self:Tree→Tree→Option Bool) (hself:∀ (t0:Tree) (t1:Tree) (r:Bool),self t0 t1=some r→Pure pg 37 [Tree.enc t0,Tree.enc t1] (.bool r)) (t0:Tree) (t1:Tree) (r:Bool) (h:zai.body n self t0 t1=some r):Pure pg 37 [Tree.enc t0,Tree.enc t1] (.bool r):=by
  refine Pure.ot Tryz.func37 I Tryz.ntmps37 I λA w=>.sA 3 I<|.seq<|.plain 33 I<|.A 6 I<|.jA 5 (t0.cell==t1.cell) I (λb1=>.A 5 I<|.nil I) <| .A 1 I<|.jA 5 (t0.at_==t1.at_) I (λb2=>.A 5 I<|.nil I) <| .A 1 I<|gK h λc4 h=>.jA 5 (((zL n t0.steps t1.steps).getD default)) I (λb3=>.A 4 I<|.q I (.call I (zt3 I) I (slices_Equal_LStep_api_Step_ok _ _ _ _ (zup (impT c4 b3))))<|.nil I) <| .A 1 I<|gK h λc6 h=>.jA 5 (((zj n t0.kids t1.kids (λq0 q1=>self q0 q1)).getD default)) I (λb5=>.q I (.fa I (zxO _))<|.A 1 I<|.q I (.fa I (zxO _))<|.A 1 I<|.q I (.call I (zt3 I) I (zbS _ _ _ _ _ (λq0 q1 y hq=>⟨_,_,I,K37,hself q0 q1 _ hq⟩) _ (zup (impT c6 b5))))<|.nil I) <| .nil<|.A 1 I<|.nil<|.K [4] I<|.ret (rO h I)
theorem zeS  : ∀ (n:Nat) (t0:Tree) (t1:Tree) (r:Bool) (h:zai n t0 t1=some r),Pure pg 37 [Tree.enc t0,Tree.enc t1] (.bool r)
 | 0,t0,t1,r,h=>by cases h
 | n+1,t0,t1,r,h=>zgI n (zai n) (zeS n) t0 t1 r h
instance refutation_node_ok:Kd1 154 zbP Tree.enc D.bool:=⟨λn t0 r h=>.ot Tryz.func154 I Tryz.ntmps154 I λ_ _=>have:HTr:=⟨⟩;have:HJ 7 [1,4,7,8,9] (λv:Int=>[(5,.d (.int v))]) (λ_ _=>[]):=⟨⟩;have:HL 2 [1,7,8] (λv:Int=>[(9,.d (.int v))]) (λ_ _=>[]):=⟨⟩;walk h⟩
end
end Go.Proofs.YtipkniadbkndfaaGreatDoor
