/- Part of the proof of one law of the seat. -/
import Derived.Test.YtipkniadbkndfaaGreatDoorDc04
set_option linter.unusedVariables false
set_option linter.unusedSectionVars false
set_option linter.unusedSimpArgs false
set_option maxRecDepth 100000
set_option maxHeartbeats 40000000
namespace Go.Proofs.YtipkniadbkndfaaGreatDoor
open Go Go.RowKit
abbrev yo:=@_root_.Option.isSome_some
abbrev yy:=@_root_.Bool.or_true
abbrev yA:=@_root_.List.take_succ_eq_append_getElem
abbrev yO:=@_root_.Bool.not_eq_true
abbrev uc:=@_root_.Bool.or_eq_false_iff
abbrev uh:=@_root_.Bool.false_and
abbrev ui:=@_root_.Bool.not_true
abbrev ur:=@_root_.Bool.false_or
abbrev uz:=@_root_.List.length_replicate
abbrev uC:=@_root_.Bool.true_or
abbrev uE:=@_root_.Bool.not_false
abbrev uQ:=@_root_.List.any_cons
def zNN {β:Type}:Nat→(Nat→β)→β
 | 0,k=>k 0
 | n+1,k=>zNN n λm=>k (m+1)
theorem zNNe {β:Type}:∀ (n:Nat) (k:Nat→β),zNN n k=k n
 | 0,_=>rfl
 | n+1,k=>by rw [zNN,zNNe n]
def zNV {β:Type}:V→(V→β)→β
 | .loc i o,k=>zNN i λi=>zNN o λo=>k (.loc i o)
 | .vec i n,k=>zNN i λi=>k (.vec i n)
 | v,k=>k v
theorem zNVe {β:Type} (v:V) (k:V→β):zNV v k=k v:=by cases v <;> simp only [zNV,zNNe]
def zNT {β:Type}:List (Nat×V)→(List (Nat×V)→β)→β
 | [],k=>k []
 | (t,v)::l,k=>zNV v λv=>zNT l λl=>k ((t,v)::l)
theorem zNTe {β:Type}:∀ (l:List (Nat×V)) (k:List (Nat×V)→β),zNT l k=k l
 | [],_=>rfl
 | (t,v)::l,k=>by rw [zNT,zNVe,zNTe l]
def zNC {β:Type}:List V→(List V→β)→β
 | [],k=>k []
 | v::l,k=>zNV v λv=>zNC l λl=>k (v::l)
theorem zNCe {β:Type}:∀ (l:List V) (k:List V→β),zNC l k=k l
 | [],_=>rfl
 | v::l,k=>by rw [zNC,zNVe,zNCe l]
def zNH {β:Type}:List Blk→(List Blk→β)→β
 | [],k=>k []
 | .box t cs::l,k=>zNC cs λcs=>zNH l λl=>k (.box t cs::l)
 | b::l,k=>zNH l λl=>k (b::l)
theorem zNHe {β:Type}:∀ (l:List Blk) (k:List Blk→β),zNH l k=k l
 | [],_=>by rw [zNH]
 | b::l,k=>by cases b <;> simp only [zNH,zNHe l,zNCe]
theorem zNF {P:Program} {C:Ctx} {c:Code} {Q:Exit→St→Prop} {s:St} {T:List (Nat×V)} {H:List Blk} (g:zNT s.T some=some T) (g2:zNH s.H some=some H) (k:Tri P C c Q ⟨T,H⟩):Tri P C c Q s:=by
 simp only [zNTe,zNHe,Option.some.injEq] at g g2
 subst g g2
 exact k
theorem kidsR {A own0 w gh gn Q F l x e b h0 h1 h2 h3 h4 h5 h6 h7 h9 h11} {a0 a1 a2 a3:D} {fn c b0 b1} (hf:Tryz.prog.funcs[128]? = some fn) (hb:fn.body=some (.seq b0 (.seq c b1))) (hg:gn=12)
  (q1:app 72 l [(⟨0,[],0,0,[]⟩:Tree)]=some x) (q2:idx x (l.length:Int)=some e) (q3:sto x (l.length:Int) F.tree=some b)
  (hQ:Q .normal ⟨[(2,.d (.ref (Found.enc F)))],[h0,h1,h2,h3,h4,h5,h6,h7,.box 40 [.d a0,.d a1,.d a2,.d a3,.vec 10 (List.length b)],h9,.vec 40 5 (List.map Tree.enc b),h11]⟩) :
  Tri Tryz.prog ⟨A,own0,w,16,λ_ _=>False,gh,gn,[]⟩ c Q ⟨[(1,.loc 8 0),(2,.d (.ref (Found.enc F)))],[h0,h1,h2,h3,h4,h5,h6,h7,.box 40 [.d a0,.d a1,.d a2,.d a3,.vec 10 (List.length l)],h9,.vec 40 5 (List.map Tree.enc l),h11]⟩:=by
 subst hg
 rw [Tryz.func128] at hf
 cases hf
 cases hb
 let t0:Tree:=⟨0,[],0,0,[]⟩
 let H (n b:List Tree):List Blk:=[h0,h1,h2,h3,h4,h5,h6,h7,.box 40 [.d a0,.d a1,.d a2,.d a3,.vec 10 (List.length n)],h9,.vec 40 5 (List.map Tree.enc b),h11]
 refine .drawB 11 Hm I ?_
 refine .via 0 (bN 11 2047) ⟨[(2,.d (.ref (Found.enc F)))],H b b⟩ (.lin 11 (by decide +kernel) I (.nil hQ)) λsA0=>?_
 refine .via 1 (bN 11 1023) ⟨[(2,.d (.ref (Found.enc F))),(10,.vec 10 (List.length b)),(12,.loc 8 4)],H l b⟩ (.step 10 [] (by decide +kernel) (.cons (i:=10) I (.store I I I I I I (.cons (.vec I (by simp)) .nil) C38 I (yf I) (.nil ⟨I,I⟩)) (.kt sA0 I) .nil)) λsA1=>?_
 refine .via 1 (bN 11 1791) ⟨[(2,.d (.ref (Found.enc F))),(7,.d (Tree.enc F.tree)),(11,.el 10 (List.length x) (l.length:Int).toNat 0)],H x x⟩ (.step 8 [] (by decide +kernel) (.cons (i:=8) I (.zuJ (enc:=Tree.enc) I I I I I I I I I C40 q3 (.zuS 8 4 I I (zag q3) (.nil ⟨I,I⟩))) (.kt sA0 I) .nil)) λsA2=>?_
 refine .via 2 (bN 11 511) ⟨[(1,.loc 8 0),(2,.d (.ref (Found.enc F))),(10,.vec 10 (List.length b))],H l b⟩ (.step 9 [] (by decide +kernel) (.cons (i:=9) I (.p I (.ztW I I I zwF) (.nil ⟨I,I⟩)) (.kt sA1 I) .nil)) λsA3=>?_
 refine .via 2 (bN 11 767) ⟨[(2,.d (.ref (Found.enc F))),(7,.d (Tree.enc F.tree)),(10,.vec 10 (List.length x)),(11,.el 10 (List.length x) (l.length:Int).toNat 0),(12,.loc 8 4)],H l x⟩ (.step 8 [10] (by decide +kernel) (.cons (i:=8) I (.zuJ (enc:=Tree.enc) I I I I I I I I I C40 q3 (.zuu 10 I (zag q3) (.nil ⟨I,I⟩))) (.kt sA1 I) (.cons (i:=10) I (.store I I I I I I (.cons (.vec I (by simp)) .nil) C38 I (yf I) (.nil ⟨I,I⟩)) (.kt sA2 I) .nil))) λsA4=>?_
 refine .via 2 (bN 11 1663) ⟨[(2,.d (.ref (Found.enc F))),(7,.d (Tree.enc F.tree)),(8,.d (.int (l.length:Int))),(10,.vec 10 (List.length x))],H x x⟩ (.step 7 [] (by decide +kernel) (.cons (i:=7) I (.p I (.idxV I I I I I U38 S40 q2) (.nil ⟨I,I⟩)) (.kt sA2 I) .nil)) λsA5=>?_
 refine .via 3 (bN 11 255) ⟨[(1,.loc 8 0),(2,.d (.ref (Found.enc F))),(7,.d (Tree.enc F.tree)),(10,.vec 10 (List.length x)),(11,.el 10 (List.length x) (l.length:Int).toNat 0)],H l x⟩ (.step 8 [9] (by decide +kernel) (.cons (i:=8) I (.zuJ (enc:=Tree.enc) I I I I I I I I I C40 q3 (.zuu 10 I (zag q3) (.nil ⟨I,I⟩))) (.kt sA3 I) (.cons (i:=9) I (.p I (.ztW I I I zwF) (.nil ⟨I,I⟩)) (.kt sA4 I) .nil))) λsA6=>?_
 refine .via 3 (bN 11 639) ⟨[(2,.d (.ref (Found.enc F))),(7,.d (Tree.enc F.tree)),(8,.d (.int (l.length:Int))),(10,.vec 10 (List.length x)),(12,.loc 8 4)],H l x⟩ (.step 7 [10] (by decide +kernel) (.cons (i:=7) I (.p I (.idxV I I I I I U38 S40 q2) (.nil ⟨I,I⟩)) (.kt sA4 I) (.cons (i:=10) I (.store I I I I I I (.cons (.vec I (by simp)) .nil) C38 I (yf I) (.nil ⟨I,I⟩)) (.kt sA5 I) .nil))) λsA7=>?_
 refine .via 4 (bN 11 127) ⟨[(1,.loc 8 0),(2,.d (.ref (Found.enc F))),(7,.d (Tree.enc F.tree)),(8,.d (.int (l.length:Int))),(10,.vec 10 (List.length x))],H l x⟩ (.step 7 [9] (by decide +kernel) (.cons (i:=7) I (.p I (.idxV I I I I I U38 S40 q2) (.nil ⟨I,I⟩)) (.kt sA6 I) (.cons (i:=9) I (.p I (.ztW I I I zwF) (.nil ⟨I,I⟩)) (.kt sA7 I) .nil))) λsA8=>?_
 refine .via 5 (bN 11 63) ⟨[(1,.loc 8 0),(2,.d (.ref (Found.enc F))),(5,.vec 10 (List.length l)),(7,.d (Tree.enc F.tree)),(8,.d (.int (l.length:Int))),(9,.d (.sl 5 (List.map Tree.enc [t0])))],H l l⟩ (.step 6 [] (by decide +kernel) (.cons (i:=6) I (.app I I I I I I I I E38 I (λ_=>I) q1 (.nil ⟨I,I⟩)) (.kt sA8 I) .nil)) λsA9=>?_
 refine .via 6 (bN 11 31) ⟨[(1,.loc 8 0),(2,.d (.ref (Found.enc F))),(5,.vec 10 (List.length l)),(7,.d (Tree.enc F.tree)),(8,.d (.int (l.length:Int)))],H l l⟩ (.step 5 [] (by decide +kernel) (.cons (i:=5) I (.p I (.zuA [t0] I I E38 I (.cons ZL40 .nil) (λ_=>I) I (enc:=Tree.enc)) (.nil ⟨I,I⟩)) (.kt sA9 I) .nil)) λsA10=>?_
 refine .via 6 (bN 11 47) ⟨[(1,.loc 8 0),(2,.d (.ref (Found.enc F))),(5,.vec 10 (List.length l)),(7,.d (Tree.enc F.tree)),(9,.d (.sl 5 (List.map Tree.enc [t0])))],H l l⟩ (.step 4 [] (by decide +kernel) (.cons (i:=4) I (.p I (.lenV I U38 I I I) (.nil ⟨I,I⟩)) (.kt sA9 I) .nil)) λsA11=>?_
 refine .via 6 (bN 11 55) ⟨[(1,.loc 8 0),(2,.d (.ref (Found.enc F))),(5,.vec 10 (List.length l)),(6,.d (.ref (Tree.enc F.tree))),(8,.d (.int (l.length:Int))),(9,.d (.sl 5 (List.map Tree.enc [t0])))],H l l⟩ (.step 3 [] (by decide +kernel) (.cons (i:=3) I (.p I (.ld Y40 I) (.nil ⟨I,I⟩)) (.kt sA9 I) .nil)) λsA12=>?_
 refine .via 7 (bN 11 15) ⟨[(1,.loc 8 0),(2,.d (.ref (Found.enc F))),(5,.vec 10 (List.length l)),(7,.d (Tree.enc F.tree))],H l l⟩ (.step 4 [5] (by decide +kernel) (.cons (i:=4) I (.p I (.lenV I U38 I I I) (.nil ⟨I,I⟩)) (.kt sA10 I) (.cons (i:=5) I (.p I (.zuA [t0] I I E38 I (.cons ZL40 .nil) (λ_=>I) I (enc:=Tree.enc)) (.nil ⟨I,I⟩)) (.kt sA11 I) .nil))) λsA13=>?_
 refine .via 7 (bN 11 23) ⟨[(1,.loc 8 0),(2,.d (.ref (Found.enc F))),(5,.vec 10 (List.length l)),(6,.d (.ref (Tree.enc F.tree))),(8,.d (.int (l.length:Int)))],H l l⟩ (.step 3 [5] (by decide +kernel) (.cons (i:=3) I (.p I (.ld Y40 I) (.nil ⟨I,I⟩)) (.kt sA10 I) (.cons (i:=5) I (.p I (.zuA [t0] I I E38 I (.cons ZL40 .nil) (λ_=>I) I (enc:=Tree.enc)) (.nil ⟨I,I⟩)) (.kt sA12 I) .nil))) λsA14=>?_
 refine .via 7 (bN 11 39) ⟨[(1,.loc 8 0),(2,.d (.ref (Found.enc F))),(5,.vec 10 (List.length l)),(6,.d (.ref (Tree.enc F.tree))),(9,.d (.sl 5 (List.map Tree.enc [t0])))],H l l⟩ (.step 3 [4] (by decide +kernel) (.cons (i:=3) I (.p I (.ld Y40 I) (.nil ⟨I,I⟩)) (.kt sA11 I) (.cons (i:=4) I (.p I (.lenV I U38 I I I) (.nil ⟨I,I⟩)) (.kt sA12 I) .nil))) λsA15=>?_
 refine .via 7 (bN 11 51) ⟨[(1,.loc 8 0),(2,.d (.ref (Found.enc F))),(5,.vec 10 (List.length l)),(8,.d (.int (l.length:Int))),(9,.d (.sl 5 (List.map Tree.enc [t0])))],H l l⟩ (.step 2 [] (by decide +kernel) (.cons (i:=2) I (.p I (.fa I (zj7 _)) (.nil ⟨I,I⟩)) (.kt sA12 I) .nil)) λsA16=>?_
 refine .via 7 (bN 11 45) ⟨[(1,.loc 8 0),(2,.d (.ref (Found.enc F))),(4,.loc 8 4),(7,.d (Tree.enc F.tree)),(9,.d (.sl 5 (List.map Tree.enc [t0])))],H l l⟩ (.step 1 [] (by decide +kernel) (.cons (i:=1) I (.p I (.zuf I I I Y38 I) (.nil ⟨I,I⟩)) (.kt sA11 I) .nil)) λsA17=>?_
 refine .via 8 (bN 11 7) ⟨[(1,.loc 8 0),(2,.d (.ref (Found.enc F))),(5,.vec 10 (List.length l)),(6,.d (.ref (Tree.enc F.tree)))],H l l⟩ (.step 3 [4,5] (by decide +kernel) (.cons (i:=3) I (.p I (.ld Y40 I) (.nil ⟨I,I⟩)) (.kt sA13 I) (.cons (i:=4) I (.p I (.lenV I U38 I I I) (.nil ⟨I,I⟩)) (.kt sA14 I) (.cons (i:=5) I (.p I (.zuA [t0] I I E38 I (.cons ZL40 .nil) (λ_=>I) I (enc:=Tree.enc)) (.nil ⟨I,I⟩)) (.kt sA15 I) .nil)))) λsA18=>?_
 refine .via 8 (bN 11 19) ⟨[(1,.loc 8 0),(2,.d (.ref (Found.enc F))),(5,.vec 10 (List.length l)),(8,.d (.int (l.length:Int)))],H l l⟩ (.step 2 [5] (by decide +kernel) (.cons (i:=2) I (.p I (.fa I (zj7 _)) (.nil ⟨I,I⟩)) (.kt sA14 I) (.cons (i:=5) I (.p I (.zuA [t0] I I E38 I (.cons ZL40 .nil) (λ_=>I) I (enc:=Tree.enc)) (.nil ⟨I,I⟩)) (.kt sA16 I) .nil))) λsA19=>?_
 refine .via 8 (bN 11 35) ⟨[(1,.loc 8 0),(2,.d (.ref (Found.enc F))),(5,.vec 10 (List.length l)),(9,.d (.sl 5 (List.map Tree.enc [t0])))],H l l⟩ (.step 2 [4] (by decide +kernel) (.cons (i:=2) I (.p I (.fa I (zj7 _)) (.nil ⟨I,I⟩)) (.kt sA15 I) (.cons (i:=4) I (.p I (.lenV I U38 I I I) (.nil ⟨I,I⟩)) (.kt sA16 I) .nil))) λsA20=>?_
 refine .via 8 (bN 11 13) ⟨[(1,.loc 8 0),(2,.d (.ref (Found.enc F))),(4,.loc 8 4),(7,.d (Tree.enc F.tree))],H l l⟩ (.step 1 [5] (by decide +kernel) (.cons (i:=1) I (.p I (.zuf I I I Y38 I) (.nil ⟨I,I⟩)) (.kt sA13 I) (.cons (i:=5) I (.p I (.zuA [t0] I I E38 I (.cons ZL40 .nil) (λ_=>I) I (enc:=Tree.enc)) (.nil ⟨I,I⟩)) (.kt sA17 I) .nil))) λsA21=>?_
 refine .via 8 (bN 11 37) ⟨[(1,.loc 8 0),(2,.d (.ref (Found.enc F))),(4,.loc 8 4),(6,.d (.ref (Tree.enc F.tree))),(9,.d (.sl 5 (List.map Tree.enc [t0])))],H l l⟩ (.step 1 [3] (by decide +kernel) (.cons (i:=1) I (.p I (.zuf I I I Y38 I) (.nil ⟨I,I⟩)) (.kt sA15 I) (.cons (i:=3) I (.p I (.ld Y40 I) (.nil ⟨I,I⟩)) (.kt sA17 I) .nil))) λsA22=>?_
 refine .via 8 (bN 11 44) ⟨[(1,.loc 8 0),(2,.d (.ref (Found.enc F))),(7,.d (Tree.enc F.tree)),(9,.d (.sl 5 (List.map Tree.enc [t0])))],H l l⟩ (.step 0 [] (by decide +kernel) (.cons (i:=0) I (.p I (.ztW I I I zwF) (.nil ⟨I,I⟩)) (.kt sA17 I) .nil)) λsA23=>?_
 refine .via 9 (bN 11 3) ⟨[(1,.loc 8 0),(2,.d (.ref (Found.enc F))),(5,.vec 10 (List.length l))],H l l⟩ (.step 2 [4,5] (by decide +kernel) (.cons (i:=2) I (.p I (.fa I (zj7 _)) (.nil ⟨I,I⟩)) (.kt sA18 I) (.cons (i:=4) I (.p I (.lenV I U38 I I I) (.nil ⟨I,I⟩)) (.kt sA19 I) (.cons (i:=5) I (.p I (.zuA [t0] I I E38 I (.cons ZL40 .nil) (λ_=>I) I (enc:=Tree.enc)) (.nil ⟨I,I⟩)) (.kt sA20 I) .nil)))) λsA24=>?_
 refine .via 9 (bN 11 5) ⟨[(1,.loc 8 0),(2,.d (.ref (Found.enc F))),(4,.loc 8 4),(6,.d (.ref (Tree.enc F.tree)))],H l l⟩ (.step 1 [3,5] (by decide +kernel) (.cons (i:=1) I (.p I (.zuf I I I Y38 I) (.nil ⟨I,I⟩)) (.kt sA18 I) (.cons (i:=3) I (.p I (.ld Y40 I) (.nil ⟨I,I⟩)) (.kt sA21 I) (.cons (i:=5) I (.p I (.zuA [t0] I I E38 I (.cons ZL40 .nil) (λ_=>I) I (enc:=Tree.enc)) (.nil ⟨I,I⟩)) (.kt sA22 I) .nil)))) λsA25=>?_
 refine .via 9 (bN 11 33) ⟨[(1,.loc 8 0),(2,.d (.ref (Found.enc F))),(4,.loc 8 4),(9,.d (.sl 5 (List.map Tree.enc [t0])))],H l l⟩ (.step 1 [2] (by decide +kernel) (.cons (i:=1) I (.p I (.zuf I I I Y38 I) (.nil ⟨I,I⟩)) (.kt sA20 I) (.cons (i:=2) I (.p I (.fa I (zj7 _)) (.nil ⟨I,I⟩)) (.kt sA22 I) .nil))) λsA26=>?_
 refine .via 9 (bN 11 12) ⟨[(1,.loc 8 0),(2,.d (.ref (Found.enc F))),(7,.d (Tree.enc F.tree))],H l l⟩ (.step 0 [5] (by decide +kernel) (.cons (i:=0) I (.p I (.ztW I I I zwF) (.nil ⟨I,I⟩)) (.kt sA21 I) (.cons (i:=5) I (.p I (.zuA [t0] I I E38 I (.cons ZL40 .nil) (λ_=>I) I (enc:=Tree.enc)) (.nil ⟨I,I⟩)) (.kt sA23 I) .nil))) λsA27=>?_
 refine .via 9 (bN 11 36) ⟨[(1,.loc 8 0),(2,.d (.ref (Found.enc F))),(6,.d (.ref (Tree.enc F.tree))),(9,.d (.sl 5 (List.map Tree.enc [t0])))],H l l⟩ (.step 0 [3] (by decide +kernel) (.cons (i:=0) I (.p I (.ztW I I I zwF) (.nil ⟨I,I⟩)) (.kt sA22 I) (.cons (i:=3) I (.p I (.ld Y40 I) (.nil ⟨I,I⟩)) (.kt sA23 I) .nil))) λsA28=>?_
 refine .via 10 (bN 11 1) ⟨[(1,.loc 8 0),(2,.d (.ref (Found.enc F))),(4,.loc 8 4)],H l l⟩ (.step 1 [2,5] (by decide +kernel) (.cons (i:=1) I (.p I (.zuf I I I Y38 I) (.nil ⟨I,I⟩)) (.kt sA24 I) (.cons (i:=2) I (.p I (.fa I (zj7 _)) (.nil ⟨I,I⟩)) (.kt sA25 I) (.cons (i:=5) I (.p I (.zuA [t0] I I E38 I (.cons ZL40 .nil) (λ_=>I) I (enc:=Tree.enc)) (.nil ⟨I,I⟩)) (.kt sA26 I) .nil)))) λsA29=>?_
 refine .via 10 (bN 11 4) ⟨[(1,.loc 8 0),(2,.d (.ref (Found.enc F))),(6,.d (.ref (Tree.enc F.tree)))],H l l⟩ (.step 0 [3,5] (by decide +kernel) (.cons (i:=0) I (.p I (.ztW I I I zwF) (.nil ⟨I,I⟩)) (.kt sA25 I) (.cons (i:=3) I (.p I (.ld Y40 I) (.nil ⟨I,I⟩)) (.kt sA27 I) (.cons (i:=5) I (.p I (.zuA [t0] I I E38 I (.cons ZL40 .nil) (λ_=>I) I (enc:=Tree.enc)) (.nil ⟨I,I⟩)) (.kt sA28 I) .nil)))) λsA30=>?_
 refine .via 10 (bN 11 32) ⟨[(1,.loc 8 0),(2,.d (.ref (Found.enc F))),(9,.d (.sl 5 (List.map Tree.enc [t0])))],H l l⟩ (.step 0 [2] (by decide +kernel) (.cons (i:=0) I (.p I (.ztW I I I zwF) (.nil ⟨I,I⟩)) (.kt sA26 I) (.cons (i:=2) I (.p I (.fa I (zj7 _)) (.nil ⟨I,I⟩)) (.kt sA28 I) .nil))) λsA31=>?_
 exact .step 0 [2,5] (by decide +kernel) (.cons (i:=0) I (.p I (.ztW I I I zwF) (.nil ⟨I,I⟩)) (.kt sA29 I) (.cons (i:=2) I (.p I (.fa I (zj7 _)) (.nil ⟨I,I⟩)) (.kt sA30 I) (.cons (i:=5) I (.p I (.zuA [t0] I I E38 I (.cons ZL40 .nil) (λ_=>I) I (enc:=Tree.enc)) (.nil ⟨I,I⟩)) (.kt sA31 I) .nil)))
abbrev wB (s:zuj) (c:Int):Blk:=.box 132 [.d (eI s.s.box),.d (eK s.s.rows),.d (eO s.s.ztQ),.d (eP s.s.cases),.d (eK s.rows),.d (.int s.zt7),.d (.int c)]
abbrev wE2 {T1:Type} a (b:List T1):=(.box 87 [.d (eI a),.vec 6 (List.length b),.vec 7 (List.length ([]:List zuc)),.d (eP [])]:Blk)
abbrev wE3 {T1 T2:Type} a (b:List T1) (c:List T2):=(.box 87 [.d (eI a),.vec 6 (List.length b),.vec 7 (List.length c),.d (eP [])]:Blk)
abbrev wE4 a:=(.vec 83 2 (List.map Range.enc a):Blk)
abbrev wE5 a:=(.vec 149 3 (List.map Step.enc a):Blk)
abbrev wE6 {T0:Type} (a:List T0):=(.box 80 [.vec 1 (List.length a)]:Blk)
abbrev wE7 {T0:Type} (a:List T0):=(.box 37 [.vec 3 (List.length a)]:Blk)
theorem ziB:Kd4 68 zl eI Constraint.enc Action.enc Action.enc eP:=λn t0 t1 t2 t3 r h=>by
  refine .ot Tryz.func68 I Tryz.ntmps68 I λA w=>.S 3 I<|.p I (.nilS 1 (α:=List Row) eK I)<|.nil<|.sr<|.p I (.makeFunc I I)<|.A 1 I<|.nil<|.S 5 I<|bK h λx1 q1 h=>.zvy (enc:=D.bool) (z:=(false:Bool)) I I I I E173 I I I (.val Zv4) q1<|.A 1 I<|.nil<|.seq<|.S 1 I<|.p I (.lenV I U173 I I I)<|.A 1 I<|.nil<|.K [0,5,6,7,9,10,29,30] I<|.block<|.L [0,5,6,7,9,29] h (λv=>[(10,.vec 0 (List.length v.1)),(30,.d (.int v.2))]) (λv=>[(0,.vec 4 1 (List.map D.bool v.1))]) I λ_ ⟨b0_14,x15⟩ h=>.sA 1 I<|.K [0,5,6,7,9,10,29,30,31] I<|.seq<|.ztM I h (λh=>.skip<|.seq<|.block<|.sA 2 I<|.dr 16<|.A 7 I<|.X h I λx17 h=>.A 4 I<|bK h λx18 q18 h=>.p I (.dyn I I I ⟨_,_,I,K117,zew _ _ _ _ _ _ q18⟩)<|.A 2 I<|bK h λx19 q19 h=>.p I (.idxV I I I I I U173 S4 q19)<|.nil<|bK h λb0_20 hb0_20 h=>.zuJ (enc:=D.bool) I I I I I I I I I C4 hb0_20<|.zuu 10 I (zag hb0_20)<|.zuu 33 I (zag hb0_20)<|.nil<|.K [0,5,6,7,9,10,29,30] I<|.rA 2 I (ndE h I)) λh=>.exit<|.S 1 I<|.zve 12 1 74 I<|.nil<|.seq<|.seq<|.zud [0] (.cons (t:=10) I (.vec (zuG I) I (by simp)) .nil)<|.region<|.A 3 I<|.Z h I (zjA _ _ _) λx22 h=>.e I<|.A 1 I<|.nil<|.block<|.L [5,6,7,9,53,54] h (λv=>[(12,.vec 1 (List.length v.1)),(55,.d (.int v.2))]) (λv=>[(1,.vec 74 1 (List.map eK v.1))]) I λ_ ⟨b1_117,x118⟩ h=>.sA 1 I<|.K [5,6,7,9,12,53,54,55,56] I<|.seq<|.ztM I h (λh=>?_) λh=>?_
  · refine .skip<|.J [5,6,7,9,53,54,55] h (λv=>[(12,.vec 1 (List.length v))]) (λv=>[(1,.vec 74 1 (List.map eK v))]) I (λk_121 h=>?_) (λb1_120 h=>?_)
    · refine .block<|.sr<|.X h I λx122 h=>.A 2 I<|.nil<|.S 1 I<|.zve 15 2 55 I<|.nil<|.sA 2 I<|.seq<|.S 1 I<|.e I<|.A 1 I<|.nil<|.block<|.L [5,6,7,9,12,14,53,54,55,59,60] h (λv=>[(15,.vec 2 (List.length v.1)),(16,.d (.bool v.2.1)),(17,.d (.bool v.2.2.1)),(61,.d (.int v.2.2.2))]) (λv=>[(2,.vec 55 2 (List.map Row.enc v.1))]) I λ_ ⟨b2_149,x150,x151,x152⟩ h=>.sA 1 I<|.K [5,6,7,9,12,14,15,16,17,53,54,55,59,60,61,62] I<|.seq<|.ztM I h (λh=>?_) λh=>?_
      · refine .skip<|.seq<|.block<|.S 1 I<|.X h I λx154 h=>.A 3 I<|.nil<|.seq<|.dr 14<|.A 8 I<|.e I<|bK h λx155 q155 h=>.p I (.rem6 I I I q155)<|.X h I λx156 h=>.A 3 I<|.nil<|.nil<|.K [5,6,7,9,12,14,15,16,17,20,53,54,55,59,60,61] I<|.seq<|.plain 20 I<|.A 2 I<|gK h λc158 h=>.jO 7 (decide (0<((zL n t2 (ztJ t1.first (ztJ (ztZ x154 t1.size) x156))).getD default))) I (λb157=>.A 5 I<|.q I (.call I (zt1 I) I (zaU _ _ _ _ (zt0 (impF c158 b157))))<|.A 1 I<|.nil I) <| .A 2 I<|gK h λc160 h=>.jO 7 (decide (0<((zL n t3 (ztJ t1.first (ztJ (ztZ x154 t1.size) x156))).getD default))) I (λb159=>.A 5 I<|.q I (.call I (zt1 I) I (zaU _ _ _ _ (zt0 (impF c160 b159))))<|.A 1 I<|.nil I) <| .nil<|.A 2 I<|.nil<|.K [5,6,7,9,12,14,15,16,17,20,53,54,55,59,60,61] I<|.dr 13<|.A 5 I<|.p I (.B (Term.enc ⟨ztJ t1.first (ztJ (ztZ x154 t1.size) x156),(-1)⟩) zxZ I)<|.p I (.ztY [_] I I E53 I (λ_=>I) I (enc:=Term.enc))<|.A 2 I<|bK h λx161 q161 h=>.p I (.dyn I I I ⟨_,_,I,K117,zew _ _ _ _ _ _ q161⟩)<|.A 1 I<|.p I (.B (Row.enc ⟨[(⟨ztJ t1.first (ztJ (ztZ x154 t1.size) x156),(-1)⟩:Term)],zt2 x161 1⟩) Zc55 I)<|.p I (.ztY [_] I I E74 I (λ_=>I) I (enc:=Row.enc))<|.nil<|bK h λx162 q162 h=>.app I I I I I I I I E74 I (λ_=>I) q162<|.A 1 I<|.nil<|.rA 2 I (ndE h I)
      · refine .exit<|.seq<|.plain 4 I<|.A 2 I<|.jA 1 (x151) I (λb163=>.A 1 I<|.nil I) <| .nil<|.nil<|.ztM I h (λh=>.zud [2] (.cons (t:=15) I (.vec (zuG I) I (by simp)) .nil)<|.region<|.A 2 I<|.p I (.ztY [_] I I E85 I (λ_=>I) I (enc:=eK))<|bK h λx164 q164 h=>.app I I I I I I I I E85 I (λ_=>I) q164<|.A 1 I<|.nil (ndE h I)) λh=>.skip (ndE h I)
    · refine .rA 2 I (ndE h I)
  · refine .exit<|.sA 2 I<|.ret <| by cases h;exact zbU I (.vec I (by simp))
theorem zgM:Kd1 169 zaF eI .bool:=λn t0 r h=>.ot Tryz.func169 I Tryz.ntmps169 I λA w=>.sA 1 I<|.seq<|.S 1 I<|.e I<|.A 1 I<|.nil<|.block<|.L [0,5,6] h (λv=>[(7,.d (.int v))]) (λv=>[]) I λ_ x11 h=>.sA 1 I<|.seq<|.ztM I h (λh=>.skip<|.seq<|.block<|.sr<|.X h I λx13 h=>.A 1 I<|.aS I<|.nil<|.seq<|.plain 18 I<|.A 4 I<|.jO 3 (decide (1000000<x13.lo)) I (λb14=>.A 3 I<|.nil I) <| .A 1 I<|.jO 3 (decide (x13.hi<(-1000000))) I (λb15=>.A 3 I<|.nil I) <| .A 1 I<|.jO 3 (decide (1000000<x13.hi)) I (λb16=>.A 3 I<|.nil I) <| .nil<|.nil<|.K [0,5,6,7,28] I<|.ztM I h (λh=>.sA 1 I<|.ret (rO h I)) λh=>.skip<|.rA 2 I (ndE h I)) λh=>.exit<|.S 1 I<|.e I<|.A 2 I<|.nil<|.ret (rO h I)
theorem zkC:Kd2 172 zaD .int Row.enc .bool:=λn t0 t1 r h=>.ot Tryz.func172 I Tryz.ntmps172 I λA w=>.sA 2 I<|.sA 1 I<|.seq<|.S 2 I<|.e I<|.A 1 I<|.nil<|.block<|.L [0,3,9,10] h (λv=>[(5,.d (.int v.1)),(11,.d (.int v.2))]) (λv=>[]) I λ_ ⟨x15,x16⟩ h=>.sA 1 I<|.seq<|.ztM I h (λh=>.skip<|.seq<|.block<|.sr<|.X h I λx18 h=>.A 1 I<|.aS I<|.nil<|.seq<|.seq<|.plain 25 I<|.A 5 I<|.jO 4 (decide (t0≤x18.cell)) I (λb19=>.A 4 I<|.nil I) <| .A 1 I<|.jO 3 (x18.ztV==0) I (λb20=>.A 3 I<|.nil I) <| .A 1 I<|.jO 3 (decide (x18.ztV<(-1000))) I (λb21=>.A 3 I<|.nil I) <| .A 1 I<|.jO 3 (decide (1000<x18.ztV)) I (λb22=>.A 3 I<|.nil I) <| .nil<|.nil<|.K [0,3,7,9,10,11,39] I<|.ztM I h (λh=>.sA 1 I<|.ret (rO h I)) λh=>.skip<|.rA 3 I<|.rA 2 I (ndE h I)) λh=>.exit<|.seq<|.plain 8 I<|.A 4 I<|.jA 3 (decide (t1.bound≤1000000000)) I (λb23=>.A 3 I<|.nil I) <| .nil<|.A 1 I<|.nil<|.ret (rO h I)
theorem zib (n t0 t1 r) (h:zbk n t0 t1=some r):Pure pg 171 [Row.enc t0,.ref (eI t1)] (.bool r):=by
 refine Pure.ot Tryz.func171 I Tryz.ntmps171 I λA w=>.sA 2 I<|.S 1 I<|.e I<|.A 1 I<|.Z h I (zkC _ _ _) λx1 h=>.A 2 I<|.nil<|.ret (rO h I)
theorem zdV:Kd2 119 zaZ eI eK .bool:=λn t0 t1 r h=>.ot Tryz.func119 I Tryz.ntmps119 I λA w=>.sA 2 I<|.seq<|.plain 8 I<|.A 1 I<|.Z h I (zgM _ _) λx1 h=>.A 1 I<|gK h λc3 h=>.jA 4 (!((zk n t1 (λq0=>zbk n q0 t0)).getD default)) I (λb2=>.A 1 I<|.q I (.makeFunc I I)<|.q I (.call I (zt1 I) I (za2 _ _ _ _ (λq0 y hq=>⟨_,_,I,K171,zib _ q0 _ _ hq⟩) _ (zt0 (impT c3 b2))))<|.A 1 I<|.nil I) <| .nil<|.A 1 I<|.nil<|.ret (rO h I)
theorem zbJ (n t0) (t1:Range→Option Bool) (F1:D) (hF1:∀ (q0:Range) (y:Bool),t1 q0=some y→Dyn pg F1 [Range.enc q0] (.bool y)) (r) (h:zh n t0 t1=some r):Pure pg 130 [eI t0,F1] (.int r):=by
  refine Pure.ot Tryz.func130 I Tryz.ntmps130 I λA w=>.sA 1 I<|.seq<|.S 1 I<|.e I<|.A 1 I<|.nil<|.block<|.L [0,1,7] h (λv=>[(8,.d (.int v))]) (λv=>[]) I λ_ x7 h=>.sA 1 I<|.seq<|.ztM I h (λh=>.skip<|.seq<|.block<|.sA 2 I<|.S 3 I<|.X h I λx9 h=>.A 1 I<|bK h λx10 q10 h=>.p I (.dyn I I I (hF1 _ _ q10))<|.nil<|.ztM I h (λh=>.sA 2 I<|.ret (rO h I)) λh=>.skip<|.rA 2 I (ndE h I)) λh=>.exit<|.sA 1 I<|.ret (rO h I)
theorem zcZ (n t0) (t1:Range→Option Bool) (F1:D) (hF1:∀ (q0:Range) (y:Bool),t1 q0=some y→Dyn pg F1 [Range.enc q0] (.bool y)) (r) (h:zaq n t0 t1=some r):Pure pg 173 [eI t0,F1] (.bool r):=by
 refine Pure.ot Tryz.func173 I Tryz.ntmps173 I λA w=>.sA 1 I<|.S 2 I<|.Z h I (zbJ _ _ _ _ hF1) λx1 h=>.A 2 I<|.nil<|.ret (rO h I)
theorem zfJ:Kd1 174 zdd Range.enc .bool:=λn t0 r h=>.ot Tryz.func174 I Tryz.ntmps174 I λA w=>.sA 2 I<|.sA 6 I<|.ret (rO h I)
theorem zfH:Kd1 120 zbG eI .bool:=λn t0 r h=>.ot Tryz.func120 I Tryz.ntmps120 I λA w=>.sA 1 I<|.S 1 I<|.Z h I (zcZ _ _ _ _ (λq0 y hq=>⟨_,_,I,K174,zfJ _ q0 _ hq⟩)) λx1 h=>.A 1 I<|.nil<|.ret (rO h I)
theorem zh0:Kd3 121 zdn System.enc eK .int .bool:=λn t0 t1 t2 r h=>.ot Tryz.func121 I Tryz.ntmps121 I λA w=>.sA 2 I<|.seq<|.plain 10 I<|.A 1 I<|.e I<|.A 3 I<|gK h λc2 h=>.jA 4 (((zaZ n t0.box t1).getD default)) I (λb1=>.A 3 I<|.q I (.call I (zt1 I) I (zdV _ _ _ _ (zt0 (impT c2 b1))))<|.nil I) <| .nil<|.A 1 I<|.nil<|.ret (rO h I)
theorem zj4:Kd1 175 zfC .int .bool:=λn t0 r h=>.ot Tryz.func175 I Tryz.ntmps175 I λA w=>.sA 1 I<|.seq<|.plain 6 I<|.A 3 I<|.jO 2 (decide (4000000<t0)) I (λb1=>.A 2 I<|.nil I) <| .nil<|.A 1 I<|.nil<|.ret (rO h I)
theorem zl7:Kd2 122 zfq .int zuc.enc .bool:=λn t0 t1 r h=>.ot Tryz.func122 I Tryz.ntmps122 I λA w=>.sA 2 I<|.seq<|.seq<|.plain 36 I<|.A 4 I<|.jO 3 (decide (6<t1.size)) I (λb1=>.A 3 I<|.nil I) <| .A 1 I<|.jO 3 (decide (t1.first<0)) I (λb2=>.A 3 I<|.nil I) <| .A 1 I<|.jO 10 (decide (zt2 t0 (ztZ t1.size t1.size)<t1.first)) I (λb3=>.A 10 I<|.nil I) <| .A 1 I<|.jO 9 ((t1.least.length:Int) != (ztZ t1.size t1.size)) I (λb4=>.A 2 I<|.qe I<|.A 6 I<|.nil I) <| .nil<|.nil<|.K [3,40] I<|.ztM I h (λh=>.sA 1 I<|.ret (rO h I)) λh=>.skip<|.S 2 I<|.Z h I (zab _ _ _ _ (λq0 y hq=>⟨_,_,I,K175,zj4 _ q0 _ hq⟩)) λx5 h=>.A 2 I<|.nil<|.ret (rO h I)
theorem zj2 (n t0 t1 r) (h:zfB n t0 t1=some r):Pure pg 124 [eK t0,.ref (System.enc t1)] (.bool r):=by
 refine Pure.ot Tryz.func124 I Tryz.ntmps124 I λA w=>.sA 1 I<|.S 2 I<|.Z h I (zh0 _ _ _ _) λx1 h=>.A 2 I<|.nil<|.ret (rO h I)
theorem zeo (n t0) (t1:(List Row)→Option Bool) (F1:D) (hF1:∀ (q0:List Row) (y:Bool),t1 q0=some y→Dyn pg F1 [eK q0] (.bool y)) (r) (h:zX n t0 t1=some r):Pure pg 176 [eP t0,F1] (.int r):=by
  refine Pure.ot Tryz.func176 I Tryz.ntmps176 I λA w=>.sA 1 I<|.seq<|.S 1 I<|.e I<|.A 1 I<|.nil<|.block<|.L [0,1,7] h (λv=>[(8,.d (.int v))]) (λv=>[]) I λ_ x7 h=>.sA 1 I<|.seq<|.ztM I h (λh=>.skip<|.seq<|.block<|.sA 2 I<|.S 3 I<|.X h I λx9 h=>.A 1 I<|bK h λx10 q10 h=>.p I (.dyn I I I (hF1 _ _ q10))<|.nil<|.ztM I h (λh=>.sA 2 I<|.ret (rO h I)) λh=>.skip<|.rA 2 I (ndE h I)) λh=>.exit<|.sA 1 I<|.ret (rO h I)
theorem zdJ (n t0) (t1:(List Row)→Option Bool) (F1:D) (hF1:∀ (q0:List Row) (y:Bool),t1 q0=some y→Dyn pg F1 [eK q0] (.bool y)) (r) (h:zaX n t0 t1=some r):Pure pg 123 [eP t0,F1] (.bool r):=by
 refine Pure.ot Tryz.func123 I Tryz.ntmps123 I λA w=>.sA 1 I<|.S 2 I<|.Z h I (zeo _ _ _ _ hF1) λx1 h=>.A 2 I<|.nil<|.ret (rO h I)
theorem zdM:Kd1 69 zak System.enc .bool:=λn t0 r h=>.ot Tryz.func69 I Tryz.ntmps69 I λA w=>.sA 2 I<|.seq<|.seq<|.plain 28 I<|.A 2 I<|bK h λx1 q1 h=>.p I (.zwl I (zt1 I) I (.e .o1) (zdV _ _ _ _ q1))<|.A 2 I<|gK h λc3 h=>.jO 3 (((zbG n t0.box).getD default)) I (λb2=>.A 2 I<|.q I (.call I (zt1 I) I (zfH _ _ _ (zt0 (impF c3 b2))))<|.nil I) <| .A 1 I<|gK h λc5 h=>.jO 5 (!((zdn n t0 t0.rows 1024).getD default)) I (λb4=>.A 3 I<|.q I (.call I (zt1 I) I (zh0 _ _ _ _ _ (zt0 (impF c5 b4))))<|.A 1 I<|.nil I) <| .A 1 I<|.jO 4 (decide (64<(t0.ztQ.length:Int))) I (λb6=>.A 2 I<|.qe I<|.A 1 I<|.nil I) <| .A 1 I<|.jO 4 (decide (1024<(t0.cases.length:Int))) I (λb7=>.A 2 I<|.qe I<|.A 1 I<|.nil I) <| .nil<|.nil<|.K [1,32] I<|.ztM I h (λh=>.sA 1 I<|.ret (rO h I)) λh=>.skip<|.seq<|.S 2 I<|.e I<|.A 1 I<|.nil<|.block<|.L [1,34,35] h (λv=>[(36,.d (.int v))]) (λv=>[]) I λ_ x14 h=>.sA 1 I<|.seq<|.ztM I h (λh=>.skip<|.seq<|.block<|.sr<|.X h I λx16 h=>.A 1 I<|.aS I<|.nil<|.S 2 I<|.e I<|.A 1 I<|.Z h I (zl7 _ _ _) λx17 h=>.A 1 I<|.nil<|.ztM I h (λh=>.sA 1 I<|.ret (rO h I)) λh=>.skip<|.rA 2 I (ndE h I)) λh=>.exit<|.S 2 I<|.p I (.makeFunc I I)<|.Z h I (zdJ _ _ _ _ (λq0 y hq=>⟨_,_,I,K124,zj2 _ q0 _ _ hq⟩)) λx18 h=>.A 2 I<|.nil<|.ret (rO h I)
theorem zeN (n t0 t1 t2 r) (h:zf n t0 t1 t2=some r):Pure pg 26 [Model.enc t0,Question.enc t1,eA t2] (.tup [System.enc r.1,.int r.2]):=by
  refine Pure.ot Tryz.func26 I Tryz.ntmps26 I λA w=>.S 2 I<|.zua I I I I (.agg Zc87 (ds':=[eI [],eK [],eO [],eP []]) (.o (.o (.o .o1)))) I<|.A 1 I<|.nil<|.seq<|.S 2 I<|.Z h I (zj1 _ _ _) λx1 h=>.A 1 I<|.nil<|.ztM I h (λh=>.sr<|.p I (.B (System.enc ⟨[],[],[],[]⟩) Zc87 I)<|.so I<|.A 1 I<|.nil<|.ret <| by cases h;exact za6 I I Y87 (.v (.v (.v .v1))) I (.d _)) λh=>.skip<|.seq<|.S 1 I<|.e I<|.A 1 I<|.nil<|.block<|.L [2,3,4,6,31,32] h (λv=>[(33,.d (.int v))]) (λv=>[]) I λ_ x12 h=>.sA 1 I<|.seq<|.ztM I h (λh=>.skip<|.seq<|.block<|.sr<|.X h I λx14 h=>.A 2 I<|.nil<|.seq<|.plain 18 I<|.A 3 I<|.jO 5 (decide ((t0.constraints.length:Int)≤x14)) I (λb15=>.A 3 I<|.qe I<|.A 1 I<|.nil I) <| .A 1 I<|gK h λc17 h=>.jO 7 ((((idx t0.constraints x14).getD default).kind) != 0) I (λb16=>.A 3 I<|.q I (.ix I U25 S57 (zt0 (impF c17 b16)))<|.A 3 I<|.nil I) <| .nil<|.nil<|.K [2,3,4,6,31,32,33,54] I<|.ztM I h (λh=>.sr<|.p I (.B (System.enc ⟨[],[],[],[]⟩) Zc87 I)<|.so I<|.A 1 I<|.nil<|.ret <| by cases h;exact za6 I I Y87 (.v (.v (.v .v1))) I (.d _)) λh=>.skip<|.rA 2 I (ndE h I)) λh=>.exit<|.seq<|.dr 16<|.A 4 I<|.X h I λx18 h=>.A 5 I<|.X h I λx19 h=>.A 1 I<|.alloc I I I I ZZ79<|.alloc I I I I ZZ79<|.store I I I I I I Z79<|.store I I I I I I Z79<|.nil<|.zud [1,2] (.cons (t:=10) (d:=.ref (Action.enc x18)) I (.loc (zuG I) I (.v (.v (.v (.v .v1))))) (.cons (t:=11) (d:=.ref (Action.enc x19)) I (.loc (zuG I) I (.v (.v (.v (.v .v1))))) .nil))<|.nil<|.K [2,3,4,6,10,11] I<|.S 1 I<|.Z h I (zlF _ _) λx20 h=>.p I (.build I Pl87 (.agg Zc87 (ds':=[_,.val (.slice none 0 0),.val (.slice none 0 0),eP []]) (.e (.e (.e .o1)))) I I)<|.zua I I I I (.agg Zc87 (ds':=[eI [],.val (.slice none 0 0),.val (.slice none 0 0),eP []]) (.o (.e (.e .o1)))) I<|.zuC 3 1 2 55 I I<|.zuC 3 2 3 124 I I<|.so I<|.zuC 3 1 2 55 I I<|.zuC 3 2 3 124 I I<|.nil<|.K [2,3,4,6,10,11,12] I<|.seq<|.S 2 I<|.e I<|.A 1 I<|.nil<|.block<|.L [2,3,4,6,10,11,12,73,74] h (λv=>[(75,.d (.int v.2))]) (λv=>[(3,wE2 x20 v.1),(6,.vec 55 2 (List.map Row.enc v.1))]) I λ_ ⟨b6_49,x50⟩ h=> .sA 1 I<|.K [2,3,4,6,10,11,12,73,74,75,76] I<|.seq<|.ztM I h (λh=>?_) λh=>?_
  · refine .skip<|.J [2,3,4,6,10,11,12,73,74,75] h (λv=>[]) (λv=>[(3,wE2 x20 v),(6,.vec 55 2 (List.map Row.enc v))]) I (λk_53 h=>?_) (λb6_52 h=>?_)
    · refine .block<|.S 1 I<|.X h I λx54 h=>.A 1 I<|.zua I I I I (.agg Zc57 (ds':=[.int 0,.int 0,eJ [],.int 0,.int 0,.int 0]) (.e (.e (.o (.e (.e .e1)))))) I<|.A 1 I<|.so I<|.nil<|.seq<|.sA 3 I<|.ztM I h (λh=>.exit (ndE h I)) λh=>.skip<|.seq<|.dr 10<|.A 1 I<|.p I (.ztW I I I zwQ)<|.p I (.zue I I I Y55 (yf I) (v:=.d (Row.enc x54.row)) I)<|.Z h I (zbO _ _ _) λx55 h=>.A 1 I<|.p I (.ztW I I I zwQ)<|.p I (.zue I I I Y55 (yf I) (v:=.d (Row.enc x54.row)) I)<|.Z h I (zbO _ _ _) λx56 h=>.A 2 I<|.nil<|.nil<|.K [2,3,4,6,10,11,12,13,14,15,16,73,74,75] I<|.S 2 I<|.p I (.max3 I I I I)<|.A 1 I<|.nil<|.J [2,3,4,6,10,11,12,14,73,74,75] h (λv=>[(17,.d (.int v))]) (λv=>[]) I (λk_58 h=>.seq<|.plain 15 I<|.A 2 I<|.Z h I (zc1 _ _ _) λx59 h=>.A 1 I<|.jA 10 (t1.target.hold||(t1.target.index != x50)) I (λb60=>.q I (.fa I (zwR _))<|.A 3 I<|.jOr 5 (b2:=t1.target.index != x50) I I I I (.inr ⟨_,_,_,I,I,I⟩) (λ_ _ _ h1 h2=>by cases h1;cases h2;decide) I I (λb61=>.q I (.fa I (zwR _))<|.A 4 I<|.nil I) <| .nil I) <| .nil<|.nil<|.K [2,3,4,6,10,11,12,14,15,16,17,73,74,75,108] I<|.ztM I h (λh=>.region<|.A 4 I<|.p I (.max2 I I I)<|.A 1 I<|.nil (ndE h I)) λh=>.skip (ndE h I)) (λx57 h=>.dr 8<|.A 2 I<|.p I (.ztW I I I zwQ)<|.p I (.zue I I I Y55 (yf I) (v:=.d (Row.enc x54.row)) I)<|.A 1 I<|.p I (.call I (zt1 I) I (zjx n x57))<|.Z h I (zcc _ _ _ _ _ (λq0 y hq=>⟨_,_,I,K56,zdS _ q0 _ hq⟩) _ (λq0 y hq=>⟨_,_,I,K116,zh7 _ q0 _ _ hq⟩)) λx62 h=>.p I (.ztY [_] I I E74 I (λ_=>I) I (enc:=Row.enc))<|.nil<|bK h λx63 q63 h=>.app I I I I I I I I E74 I (λ_=>I) q63<|.A 1 I<|.store I I I I I I (.cons (.vec I (by simp)) .nil) C74 I (yf I)<|.nil (ndE h I))
    · refine .rA 2 I (ndE h I)
  · refine .exit<|.sr<|.p I (.fa I (zxp _))<|.A 2 I<|bK h λx64 q64 h=>.clone (enc:=Row.enc) I I I I (zt1 I) Tryz.func58 I I I I E74 I (λ_=>I) (λ_=>I) q64 I I<|.A 1 I<|.nil<|.J [3,4,6,10,11,12] h (λv=>[(18,.vec 8 (List.length v))]) (λv=>[(8,.vec 55 2 (List.map Row.enc v))]) I (λk_66 h=>.sA 5 I<|.ztM I h (λh=>.region<|.A 1 I<|.p I (.fa I (zxp _))<|.A 2 I<|bK h λx67 q67 h=>.app I I I I I I I I E74 I (λ_=>I) q67<|.A 1 I<|.nil (ndE h I)) λh=>.skip (ndE h I)) (λb8_65 h=>.seq<|.S 1 I<|.p I (.lenV I U74 I I I)<|.A 1 I<|.nil<|.K [3,4,6,10,11,12,139,140,141] I<|.block<|.L [3,4,6,10,11,12,139,140] h (λv=>[(141,.d (.int v.2))]) (λv=>[(3,wE2 x20 v.1),(6,.vec 55 2 (List.map Row.enc v.1))]) I λ_ ⟨b6_78,x79⟩ h=>.sA 1 I<|.K [3,4,6,10,11,12,139,140,141,142] I<|.seq<|.ztM I h (λh=>.skip<|.seq<|.block<|.sr<|bK h λx81 q81 h=>.p I (.idxV I I I I I U74 S55 q81)<|.p I (.zwA I I I I q81 Y55 I)<|.aS I<|.nil<|.dr 5<|.A 3 I<|.Z h I (zcc _ _ _ _ _ (λq0 y hq=>⟨_,_,I,K56,zdS _ q0 _ hq⟩) _ (λq0 y hq=>⟨_,_,I,K56,zdS _ q0 _ hq⟩)) λx82 h=>.p I (.ztY [_] I I E74 I (λ_=>I) I (enc:=Row.enc))<|.nil<|bK h λx83 q83 h=>.app I I I I I I I I E74 I (λ_=>I) q83<|.A 1 I<|.store I I I I I I (.cons (.vec I (by simp)) .nil) C74 I (yf I)<|.nil<|.rA 2 I (ndE h I)) λh=>.exit<|.sr<|.p I (.zu8 I I)<|.A 1 I<|.nil<|.sr<|.p I (.B (Constraint.enc ⟨0,0,(⟨[],0⟩:Row),0,0⟩) Zc57 I)<|.zua I I I I (.agg Zc57 (ds':=[.int 0,.int 0,eJ [],.int 0,.int 0,.int 0]) (.e (.e (.o (.e (.e .e1)))))) I<|.so I<|.nil<|.J [3,4,6,10,11,12,22] h (λv=>[]) (λv=>[(3,wE2 x20 v.1),(6,.vec 55 2 (List.map Row.enc v.1)),(9,.box 57 [.d (.int v.2.1),.d (.int v.2.2.1),.d (eJ v.2.2.2.1),.d (.int v.2.2.2.2.1),.d (.int v.2.2.2.2.2.1),.d (.int v.2.2.2.2.2.2)])]) I (λk_91 h=>?_) (λv h=>?_))
    · refine .sr<|.p I (.fa I (zwR _))<|.A 2 I<|.nil<|.ztM I h (λh=>.sr<|.p I (.fa I (zxp _))<|.A 2 I<|.p I (.fa I (zwR _))<|.A 2 I<|.X h I λx92 h=>.A 1 I<|.aS I<|.nil<|.K [3,4,6,10,11,12,21,22,23] I<|.dr 5<|.A 4 I<|.Z h I (zbO _ _ _) λx93 h=>.nil<|.inline (rs:=[]) I I (.clos I I (zt1 I) I) Tryz.func59 I Tryz.ntmps59 I I I I (λown0 w gh=>.sA 2 I<|.K [2,3,4] I<|.dr 6<|.A 3 I<|.p I (.makeFunc I I)<|.Z h I (zcc _ _ _ _ _ (λq0 y hq=>⟨_,_,I,K60,zex _ q0 _ hq⟩) _ (λq0 y hq=>⟨_,_,I,K61,zdA _ q0 _ _ hq⟩)) λx94 h=>.p I (.ztY [_] I I E74 I (λ_=>I) I (enc:=Row.enc))<|.nil<|bK h λx95 q95 h=>.app I I I I I I I I E74 I (λ_=>I) q95<|.A 1 I<|.store I I I I I I (.cons (.vec I (by simp)) .nil) C74 I (yf I)<|.nil <| ⟨.inr I,_,I,(.nil (ndE h I))⟩)) λh=>.S 2 I<|.p I (.fa I (zwR _))<|.A 2 I<|.X h I λx96 h=>.A 1 I<|.so I<|.nil<|.K [3,4,6,10,11,12,21,22] I<|.sA 3 I<|.ztM I h (λh=>?_) λh=>?_
      · refine .dr 12<|.A 1 I<|.p I (.ztW I I I zwQ)<|.p I (.zue I I I Y55 (yf I) (v:=.d (Row.enc x96.row)) I)<|.A 1 I<|.p I (.ztW I I I zwQ)<|.p I (.zue I I I Y55 (yf I) (v:=.d (Row.enc x96.row)) I)<|.Z h I (zbO _ _ _) λx97 h=>.A 1 I<|.p I (.ztW I I I zwQ)<|.p I (.zue I I I Y55 (yf I) (v:=.d (Row.enc x96.row)) I)<|.Z h I (zbO _ _ _) λx98 h=>.A 1 I<|.nil<|.inline (rs:=[]) I I (.clos I I (zt1 I) I) Tryz.func59 I Tryz.ntmps59 I I I I (λown0 w gh=>.sA 2 I<|.K [2,3,4] I<|.dr 6<|.A 3 I<|.p I (.makeFunc I I)<|.Z h I (zcc _ _ _ _ _ (λq0 y hq=>⟨_,_,I,K60,zex _ q0 _ hq⟩) _ (λq0 y hq=>⟨_,_,I,K61,zdA _ q0 _ _ hq⟩)) λx99 h=>.p I (.ztY [_] I I E74 I (λ_=>I) I (enc:=Row.enc))<|.nil<|bK h λx100 q100 h=>.app I I I I I I I I E74 I (λ_=>I) q100<|.A 1 I<|.store I I I I I I (.cons (.vec I (by simp)) .nil) C74 I (yf I)<|.nil <| ⟨.inr I,_,I,(.nil (ndE h I))⟩)
      · refine .skip (ndE h I)
    · obtain ⟨b6_84,c9_0_85,c9_1_86,c9_2_87,c9_3_88,c9_4_89,c9_5_90⟩:=v
      refine .seq<|.S 2 I<|.e I<|.A 1 I<|.nil<|.K [4,6,10,11,12,22,196,197,198] I<|.block<|.L [4,6,10,11,12,22,196,197] h (λv=>[(198,.d (.int v.2))]) (λv=>[(3,wE3 x20 b6_84 v.1),(7,.vec 124 3 (List.map zuc.enc v.1))]) I λ_ ⟨b7_133,x134⟩ h=>.sA 1 I<|.K [4,6,10,11,12,22,196,197,198,199] I<|.seq<|.ztM I h (λh=>?_) λh=>?_
      · refine .skip<|.J [4,6,10,11,12,22,196,197,198] h (λv=>[]) (λv=>[(3,wE3 x20 b6_84 v),(7,.vec 124 3 (List.map zuc.enc v))]) I (λk_137 h=>?_) (λb7_136 h=>?_)
        · refine .block<|.sr<|.X h I λx138 h=>.A 1 I<|.aS I<|.nil<|.seq<|.sA 3 I<|.ztM I h (λh=>.exit (ndE h I)) λh=>.skip<|.seq<|.dr 5<|.A 3 I<|.Z h I (zdB _ _ _ _ (λq0 y hq=>⟨_,_,I,K63,zgE _ q0 _ hq⟩)) λx139 h=>.p I (.ztY [_] I I E84 I (λ_=>I) I (enc:=zuc.enc))<|.nil<|bK h λx140 q140 h=>.app I I I I I I I I E84 I (λ_=>I) q140<|.A 1 I<|.store I I I I I I (.cons (.vec I (by simp)) .nil) C84 I (yf I)<|.nil<|.J [4,6,10,11,12,22,25,196,197,198] h (λv=>[]) (λv=>[(3,wE3 x20 b6_84 v),(7,.vec 124 3 (List.map zuc.enc v))]) I (λk_142 h=>.S 2 I<|.Z h I (zeO _ _ _) λx143 h=>.e I<|.A 1 I<|.nil<|.K [4,6,10,11,12,22,25,196,197,198,216] I<|.ztM I h (λh=>.dr 6<|.A 3 I<|.p I (.makeFunc I I)<|.Z h I (zdB _ _ _ _ (λq0 y hq=>⟨_,_,I,K65,zgF _ q0 _ _ hq⟩)) λx144 h=>.p I (.ztY [_] I I E84 I (λ_=>I) I (enc:=zuc.enc))<|.nil<|bK h λx145 q145 h=>.app I I I I I I I I E84 I (λ_=>I) q145<|.A 1 I<|.store I I I I I I (.cons (.vec I (by simp)) .nil) C84 I (yf I)<|.nil (ndE h I)) λh=>.skip (ndE h I)) (λb7_141 h=>.seq<|.plain 12 I<|.A 6 I<|gK h λc147 h=>.jA 5 (decide (0<(((zz n x19 x138).getD default).length:Int))) I (λb146=>.A 2 I<|.q I (.call I (zt1 I) I (zeO _ _ _ _ (zt0 (impT c147 b146))))<|.qe I<|.A 1 I<|.nil I) (.nil<|.nil<|.K [4,6,10,11,12,22,25,196,197,198,236] I<|.ztM I h (λh=>.dr 6<|.A 3 I<|.p I (.makeFunc I I)<|.Z h I (zdB _ _ _ _ (λq0 y hq=>⟨_,_,I,K67,zgG _ q0 _ _ hq⟩)) λx148 h=>.p I (.ztY [_] I I E84 I (λ_=>I) I (enc:=zuc.enc))<|.nil<|bK h λx149 q149 h=>.app I I I I I I I I E84 I (λ_=>I) q149<|.A 1 I<|.store I I I I I I (.cons (.vec I (by simp)) .nil) C84 I (yf I)<|.nil (ndE h I)) λh=>.skip (ndE h I)))
        · refine .rA 2 I (ndE h I)
      · refine .exit<|.J [6,12] h (λv=>[]) (λv=>[(3,.box 87 [.d (eI x20),.vec 6 (List.length v.1),.vec 7 (List.length b7_133),.d (eP v.2)]),(6,.vec 55 2 (List.map Row.enc v.1))]) I (λk_152 h=>.sA 3 I<|.ztM I h (λh=>.S 2 I<|.p I (.zue I I I Y57 (yf I) (v:=.d (Constraint.enc (⟨c9_0_85,c9_1_86,(⟨c9_2_87,c9_3_88⟩:Row),c9_4_89,c9_5_90⟩:Constraint))) I)<|.A 2 I<|.Z h I (ziB _ _ _ _ _) λx153 h=>.A 1 I<|.so I<|.nil<|.S 2 I<|.e I<|.A 1 I<|.nil<|.ztM I h (λh=>.region<|.A 2 I<|.p I (.B (Row.enc ⟨[],(-1)⟩) Zc55 I)<|.p I (.ztY [_] I I E74 I (λ_=>I) I (enc:=Row.enc))<|bK h λx154 q154 h=>.app I I I I I I I I E74 I (λ_=>I) q154<|.A 1 I<|.store I I I I I I (.cons (.vec I (by simp)) .nil) C74 I (yf I)<|.nil (ndE h I)) λh=>.skip (ndE h I)) λh=>.skip (ndE h I)) (λv h=>?_)
        obtain ⟨b6_150,c3_3_151⟩:=v
        refine .seq<|.sr<|.p I (.zue I I I Y87 (yf I) I)<|bK h λx155 q155 h=>.p I (.zwW I (zt1 I) (.cons I (.agg (.v (.cons (.vec I (by simp)) (.cons (.vec I (by simp)) .v1)))) .nil) I (zdM _ _ _ q155))<|.A 1 I<|.nil<|.K [6,12,268] I<|.ztM I h (λh=>.sr<|.p I (.B (System.enc ⟨[],[],[],[]⟩) Zc87 I)<|.so I<|.A 1 I<|.nil<|.ret <| by cases h;exact za6 I I Y87 (.v (.v (.v .v1))) I (.d _)) λh=>.skip<|.sr<|.p I (.zue I I I Y87 (yf I) I)<|.store I I I I I I (.cons (.d I) (.cons (.vec I (by simp)) (.cons (.vec I (by simp)) (.cons (.d I) .nil)))) C87 I (yf I)<|.A 1 I<|.nil<|.ret <| by cases h;exact za6 I I Y87 (.v (.cons (.vec I (by simp)) (.cons (.vec I (by simp)) .v1))) I (.d _)
theorem zgN (n t0 t1 r) (h:zb3 n t0 t1=some r):Pure pg 266 [Term.enc t0,.ref (.int t1)] (.bool r):=by
 refine Pure.ot Tryz.func266 I Tryz.ntmps266 I λA w=>.sA 2 I<|.sA 5 I<|.ret (rO h I)
theorem zdw (n t0) (t1:Term→Option Bool) (F1:D) (hF1:∀ (q0:Term) (y:Bool),t1 q0=some y→Dyn pg F1 [Term.enc q0] (.bool y)) (r) (h:zG n t0 t1=some r):Pure pg 265 [eJ t0,F1] (.int r):=by
  refine Pure.ot Tryz.func265 I Tryz.ntmps265 I λA w=>.sA 1 I<|.seq<|.S 1 I<|.e I<|.A 1 I<|.nil<|.block<|.L [0,1,7] h (λv=>[(8,.d (.int v))]) (λv=>[]) I λ_ x7 h=>.sA 1 I<|.seq<|.ztM I h (λh=>.skip<|.seq<|.block<|.sA 2 I<|.S 3 I<|.X h I λx9 h=>.A 1 I<|bK h λx10 q10 h=>.p I (.dyn I I I (hF1 _ _ q10))<|.nil<|.ztM I h (λh=>.sA 2 I<|.ret (rO h I)) λh=>.skip<|.rA 2 I (ndE h I)) λh=>.exit<|.sA 1 I<|.ret (rO h I)
theorem zjH:Kd4 267 zbs Row.enc eI .int .int .int:=λn t0 t1 t2 t3 r h=>.ot Tryz.func267 I Tryz.ntmps267 I λA w=>.sA 2 I<|.sA 1 I<|.seq<|.S 2 I<|.e I<|.A 1 I<|.nil<|.block<|.L [1,2,3,14,15] h (λv=>[(9,.d (.int v.1)),(16,.d (.int v.2))]) (λv=>[]) I λ_ ⟨x13,x14⟩ h=>.sA 1 I<|.seq<|.ztM I h (λh=>.skip<|.J [1,2,3,14,15,16] h (λv=>[(9,.d (.int v))]) (λv=>[]) I (λk_17 h=>.block<|.sr<|.X h I λx18 h=>.A 1 I<|.aS I<|.nil<|.S 3 I<|.X h I λx19 h=>.A 1 I<|.aS I<|.nil<|.block<|.sA 5 I<|.K [1,2,3,9,11,12,14,15,16,32] I<|.ztM I h (λh=>.skip (ndE h I)) λh=>.sA 6 I<|.ztM I h (λh=>.rA 8 I (ndE h I)) λh=>.rA 8 I (ndE h I)) (λx16 h=>.rA 2 I (ndE h I))) λh=>.exit<|.sA 2 I<|.ret (rO h I)
theorem zdW:Kd2 179 zcz .int .int .int:=λn t0 t1 r h=>.ot Tryz.func179 I Tryz.ntmps179 I λA w=>.sA 1 I<|.S 2 I<|bK h λx1 q1 h=>.p I (.quo6 I I I q1)<|.A 1 I<|.nil<|.J [] h (λv=>[(5,.d (.int v))]) (λv=>[]) I (λk_3 h=>.seq<|.plain 11 I<|.A 2 I<|bK h λx4 q4 h=>.p I (.rem6 I I I q4)<|.A 2 I<|.jA 5 ((decide (t0<0)) != (decide (t1<0))) I (λb5=>.A 4 I<|.q I (.bne I U4 I I)<|.nil I) <| .nil<|.nil<|.K [5,19] I<|.ztM I h (λh=>.rA 3 I (ndE h I)) λh=>.skip (ndE h I)) (λx2 h=>.sA 2 I<|.K [4] I<|.ret (rO h I))
theorem zic:Kd3 230 zdg Row.enc eI .int Range.enc:=λn t0 t1 t2 r h=>by
  refine .ot Tryz.func230 I Tryz.ntmps230 I λA w=>.S 2 I<|.zua I I I I (.agg Zc83 (ds':=[.int 0,.int 0]) (.e .e1)) I<|.nil<|.S 2 I<|.X h I λx1 h=>.A 1 I<|.zua I I I I (.agg Zc83 (ds':=[.int 0,.int 0]) (.e .e1)) I<|.so I<|.nil<|.S 2 I<|.p I (.makeFunc I I)<|.Z h I (zdw _ _ _ _ (λq0 y hq=>⟨_,_,I,K266,zgN _ q0 _ _ hq⟩)) λx2 h=>.A 1 I<|.nil<|.seq<|.sA 2 I<|.K [1,3,5,6,7,8,20] I<|.ztM I h (λh=>.sr<|.p I (.zue I I I Y83 (yf I) (v:=.d (Range.enc x1)) I)<|.so I<|.nil<|.ret <| by cases h;exact zet I I Y83 (.v .v1)) λh=>.skip<|.seq<|.dr 15<|.A 3 I<|.X h I λx3 h=>.A 7 I<|.Z h I (zjH _ _ _ _ _) λx4 h=>.A 3 I<|.nil<|.nil<|.J [6,7] h (λv=>[]) (λv=>[(1,.box 83 [.d (.int v.1),.d (.int v.2)])]) I (λk_7 h=>.sA 2 I<|.K [6,7,9,10,36] I<|.ztM I h (λh=>.dr 7<|.A 4 I<|.Z h I (zdW _ _ _) λx8 h=>.p I (.min2 I I I)<|.A 1 I<|.nil<|.so I<|.nil (ndE h I)) λh=>.dr 9<|.A 4 I<|.p I (.neg6 I I)<|.Z h I (zdW _ _ _) λx9 h=>.p I (.neg6 I I)<|.p I (.max2 I I I)<|.A 1 I<|.nil<|.so I<|.nil (ndE h I)) (λv h=>?_)
  obtain ⟨c1_0_5,c1_1_6⟩:=v
  refine .seq<|.sr<|.p I (.zue I I I Y83 (yf I) (v:=.d (Range.enc (⟨c1_0_5,c1_1_6⟩:Range))) I)<|.Z h I (zfJ _ _) λx10 h=>.nil<|.K [6,7,54] I<|.ztM I h (λh=>.sr<|.p I (.B (Range.enc ⟨1,0⟩) Zc83 I)<|.so I<|.nil<|.ret <| by cases h;exact zet I I Y83 (.v .v1)) λh=>.skip<|.sr<|.p I (.zue I I I Y83 (yf I) (v:=.d (Range.enc (⟨c1_0_5,c1_1_6⟩:Range))) I)<|.so I<|.nil<|.ret <| by cases h;exact zet I I Y83 (.v .v1)
theorem zeQ:Kd3 196 zcw Row.enc eI .int Range.enc:=λn t0 t1 t2 r h=>.ot Tryz.func196 I Tryz.ntmps196 I λA w=>.S 1 I<|.zua I I I I (.agg Zc83 (ds':=[.int 0,.int 0]) (.e .e1)) I<|.nil<|.seq<|.seq<|.plain 15 I<|.A 2 I<|.p I (.ztY [_] I I E74 I (λ_=>I) I (enc:=Row.enc))<|.Z h I (zdV _ _ _) λx1 h=>.A 2 I<|.jO 2 (decide (t2<0)) I (λb2=>.A 2 I<|.nil I) <| .A 1 I<|.jO 4 (decide ((t1.length:Int)≤t2)) I (λb3=>.A 2 I<|.qe I<|.A 1 I<|.nil I) <| .nil<|.nil<|.K [1,2,3,6,21] I<|.ztM I h (λh=>.sr<|.p I (.B (Range.enc ⟨0,0⟩) Zc83 I)<|.so I<|.nil<|.ret <| by cases h;exact zet I I Y83 (.v .v1)) λh=>.skip<|.S 3 I<|.Z h I (zic _ _ _ _) λx4 h=>.so I<|.nil<|.ret <| by cases h;exact zet I I Y83 (.v .v1)
theorem zgJ:Kd3 264 zQ zuQ.enc .int .int eA:=λn t0 t1 t2 r h=>by
  refine .ot Tryz.func264 I Tryz.ntmps264 I λA w=>.S 1 I<|.p I (.nilS 1 (α:=Int) D.int I)<|.nil<|.S 2 I<|bK h λx1 q1 h=>.zvy (enc:=D.bool) (z:=(false:Bool)) I I I I E173 I I I (.val Zv4) q1<|.A 1 I<|.nil<|.S 2 I<|bK h λx2 q2 h=>.p I (.idxV I I I I I U173 S4 q2)<|bK h λb0_3 hb0_3 h=>.zuJ (enc:=D.bool) I I I I I I I I I C4 hb0_3<|.zuu 7 I (zag hb0_3)<|.zuu 14 I (zag hb0_3)<|.zuu 15 I (zag hb0_3)<|.nil<|.seq<|.S 1 I<|.p I (.ztY [_] I I E22 I (λ_=>I) I (enc:=D.int))<|.buildQue [_] I I I I I E51 I (λ_=>I) I (enc:=eA)<|.A 1 I<|.nil<|.block<|.L [2,3] h (λv=>[(7,.vec 0 (List.length v.1)),(8,.que 1 v.2.2)]) (λv=>[(0,.vec 4 1 (List.map D.bool v.1)),(1,.que v.2.2 22 1 (List.map eA v.2.1))]) I λ_ ⟨b0_114,b1_115,m1_116⟩ h=>.seq<|.S 1 I<|.p I (.lenQL I U51 I I)<|.A 1 I<|.nil<|.K [2,3,7,8,23] I<|.ztM I h (λh=>?_) λh=>?_
  · refine .skip<|.seq<|.block<|.S 1 I<|bK h λx118 q118 h=>.p I (.idxQ I I I I U51 S22 q118)<|.p I (.loadQ I I I q118 Y22 I)<|.A 1 I<|.nil<|.S 2 I<|.e I<|.A 1 I<|.X h I λx119 h=>.A 2 I<|.nil<|.seq<|.sA 3 I<|.ztM I h (λh=>.sA 2 I<|.K [6] I<|.ret <| by cases h;exact zbU I (.d _)) λh=>.skip<|.sA 3 I<|.K [2,3,7,8,9,10,40,41] I<|.block<|.L [2,3,9,10,40] h (λv=>[(7,.vec 0 (List.length v.1)),(8,.que 1 v.2.2.1),(41,.d (.int v.2.2.2))]) (λv=>[(0,.vec 4 1 (List.map D.bool v.1)),(1,.que v.2.2.1 22 1 (List.map eA v.2.1))]) I λ_ ⟨b0_152,b1_153,m1_154,x155⟩ h=>.sA 1 I<|.K [2,3,7,8,9,10,40,41,42] I<|.seq<|.ztM I h (λh=>?_) λh=>?_
    · refine .skip<|.J [2,3,9,10,40,41] h (λv=>[(7,.vec 0 (List.length v.1)),(8,.que 1 v.2.2)]) (λv=>[(0,.vec 4 1 (List.map D.bool v.1)),(1,.que v.2.2 22 1 (List.map eA v.2.1))]) I (λk_160 h=>?_) (λv h=>?_)
      · refine .block<|.sA 2 I<|.seq<|.plain 11 I<|.A 3 I<|.Z h I (zey _ _ _ _) λx161 h=>.A 1 I<|gK h λc163 h=>.jA 5 (!((idx b0_152 x155).getD default)) I (λb162=>.A 2 I<|.q I (.idxV I I I I I U173 S4 (zt0 (impT c163 b162)))<|.q I (.zwA I I I I (zt0 (impT c163 b162)) Y4 I)<|.A 1 I<|.nil I) <| .nil<|.nil<|.ztM I h (λh=>.S 2 I<|bK h λx164 q164 h=>.p I (.idxV I I I I I U173 S4 q164)<|bK h λb0_165 hb0_165 h=>.zuJ (enc:=D.bool) I I I I I I I I I C4 hb0_165<|.zuu 7 I (zag hb0_165)<|.zuu 55 I (zag hb0_165)<|.nil<|.K [2,3,7,8,9,10,11,40,41] I<|.region<|.A 2 I<|bK h λx166 q166 h=>.clone (enc:=D.int) I I I I (zt1 I) Tryz.func163 I I I I E22 I (λ_=>I) (λ_=>I) q166 I I<|.A 1 I<|.p I (.ztY [_] I I E22 I (λ_=>I) I (enc:=D.int))<|bK h λx167 q167 h=>.app I I I I I I I I E22 I (λ_=>I) q167<|.zud [2] (.cons (t:=63) I (.vec (zuG I) I (by simp)) .nil)<|.p I (.ztY [_] I I E51 I (λ_=>I) I (enc:=eA))<|bK h λx168 q168 h=>.queApp (enc:=eA) I I I I I I I E51 I (λ_=>I) (by simp) q168<|.A 1 I<|.nil (ndE h I)) λh=>.skip (ndE h I)
      · obtain ⟨b0_157,b1_158,m1_159⟩:=v
        refine .rA 2 I (ndE h I)
    · refine .exit<|.region<|.A 1 I<|bK h λx169 q169 h=>.queTail (enc:=eA) I I I I I I I U51 S22 q169<|.A 1 I<|.nil (ndE h I)
  · refine .exit<|.sr<|.p I (.nilS 1 (α:=Int) D.int I)<|.nil<|.ret <| by cases h;exact zbU I (.d _)
theorem zgI:Kd4 229 zed .int eH .int .int eA:=λn t0 t1 t2 t3 r h=>.ot Tryz.func229 I Tryz.ntmps229 I λA w=>.sr<|.p I (.nilS 1 (α:=Int) D.int I)<|.nil<|.S 2 I<|.Z h I (zgK _ _ _) λx1 h=>.A 3 I<|.aS I<|.A 1 I<|.nil<|.seq<|.seq<|.plain 20 I<|.A 3 I<|.jO 2 (decide (t2<0)) I (λb2=>.A 2 I<|.nil I) <| .A 1 I<|.jO 3 (decide (t0≤t2)) I (λb3=>.A 3 I<|.nil I) <| .A 1 I<|.jO 2 (decide (t3<0)) I (λb4=>.A 2 I<|.nil I) <| .A 1 I<|.jO 3 (decide (t0≤t3)) I (λb5=>.A 3 I<|.nil I) <| .nil<|.nil<|.K [2,3,9,36] I<|.ztM I h (λh=>.sr<|.p I (.nilS 1 (α:=Int) D.int I)<|.nil<|.ret <| by cases h;exact zbU I (.d _)) λh=>.skip<|.S 3 I<|.Z h I (zgJ _ _ _ _) λx6 h=>.A 1 I<|.nil<|.ret <| by cases h;exact zbU I (.d _)
theorem zkP:Kd3 219 zbh zuc.enc eI .int .bool:=λn t0 t1 t2 r h=>.ot Tryz.func219 I Tryz.ntmps219 I λA w=>.sA 2 I<|.S 2 I<|.e I<|bK h λx1 q1 h=>.zvy (enc:=D.bool) (z:=(false:Bool)) I I I I E173 I I I (.val Zv4) q1<|.A 1 I<|.nil<|.seq<|.S 2 I<|.e I<|.A 1 I<|.nil<|.block<|.L [1,2,3,15,16] h (λv=>[(7,.vec 0 (List.length v.1)),(17,.d (.int v.2))]) (λv=>[(0,.vec 4 1 (List.map D.bool v.1))]) I λ_ ⟨b0_14,x15⟩ h=>.sA 1 I<|.K [1,2,3,7,15,16,17,18] I<|.seq<|.ztM I h (λh=>.skip<|.seq<|.block<|.S 1 I<|.X h I λx17 h=>.A 3 I<|.nil<|.region<|.A 7 I<|.X h I λx18 h=>.A 4 I<|bK h λx19 q19 h=>.p I (.idxV I I I I I U173 S4 q19)<|bK h λb0_20 hb0_20 h=>.zuJ (enc:=D.bool) I I I I I I I I I C4 hb0_20<|.zuu 7 I (zag hb0_20)<|.zuu 22 I (zag hb0_20)<|.nil<|.K [1,2,3,7,15,16,17] I<|.rA 2 I (ndE h I)) λh=>.exit<|.seq<|.zud [0] (.cons (t:=7) I (.vec (zuG I) I (by simp)) .nil)<|.dr 15<|.A 6 I<|bK h λx24 q24 h=>.p I (.rem6 I I I q24)<|.A 3 I<|bK h λx25 q25 h=>.p I (.quo6 I I I q25)<|.Z h I (zgI _ _ _ _ _) λx26 h=>.e I<|.A 2 I<|.nil<|.nil<|.K [6] I<|.ret (rO h I)
theorem zcy:Kd1 129 zi eP eK:=λn t0 r h=>.ot Tryz.func129 I Tryz.ntmps129 I λA w=>.sr<|.p I (.nilS 2 (α:=Row) Row.enc I)<|.nil<|.sA 1 I<|.seq<|.S 1 I<|.e I<|.A 1 I<|.nil<|.block<|.L [0,9,10] h (λv=>[(3,.d (.int v.1)),(11,.d (.int v.2))]) (λv=>[]) I λ_ ⟨x7,x8⟩ h=>.sA 1 I<|.seq<|.ztM I h (λh=>.skip<|.seq<|.block<|.sr<|.X h I λx10 h=>.A 2 I<|.nil<|.S 2 I<|.e I<|.A 2 I<|.nil<|.sA 2 I<|.ztM I h (λh=>.region <| by cases h) λh=>.skip<|.rA 2 I (ndE h I)) λh=>.exit<|.S 1 I<|gK h λhg_11 h=>.growNil (α:=Row) (enc:=Row.enc) I I I I (zt1 I) I (zr4 Tryz.grow178 I I E74 I (of_decide_eq_true hg_11).1 (of_decide_eq_true hg_11).2)<|.A 1 I<|.nil<|.seq<|.S 1 I<|.e I<|.A 1 I<|.nil<|.block<|.L [25,26] h (λv=>[(6,.vec 0 (List.length v.1)),(27,.d (.int v.2))]) (λv=>[(0,.vec 55 2 (List.map Row.enc v.1))]) I λ_ ⟨b0_20,x21⟩ h=>.sA 1 I<|.K [6,25,26,27,28] I<|.seq<|.ztM I h (λh=>.skip<|.seq<|.block<|.sr<|.X h I λx23 h=>.A 2 I<|.nil<|.region<|.A 2 I<|bK h λx24 q24 h=>.app I I I I I I I I E74 I (λ_=>I) q24<|.A 1 I<|.nil<|.rA 2 I (ndE h I)) λh=>.exit<|.sA 2 I<|.ret <| by cases h;exact zbU I (.vec I (by simp))
theorem zhb:Kd1 131 zbz Range.enc .bool:=λn t0 r h=>.ot Tryz.func131 I Tryz.ntmps131 I λA w=>.sA 2 I<|.sA 6 I<|.ret (rO h I)
theorem ziJ:Kd1 132 zcN Range.enc .int:=λn t0 r h=>.ot Tryz.func132 I Tryz.ntmps132 I λA w=>.sA 2 I<|.seq<|.S 1 I<|.p I (.ztY [_] I I E80 I (λ_=>I) I (enc:=Range.enc))<|.Z h I (zgM _ _) λx1 h=>.A 1 I<|.nil<|.ztM I h (λh=>.sA 1 I<|.ret (rO h I)) λh=>.skip<|.S 5 I<|.Z h I (zdW _ _ _) λx2 h=>.A 1 I<|.nil<|.ret (rO h I)
theorem zhc (n:Nat) (self:zuj→(List Range)→Int→Option (Option (Found×zuj))) (hself:∀ (t0:zuj) (t1:List Range) (t2:Int) (r:Option (Found×zuj)),self t0 t1 t2=some r→zvG pg 72 (.iface 182 (.agg #[])) 132 [eI t0.s.box,eK t0.s.rows,eO t0.s.ztQ,eP t0.s.cases,eK t0.rows,.int t0.zt7,.int t0.cost] 83 2 (List.map Range.enc t1) [.int t2] (Option.map (λq=>(Found.enc q.1,[eI q.2.s.box,eK q.2.s.rows,eO q.2.s.ztQ,eP q.2.s.cases,eK q.2.rows,.int q.2.zt7,.int q.2.cost])) r)) (t0:zuj) (t1:List Range) (t2:Int) (r:Option (Found×zuj)) (h:za.body n self t0 t1 t2=some r):zvG pg 72 (.iface 182 (.agg #[])) 132 [eI t0.s.box,eK t0.s.rows,eO t0.s.ztQ,eP t0.s.cases,eK t0.rows,.int t0.zt7,.int t0.cost] 83 2 (List.map Range.enc t1) [.int t2] (Option.map (λq=>(Found.enc q.1,[eI q.2.s.box,eK q.2.s.rows,eO q.2.s.ztQ,eP q.2.s.cases,eK q.2.rows,.int q.2.zt7,.int q.2.cost])) r):=by
  refine zvG.zwB Tryz.func72 I I (by rw [Tryz.ntmps72];simp) λA b hdr w=>?_
  rw [Tryz.ntmps72]
  simp only [yL]
  refine .sr<|.zua I I I I (.agg zxd (ds':=[.osl 1 (List.map D.int []),.int 0,.int 0,.sl 3 (List.map Step.enc []),.int 0,.int 0,.sl 5 (List.map Tree.enc [])]) (.cons (.onil _) (.e (.e (.o (.e (.e .o1))))))) I<|.nil<|.S 1 I<|.zvl (rs:=[]) I I (.stat I (zt1 I) I) Tryz.func126 I Tryz.ntmps126 I I I I (λown0 w gh=>.seq<|.seq<|.dr 9<|.A 9 I<|.nil<|.nil<|.K [0,10] I<|.ztM I h (λh=>.region<|.p I (.build I Pl182 (.agg Zc182 (ds':=[]) .nil) I I)<|.p I (.zw3 I UE182 I (IsV.struct []))<|gK h λhl_2 h=> by cases h;exact .panic I I I (.inr ⟨_,I,.inr ⟨[eI t0.s.box,eK t0.s.rows,eO t0.s.ztQ,eP t0.s.cases,eK t0.rows,.int t0.zt7,.int t0.cost],I,I,I,_,_,_,I,(by simp)⟩⟩)) λh=>.skip<|.region<|.A 7 I<|.so I<|.nil<|.inl ⟨.inr I,_,⟨_,I,I⟩,(.nil<|.K [0,1,2,6] I<|.S 2 I<|.zvl (rs:=[.tmp 4,.tmp 5]) I I (.stat I (zt1 I) I) Tryz.func127 I Tryz.ntmps127 I I I I (λown0 w gh=>.sr<|.p I (.nilS 3 (α:=Step) Step.enc I)<|.A 1 I<|.nil<|.K [0,1] I<|.S 1 I<|.zve 6 3 149 I<|.nil<|.block<|.L [0] h (λv=>[(1,.vec 1 (List.length v.1)),(6,.vec 3 (List.length v.2.1))]) (λv=>[(0,wB t0 v.2.2),(1,wE4 v.1),(3,wE5 v.2.1)]) I λ_ ⟨b1_7431,b3_7432,c0_6_7433⟩ h=>.block<|.S 3 I<|.zvl (rs:=[.tmp 6,.tmp 7,.tmp 8]) I I (.stat I (zt1 I) I) Tryz.func177 I Tryz.ntmps177 I I I I (λown0 w gh=>?_)))⟩)
  refine .sr<|.box I I I I I (.cons (.loc I) .nil)<|.box I I I I I (.cons (.vec I (by simp)) .nil)<|.box I I I I I (.cons (.vec I (by simp)) .nil)<|.p I (.nilS 3 (α:=Step) Step.enc I)<|.A 2 I<|.nil<|.K [3,4,5] I<|.sr<|.zua I I I I (.val Zv4) I<|.so I<|.nil<|.sr<|.p I (.zu8 I I)<|.A 1 I<|.nil<|.seq<|.S 4 I<|.e I<|.A 1 I<|.nil<|.block<|.L [3,4,5,9,10,24,25] h (λv=>[(26,.d (.int v.2.2.2.2))]) (λv=>[(0,wB t0 v.2.2.1),(1,wE4 v.1),(3,wE5 v.2.1),(5,wE6 v.1),(6,wE7 v.2.1),(7,.box 4 [.d (.bool v.2.2.2.1)])]) I λ_ ⟨b1_8843,b3_8844,c0_6_8845,c7_0_8846,x8847⟩ h=>.sA 1 I<|.K [3,4,5,9,10,24,25,26,27] I<|.seq<|.ztM I h (λh=>?_) λh=>?_
  · refine .skip<|.seq<|.block<|.S 1 I<|.X h I λx8989 h=>.A 1 I<|.zua I I I I (.agg Zc55 (ds':=[eJ [],.int 0]) (.o .e1)) I<|.A 1 I<|.so I<|.nil<|.seq<|.seq<|.plain 9 I<|.A 2 I<|.e I<|.A 2 I<|.jA 3 (decide (x8989.bound<0)) I (λb8998=>.A 3 I<|.nil I) <| .nil<|.nil<|.ztM I h (λh=>?_) λh=>?_
    · refine .S 1 I<|.zvl (rs:=[]) I I (.stat I (zt1 I) I) Tryz.func126 I Tryz.ntmps126 I I I I (λown0 w gh=>.seq<|.seq<|.dr 9<|.A 9 I<|.nil<|.nil<|.K [0,10] I<|.ztM I h (λh=>.region<|.p I (.build I Pl182 (.agg Zc182 (ds':=[]) .nil) I I)<|.p I (.zw3 I UE182 I (IsV.struct []))<|gK h λhl_9000 h=> by cases h;exact .panic I I I (.inr ⟨_,I,.inr ⟨_,I,.inr ⟨_,I,.inr ⟨[eI t0.s.box,eK t0.s.rows,eO t0.s.ztQ,eP t0.s.cases,eK t0.rows,.int t0.zt7,.int c0_6_8845],I,I,I,_,_,_,I,(by simpa using of_decide_eq_true hl_9000)⟩⟩⟩⟩)) λh=>.skip<|.region<|.A 7 I<|.so I<|.nil<|.inl ⟨.inr I,_,⟨_,I,I⟩,(.nil<|.K [5,11] I<|.S 2 I<|.p I (.B (Step.enc ⟨0,x8847,(-1)⟩) Zc149 I)<|.p I (.ztY [_] I I E37 I (λ_=>I) I (enc:=Step.enc))<|bK h λx9001 q9001 h=>.app I I I I I I I I E37 I (λ_=>I) q9001<|.A 3 I<|.nil<|.ret<|.inl ⟨.inl I,_,⟨_,⟨_,_,I,I,⟨_,_,I,I,⟨_,_,I,I,I⟩⟩⟩,I⟩,(gK h λhl_9002 h=>.zuu 1 I (of_decide_eq_true hl_9002)<|.A 7 I<|.nil<|.K [0,1,7,8,9] I<|.sA 2 I<|.seq<|.plain 5 I<|.A 2 I<|.jO 2 (!true) I (λb9003=>.A 2 I<|.nil I) (.nil<|.nil<|.ztM I h (λh=>?_) λh=>?_))⟩)⟩)
      · refine .sA 4 I<|.ret<|.inl ⟨.inl I,_,⟨_,⟨_,_,I,I,⟨_,_,I,I,I⟩⟩,I⟩,(gK h λhl_9004 h=>.zuu 1 I (of_decide_eq_true hl_9004)<|.A 5 I<|.nil<|.K [0,1,2,6,7,8] I<|.seq<|.zud [3,6] (.cons (t:=7) I (.vec (zuG I) I (by simp)) .nil)<|.region<|.A 1 I<|.p I (.build I Pl40 (.agg Zc40 (ds':=[_,_,_,_,.val (.slice none 0 0)]) (.e (.e (.e (.e .e1))))) I I)<|.zua I I I I (.agg Zc40 (ds':=[.int 0,.sl 3 (List.map Step.enc []),.int 0,.int 0,.val (.slice none 0 0)]) (.e (.o (.e (.e .e1))))) I<|.zuC 9 4 5 40 I I<|.so I<|.zuC 9 4 5 40 I I<|.nil<|.seq<|.sA 1 I<|.zx3 I<|.seq<|.zud [9,11] (.cons (t:=9) (d:=.ref (.agg [.int 0,.sl 3 (List.map Step.enc x9001),.int 0,.int 0,.sl 5 (List.map Tree.enc ([]:List Tree))])) I (.loc (zuG I) I (.v (.v (.v (.v (.cons (.vec (zuG I) I (by simp)) .nil)))))) .nil)<|.eqD 9 I (congrArg D.ref (Tree.zvu (⟨0,x9001,0,0,([]:List Tree)⟩:Tree)).symm)<|.region<|.A 1 I<|.p I (.zvr (Found.enc (⟨[],0,(⟨0,x9001,0,0,([]:List Tree)⟩:Tree)⟩:Found)) (by simp only [Found.enc,Tree.zuo,Tree.enc] <;> rfl) (.build I zxK (.agg zxd (ds':=[.osl 1 (List.map D.int []),_,_,_,_,_,_]) (.cons (.onil _) (.e (.e (.e (.e (.e .e1))))))) I I))<|.so I<|.nil<|.K [6] I<|gK h λhl_9005 h=>.ret (by cases h;exact .inl ⟨_,_,_,_,I,I,I,I,Y134,I,_,_,_,I,(by simpa using of_decide_eq_true hl_9005)⟩))⟩
      · refine .skip (ndE h I)
    · refine .skip<|.S 2 I<|.e I<|.A 1 I<|.nil<|.K [3,4,5,9,10,11,12,24,25,26,48,49,50] I<|.block<|.L [3,4,5,9,10,11,12,24,25,26,48,49] h (λv=>[(50,.d (.int v.2.2.2.2))]) (λv=>[(0,wB t0 v.2.2.1),(1,wE4 v.1),(3,wE5 v.2.1),(5,wE6 v.1),(6,wE7 v.2.1),(7,.box 4 [.d (.bool v.2.2.2.1)])]) I λ_ ⟨b1_9086,b3_9087,c0_6_9088,c7_0_9089,x9090⟩ h=>.sA 1 I<|.K [3,4,5,9,10,11,12,24,25,26,48,49,50,51] I<|.seq<|.ztM I h (λh=>?_) λh=>?_
      · refine .skip<|.J [3,4,5,9,10,11,12,24,25,26,48,49,50] h (λv=>[]) (λv=>[(0,wB t0 v.2.2.1),(1,wE4 v.1),(3,wE5 v.2.1),(5,wE6 v.1),(6,wE7 v.2.1),(7,.box 4 [.d (.bool v.2.2.2)])]) I (λk_9111 h=>?_) (λv h=>?_)
        · refine .block<|.sr<|.X h I λx9113 h=>.A 1 I<|.aS I<|.nil<|.seq<|.dr 9<|.A 4 I<|.p I (.zue I I I Y55 (yf I) (v:=.d (Row.enc x8989)) I)<|.A 3 I<|bK h λx9114 q9114 h=>.p I (.zwW I (zt1 I) (.cons I (.d _) (.cons I (.vec I (by simp)) (.cons I (.d _) .nil))) I (zeQ _ _ _ _ _ q9114))<|.nil<|.zvl (rs:=[.tmp 12]) I I (.clos I I (zt1 I) I) Tryz.func218 I Tryz.ntmps218 I I I I (λown0 w gh=>.sA 2 I<|.K [0,1,2,4,5,6,7,11] I<|.seq<|.seq<|.dr 6<|.A 3 I<|bK h λx9116 q9116 h=>.p I (.idxV I I I I I U80 S83 q9116)<|.p I (.zwA I I I I q9116 Y83 I)<|.p I (.seql I SE83 I I (xs:=Range.vals _) (ys:=Range.vals _) I I I I (SQ83 _ _))<|.nil<|.nil<|.ztM I h (λh=>.sA 1 I<|.ret<|.inl ⟨.inl I,_,⟨_,⟨_,_,I,I,I⟩,I⟩,(.nil<|.K [3,4,5,9,10,11,12,24,25,26,48,49,50,63] I<|.zwX I<|.skip (ndE h I))⟩) λh=>.skip<|.S 1 I<|.zvl (rs:=[]) I I (.stat I (zt1 I) I) Tryz.func126 I Tryz.ntmps126 I I I I (λown0 w gh=>.seq<|.seq<|.dr 9<|.A 9 I<|.nil<|.nil<|.K [0,10] I<|.ztM I h (λh=>.region<|.p I (.build I Pl182 (.agg Zc182 (ds':=[]) .nil) I I)<|.p I (.zw3 I UE182 I (IsV.struct []))<|gK h λhl_9118 h=> by cases h;exact .panic I I I (.inr ⟨_,I,.inr ⟨_,I,.inr ⟨_,I,.inr ⟨_,I,.inr ⟨[eI t0.s.box,eK t0.s.rows,eO t0.s.ztQ,eP t0.s.cases,eK t0.rows,.int t0.zt7,.int c0_6_9088],I,I,I,_,_,_,I,(by simpa using of_decide_eq_true hl_9118)⟩⟩⟩⟩⟩)) λh=>.skip<|.region<|.A 7 I<|.so I<|.nil<|.inl ⟨.inr I,_,⟨_,I,I⟩,(.nil<|.K [0,1,2,4,6,7,11] I<|.S 3 I<|bK h λx9120 q9120 h=>.p I (.idxV I I I I I U80 S83 q9120)<|bK h λb1_9121 hb1_9121 h=>.zuJ (enc:=Range.enc) I I I I I I I I I C83 hb1_9121<|.zuu 21 I (zag hb1_9121)<|.zuS 5 0 I I (zag hb1_9121)<|.so I<|.nil<|.S 4 I<|.p I (.B (Step.enc ⟨0,x8847,x9113.cell⟩) Zc149 I)<|.p I (.ztY [_] I I E37 I (λ_=>I) I (enc:=Step.enc))<|bK h λx9122 q9122 h=>.app I I I I I I I I E37 I (λ_=>I) q9122<|.store I I I I I I (.cons (.vec I (by simp)) .nil) C37 I (yf I)<|.nil<|.sA 6 I<|.K [12] I<|.ret<|.inl ⟨.inl I,_,⟨_,⟨_,_,I,I,I⟩,I⟩,(.nil<|.K [3,4,5,9,10,11,12,24,25,26,48,49,50,63] I<|.ztM I h (λh=>?_) λh=>?_)⟩)⟩))
          · refine .sA 4 I<|.ret<|.inl ⟨.inl I,_,⟨_,⟨_,_,I,I,⟨_,_,I,I,⟨_,_,I,I,I⟩⟩⟩,I⟩,(gK h λhl_9123 h=>.zuu 1 I (of_decide_eq_true hl_9123)<|.A 7 I<|.nil<|.K [0,1,7,8,9] I<|.sA 2 I<|.seq<|.plain 5 I<|.A 2 I<|.jO 2 (!true) I (λb9124=>.A 2 I<|.nil I) (.nil<|.nil<|.ztM I h (λh=>?_) λh=>?_))⟩
            · refine .sA 4 I<|.ret<|.inl ⟨.inl I,_,⟨_,⟨_,_,I,I,⟨_,_,I,I,I⟩⟩,I⟩,(gK h λhl_9125 h=>.zuu 1 I (of_decide_eq_true hl_9125)<|.A 5 I<|.nil<|.K [0,1,2,6,7,8] I<|.seq<|.zud [3,6] (.cons (t:=7) I (.vec (zuG I) I (by simp)) .nil)<|.region<|.A 1 I<|.p I (.build I Pl40 (.agg Zc40 (ds':=[_,_,_,_,.val (.slice none 0 0)]) (.e (.e (.e (.e .e1))))) I I)<|.zua I I I I (.agg Zc40 (ds':=[.int 0,.sl 3 (List.map Step.enc []),.int 0,.int 0,.val (.slice none 0 0)]) (.e (.o (.e (.e .e1))))) I<|.zuC 9 4 5 40 I I<|.so I<|.zuC 9 4 5 40 I I<|.nil<|.seq<|.sA 1 I<|.zx3 I<|.seq<|.zud [9,11] (.cons (t:=9) (d:=.ref (.agg [.int 0,.sl 3 (List.map Step.enc x9122),.int 0,.int 0,.sl 5 (List.map Tree.enc ([]:List Tree))])) I (.loc (zuG I) I (.v (.v (.v (.v (.cons (.vec (zuG I) I (by simp)) .nil)))))) .nil)<|.eqD 9 I (congrArg D.ref (Tree.zvu (⟨0,x9122,0,0,([]:List Tree)⟩:Tree)).symm)<|.region<|.A 1 I<|.p I (.zvr (Found.enc (⟨[],0,(⟨0,x9122,0,0,([]:List Tree)⟩:Tree)⟩:Found)) (by simp only [Found.enc,Tree.zuo,Tree.enc] <;> rfl) (.build I zxK (.agg zxd (ds':=[.osl 1 (List.map D.int []),_,_,_,_,_,_]) (.cons (.onil _) (.e (.e (.e (.e (.e .e1))))))) I I))<|.so I<|.nil<|.K [6] I<|gK h λhl_9126 h=>.ret (by cases h;exact .inl ⟨_,_,_,_,I,I,I,I,Y134,I,_,_,_,I,(by simpa using of_decide_eq_true hl_9126)⟩))⟩
            · refine .skip (ndE h I)
          · refine .skip (ndE h I)
        · obtain ⟨b1_9107,b3_9108,c0_6_9109,c7_0_9110⟩:=v
          refine .rA 2 I (ndE h I)
      · refine .exit<|.rA 2 I (ndE h I)
  · refine .exit<|.seq<|.S 2 I<|.p I (.ztW I I I zps)<|.A 2 I<|.e I<|.A 1 I<|.nil<|.block<|.L [4,5,9,10,71,72] h (λv=>[(73,.d (.int v.2.2.2.2))]) (λv=>[(0,wB t0 v.2.2.1),(1,wE4 v.1),(3,wE5 v.2.1),(5,wE6 v.1),(6,wE7 v.2.1),(7,.box 4 [.d (.bool v.2.2.2.1)])]) I λ_ ⟨b1_10683,b3_10684,c0_6_10685,c7_0_10686,x10687⟩ h=>.sA 1 I<|.K [4,5,9,10,71,72,73,74] I<|.seq<|.ztM I h (λh=>?_) λh=>?_
    · refine .skip<|.seq<|.block<|.S 1 I<|.X h I λx10843 h=>.A 1 I<|.zua I I I I (.agg zx0 (ds':=[.int 0,.int 0,eA []]) (.e (.e .o1))) I<|.A 1 I<|.so I<|.nil<|.S 2 I<|.e I<|.A 1 I<|.nil<|.block<|.L [4,5,9,10,15,16,71,72,73,79,80] h (λv=>[(81,.d (.int v.2.2.2.2))]) (λv=>[(0,wB t0 v.2.2.1),(1,wE4 v.1),(3,wE5 v.2.1),(5,wE6 v.1),(6,wE7 v.2.1),(7,.box 4 [.d (.bool v.2.2.2.1)])]) I λ_ ⟨b1_10944,b3_10945,c0_6_10946,c7_0_10947,x10948⟩ h=>.sA 1 I<|.K [4,5,9,10,15,16,71,72,73,79,80,81,82] I<|.seq<|.ztM I h (λh=>?_) λh=>?_
      · refine .skip<|.J [4,5,9,10,15,16,71,72,73,79,80,81] h (λv=>[]) (λv=>[(0,wB t0 v.2.2.1),(1,wE4 v.1),(3,wE5 v.2.1),(5,wE6 v.1),(6,wE7 v.2.1),(7,.box 4 [.d (.bool v.2.2.2)])]) I (λk_10974 h=>?_) (λv h=>?_)
        · refine .block<|.S 1 I<|.X h I λx10976 h=>.A 3 I<|.nil<|.S 5 I<|bK h λx10978 q10978 h=>.p I (.idxV I I I I I U80 S83 q10978)<|.p I (.zwA I I I I q10978 Y83 I)<|.zua I I I I (.agg Zc83 (ds':=[.int 0,.int 0]) (.e .e1)) I<|.so I<|.nil<|.seq<|.seq<|.plain 11 I<|.A 5 I<|gK h λc10982 h=>.jO 5 (!((zbh n x10843 b1_10944 x10948).getD default)) I (λb10981=>.q I (.zue I I I Y124 (yf I) (v:=.d (zuc.enc x10843)) I)<|.A 2 I<|.q I (.zwW I (zt1 I) (.cons I (.d _) (.cons I (.vec I (by simp)) (.cons I (.d _) .nil))) I (zkP _ _ _ _ _ (zt0 (impF c10982 b10981))))<|.A 1 I<|.nil I) <| .nil<|.nil<|.K [4,5,9,10,15,16,17,18,19,71,72,73,79,80,81,103] I<|.ztM I h (λh=>.exit (ndE h I)) λh=>.skip<|.S 3 I<|.so I<|.nil<|.S 6 I<|.p I (.zue I I I Y83 (yf I) (v:=.d (Range.enc (⟨x10978.lo,zt2 x10976 1⟩:Range))) I)<|.zvl (rs:=[.tmp 12]) I I (.clos I I (zt1 I) I) Tryz.func218 I Tryz.ntmps218 I I I I (λown0 w gh=>.sA 2 I<|.K [0,1,2,4,5,6,7,11] I<|.seq<|.seq<|.dr 6<|.A 3 I<|bK h λx10984 q10984 h=>.p I (.idxV I I I I I U80 S83 q10984)<|.p I (.zwA I I I I q10984 Y83 I)<|.p I (.seql I SE83 I I (xs:=Range.vals _) (ys:=Range.vals _) I I I I (SQ83 _ _))<|.nil<|.nil<|.ztM I h (λh=>.sA 1 I<|.ret<|.inl ⟨.inl I,_,⟨_,⟨_,_,I,I,I⟩,I⟩,(.nil<|.K [4,5,9,10,15,16,71,72,73,79,80,81,114] I<|.zwX I<|.skip (ndE h I))⟩) λh=>.skip<|.S 1 I<|.zvl (rs:=[]) I I (.stat I (zt1 I) I) Tryz.func126 I Tryz.ntmps126 I I I I (λown0 w gh=>.seq<|.seq<|.dr 9<|.A 9 I<|.nil<|.nil<|.K [0,10] I<|.ztM I h (λh=>.region<|.p I (.build I Pl182 (.agg Zc182 (ds':=[]) .nil) I I)<|.p I (.zw3 I UE182 I (IsV.struct []))<|gK h λhl_10986 h=> by cases h;exact .panic I I I (.inr ⟨_,I,.inr ⟨_,I,.inr ⟨_,I,.inr ⟨_,I,.inr ⟨[eI t0.s.box,eK t0.s.rows,eO t0.s.ztQ,eP t0.s.cases,eK t0.rows,.int t0.zt7,.int c0_6_10946],I,I,I,_,_,_,I,(by simpa using of_decide_eq_true hl_10986)⟩⟩⟩⟩⟩)) λh=>.skip<|.region<|.A 7 I<|.so I<|.nil<|.inl ⟨.inr I,_,⟨_,I,I⟩,?_⟩))
          refine .nil<|.K [0,1,2,4,6,7,11] I<|.S 3 I<|bK h λx10988 q10988 h=>.p I (.idxV I I I I I U80 S83 q10988)<|bK h λb1_10989 hb1_10989 h=>.zuJ (enc:=Range.enc) I I I I I I I I I C83 hb1_10989<|.zuu 21 I (zag hb1_10989)<|.zuS 5 0 I I (zag hb1_10989)<|.so I<|.nil<|.S 4 I<|.p I (.B (Step.enc ⟨1,x10687,ztJ x10843.first x10948⟩) Zc149 I)<|.p I (.ztY [_] I I E37 I (λ_=>I) I (enc:=Step.enc))<|bK h λx10990 q10990 h=>.app I I I I I I I I E37 I (λ_=>I) q10990<|.store I I I I I I (.cons (.vec I (by simp)) .nil) C37 I (yf I)<|.nil<|.sA 6 I<|.K [12] I<|.ret<|.inl ⟨.inl I,_,⟨_,⟨_,_,I,I,I⟩,I⟩,(.nil<|.K [4,5,9,10,15,16,71,72,73,79,80,81,114] I<|.ztM I h (λh=>?_) λh=>?_)⟩
          · refine .sA 4 I<|.ret<|.inl ⟨.inl I,_,⟨_,⟨_,_,I,I,⟨_,_,I,I,⟨_,_,I,I,I⟩⟩⟩,I⟩,(gK h λhl_10991 h=>.zuu 1 I (of_decide_eq_true hl_10991)<|.A 7 I<|.nil<|.K [0,1,7,8,9] I<|.sA 2 I<|.seq<|.plain 5 I<|.A 2 I<|.jO 2 (!true) I (λb10992=>.A 2 I<|.nil I) (.nil<|.nil<|.ztM I h (λh=>?_) λh=>?_))⟩
            · refine .sA 4 I<|.ret<|.inl ⟨.inl I,_,⟨_,⟨_,_,I,I,⟨_,_,I,I,I⟩⟩,I⟩,(gK h λhl_10993 h=>.zuu 1 I (of_decide_eq_true hl_10993)<|.A 5 I<|.nil<|.K [0,1,2,6,7,8] I<|.seq<|.zud [3,6] (.cons (t:=7) I (.vec (zuG I) I (by simp)) .nil)<|.region<|.A 1 I<|.p I (.build I Pl40 (.agg Zc40 (ds':=[_,_,_,_,.val (.slice none 0 0)]) (.e (.e (.e (.e .e1))))) I I)<|.zua I I I I (.agg Zc40 (ds':=[.int 0,.sl 3 (List.map Step.enc []),.int 0,.int 0,.val (.slice none 0 0)]) (.e (.o (.e (.e .e1))))) I<|.zuC 10 4 5 40 I I<|.so I<|.zuC 10 4 5 40 I I<|.nil<|.seq<|.sA 1 I<|.zx3 I<|.seq<|.zud [10,12] (.cons (t:=9) (d:=.ref (.agg [.int 0,.sl 3 (List.map Step.enc x10990),.int 0,.int 0,.sl 5 (List.map Tree.enc ([]:List Tree))])) I (.loc (zuG I) I (.v (.v (.v (.v (.cons (.vec (zuG I) I (by simp)) .nil)))))) .nil)<|.eqD 9 I (congrArg D.ref (Tree.zvu (⟨0,x10990,0,0,([]:List Tree)⟩:Tree)).symm)<|.region<|.A 1 I<|.p I (.zvr (Found.enc (⟨[],0,(⟨0,x10990,0,0,([]:List Tree)⟩:Tree)⟩:Found)) (by simp only [Found.enc,Tree.zuo,Tree.enc] <;> rfl) (.build I zxK (.agg zxd (ds':=[.osl 1 (List.map D.int []),_,_,_,_,_,_]) (.cons (.onil _) (.e (.e (.e (.e (.e .e1))))))) I I))<|.so I<|.nil<|.K [6] I<|gK h λhl_10994 h=>.ret (by cases h;exact .inl ⟨_,_,_,_,I,I,I,I,Y134,I,_,_,_,I,(by simpa using of_decide_eq_true hl_10994)⟩))⟩
            · refine .skip (ndE h I)
          · refine .skip (ndE h I)
        · obtain ⟨b1_10970,b3_10971,c0_6_10972,c7_0_10973⟩:=v
          refine .rA 2 I (ndE h I)
      · refine .exit<|.rA 2 I (ndE h I)
    · refine .exit<|.seq<|.dr 5<|.A 5 I<|.nil<|.nil<|.ret<|.inl ⟨.inl I,_,⟨_,⟨_,_,I,I,⟨_,_,I,I,⟨_,_,I,I,I⟩⟩⟩,I⟩,(gK h λhl_10995 h=>.zuu 1 I (of_decide_eq_true hl_10995)<|.A 7 I<|.nil<|.K [0,1,7,8,9] I<|.sA 2 I<|.seq<|.plain 5 I<|.A 2 I<|.jO 2 (!c7_0_10686) I (λb10996=>.A 2 I<|.nil I) (.nil<|.nil<|.ztM I h (λh=>?_) λh=>?_))⟩
      · refine .sA 4 I<|.ret<|.inl ⟨.inl I,_,⟨_,⟨_,_,I,I,⟨_,_,I,I,I⟩⟩,I⟩,(gK h λhl_10997 h=>.zuu 1 I (of_decide_eq_true hl_10997)<|.A 5 I<|.nil<|.K [0,1,2,6,7,8] I<|.seq<|.zud [3,6] (.cons (t:=7) I (.vec (zuG I) I (by simp)) .nil)<|.region<|.A 1 I<|.p I (.build I Pl40 (.agg Zc40 (ds':=[_,_,_,_,.val (.slice none 0 0)]) (.e (.e (.e (.e .e1))))) I I)<|.zua I I I I (.agg Zc40 (ds':=[.int 0,.sl 3 (List.map Step.enc []),.int 0,.int 0,.val (.slice none 0 0)]) (.e (.o (.e (.e .e1))))) I<|.zuC 8 4 5 40 I I<|.so I<|.zuC 8 4 5 40 I I<|.nil<|.seq<|.sA 1 I<|.zwX I<|.skip<|.sr<|.p I (.zu8 I I)<|.A 1 I<|.nil<|.K [0,1,2,6,9,10] I<|.seq<|.seq<|.plain 11 I<|.A 2 I<|.p I (.ztW I I I zps)<|.A 2 I<|.e I<|.A 2 I<|.jA 2 (decide (t2<0)) I (λb10998=>.A 2 I<|.nil I) (.nil<|.nil<|.ztM I h (λh=>?_) λh=>?_))⟩
        · refine .S 1 I<|.so I<|.nil<|.seq<|.S 2 I<|.p I (.ztW I I I zps)<|.A 2 I<|.e I<|.A 1 I<|.nil<|.K [0,1,6,9,10,53,54,55] I<|.block<|.L [0,1,6,9,10,53,54] h (λv=>[(55,.d (.int v.2.2.2.2.2.2.2.2))]) (λv=>[(0,.box 132 [.d (eI v.2.1),.d (eK v.2.2.1),.d (eO v.2.2.2.1),.d (eP v.2.2.2.2.1),.d (eK v.2.2.2.2.2.1),.d (.int v.2.2.2.2.2.2.1),.d (.int v.2.2.2.2.2.2.2.1)]),(8,.box 40 [.d (.int 2),.d (.sl 3 (List.map Step.enc b3_10684)),.d (.int 0),.d (.int 0),.vec 10 (List.length v.1)]),(10,.vec 40 5 (List.map Tree.enc v.1))]) I λ_ ⟨b10_11039,c0_0_11040,c0_1_11041,c0_2_11042,c0_3_11043,c0_4_11044,c0_5_11045,c0_6_11046,x11047⟩ h=>.sA 1 I<|.K [0,1,6,9,10,53,54,55,56] I<|.seq<|.ztM I h (λh=>?_) λh=>?_
          · refine .skip<|.seq<|.block<|.S 1 I<|.X h I λx11049 h=>.A 3 I<|.nil<|.S 3 I<|.p I (.ztW I I I zps)<|.A 3 I<|.p I (.ztY [_,_] I I E85 I (λ_=>I) I (enc:=eK))<|.Z h I (zcy _ _) λx11050 h=>.A 2 I<|.so I<|.nil<|.K [0,1,6,9,10,11,53,54,55] I<|.S 2 I<|bK h λx11051 q11051 h=>.cloneB (enc:=Range.enc) I I I I (zt1 I) Tryz.func73 I I I I I I E80 I (λ_=>I) (λ_=>I) (λ_=>I) q11051<|.A 1 I<|gK h λhl_11052 h=>bK h λy_11053 hy_11053 h=> ?_
            obtain ⟨ey_11053,e2y_11053⟩ | ⟨x11054,ey_11053,h⟩:=pnkS h
            · subst ey_11053 e2y_11053
              exact .zyr (bi:=0) (vi:=11) (hself _ _ _ _ hy_11053) I I I (.stat I (zt1 I) I) I (yL _).symm I I (λcs2=>.inr ⟨cs2,I,I,I,_,_,_,I,(by simpa using of_decide_eq_true hl_11052)⟩)
            · subst ey_11053
              refine .zys (bi:=0) (vi:=11) (hself _ _ _ _ hy_11053) I I I (.stat I (zt1 I) I) I (yL _).symm I I<|.aS I<|.nil<|.S 2 I<|.zvl (rs:=[.tmp 3]) I I (.clos I I (zt1 I) I) Tryz.func128 I Tryz.ntmps128 I I I I (λown0 w gh=>.sA 2 I<|.K [2,1] I<|.seq<|bK h λx11055 q11055 h=>bK h λx11057 q11057 h=>bK h λb10_11058 hb10_11058 h=> ?_)
              refine zNF I I ?_
              refine kidsR Tryz.func128 I I q11055 q11057 hb10_11058 ?_
              refine .S 2 I<|.p I (.zyl I U22 I)<|.A 1 I<|.nil<|.ret<|.inl ⟨.inl I,_,⟨_,⟨_,_,I,I,I⟩,I⟩,(.nil<|.K [0,1,6,9,10,13,53,54,55,78] I<|.ztM I h (λh=>.S 1 I<|.so I<|.nil<|gK h λhl_11059 h=>.ret <| by cases h;exact .inl ⟨_,_,_,_,I,I,I,I,Y134,I,_,_,_,I,(by simpa using of_decide_eq_true hl_11059)⟩) λh=>.skip<|.rA 2 I (ndE h I))⟩
          · refine .exit<|.seq<|.zud [8,10] (.cons (t:=9) (d:=.ref (.agg [.int 2,.sl 3 (List.map Step.enc b3_10684),.int 0,.int 0,.sl 5 (List.map Tree.enc b10_11039)])) I (.loc (zuG I) I (.v (.v (.v (.v (.cons (.vec (zuG I) I (by simp)) .nil)))))) .nil)<|.eqD 9 I (congrArg D.ref (Tree.zvu (⟨2,b3_10684,0,0,b10_11039⟩:Tree)).symm)<|.region<|.A 1 I<|.p I (.zvr (Found.enc (⟨[],0,(⟨2,b3_10684,0,0,b10_11039⟩:Tree)⟩:Found)) (by simp only [Found.enc,Tree.zuo,Tree.enc] <;> rfl) (.build I zxK (.agg zxd (ds':=[.osl 1 (List.map D.int []),_,_,_,_,_,_]) (.cons (.onil _) (.e (.e (.e (.e (.e .e1))))))) I I))<|.so I<|.nil<|gK h λhl_11060 h=>.ret <| by cases h;exact .inl ⟨_,_,_,_,I,I,I,I,Y134,I,_,_,_,I,(by simpa using of_decide_eq_true hl_11060)⟩
        · refine .skip<|.S 1 I<|bK h λx11061 q11061 h=>.p I (.zwW I (zt1 I) (.cons I (.vec I (by simp)) (.cons I (.d _) .nil)) I (zbJ _ _ _ _ (λq0 y hq=>⟨_,_,I,K131,zhb _ q0 _ hq⟩) _ q11061))<|.A 1 I<|.nil<|.seq<|.sA 2 I<|.K [0,1,2,6,9,10,14,86] I<|.ztM I h (λh=>?_) λh=>?_
          · refine .S 1 I<|.p I (.lenV I U80 I I I)<|bK h λx11062 q11062 h=>.zvy (enc:=D.int) (z:=(0:Int)) I I I I E22 I I I (.val Zv3) q11062<|.A 1 I<|.nil<|.seq<|.S 1 I<|.p I (.lenV I U80 I I I)<|.A 1 I<|.nil<|.block<|.L [2,6,90,91] h (λv=>[(15,.vec 11 (List.length v.1)),(92,.d (.int v.2))]) (λv=>[(11,.vec 3 1 (List.map D.int v.1))]) I λ_ ⟨b11_11073,x11074⟩ h=>.sA 1 I<|.K [2,6,15,90,91,92,93] I<|.seq<|.ztM I h (λh=>.skip<|.seq<|.block<|.S 1 I<|bK h λx11076 q11076 h=>.p I (.idxV I I I I I U80 S83 q11076)<|.p I (.zwA I I I I q11076 Y83 I)<|.zua I I I I (.agg Zc83 (ds':=[.int 0,.int 0]) (.e .e1)) I<|.A 1 I<|.so I<|.nil<|.region<|.A 4 I<|bK h λx11077 q11077 h=>.p I (.idxV I I I I I U22 S3 q11077)<|bK h λb11_11078 hb11_11078 h=>.zuJ (enc:=D.int) I I I I I I I I I C3 hb11_11078<|.zuu 15 I (zag hb11_11078)<|.zuu 97 I (zag hb11_11078)<|.nil<|.rA 2 I (ndE h I)) λh=>.exit<|.seq<|.zud [11] (.cons (t:=15) I (.vec (zuG I) I (by simp)) .nil)<|.region<|.A 2 I<|.p I (.max2 I I I)<|gK h λho_11079 h=>.toOsl 103 I (by simpa using ho_11079)<|.p I (.zvr (Found.enc (⟨b11_11073,(gmax t2 0),(⟨0,[],0,0,[]⟩:Tree)⟩:Found)) (by simp only [Found.enc,Tree.zuo,Tree.enc] <;> rfl) (.build I zxK (.agg zxd (ds':=[_,_,_,.sl 3 (List.map Step.enc []),_,_,.sl 5 (List.map Tree.enc [])]) (.e (.e (.e (.o (.e (.e .o1))))))) I I))<|.so I<|.nil<|gK h λhl_11080 h=>.ret <| by cases h;exact .inl ⟨_,_,_,_,I,I,I,I,Y134,I,_,_,_,I,(by simpa using of_decide_eq_true hl_11080)⟩
          · refine .skip<|.S 2 I<|bK h λx11081 q11081 h=>.p I (.idxV I I I I I U80 S83 q11081)<|.p I (.zwA I I I I q11081 Y83 I)<|.Z h I (ziJ _ _) λx11082 h=>.A 1 I<|.nil<|.S 3 I<|.so I<|.A 1 I<|.so I<|.A 1 I<|.so I<|.nil<|.seq<|.seq<|.dr 18<|.A 2 I<|bK h λx11083 q11083 h=>.p I (.idxV I I I I I U80 S83 q11083)<|.p I (.zvJ I I I (by simp) F83_0)<|.p I (.zv1 I I I I q11083 Y3 I I I (y:=.int _))<|.A 1 I<|.p I (.B (Range.enc ⟨x11083.lo,x11082⟩) Zc83 I)<|.A 4 I<|bK h λx11084 q11084 h=>.p I (.idxV I I I I I U80 S83 q11084)<|.p I (.zvJ I I I (by simp) zxV)<|.p I (.zv1 I I I I q11084 Y3 I I I (y:=.int _))<|.p I (.B (Range.enc ⟨ztJ x11082 1,x11084.hi⟩) Zc83 I)<|.p I (.ztY [_,_] I I E80 I (λ_=>I) I (enc:=Range.enc))<|.e I<|.A 1 I<|.nil<|.nil<|.K [0,1,2,6,9,10,14,132,133,134] I<|.block<|.L [0,1,2,6,9,10,14,132,133] h (λv=>[(134,.d (.int v.2.2.2.2.2.2.2.2))]) (λv=>[(0,.box 132 [.d (eI v.2.1),.d (eK v.2.2.1),.d (eO v.2.2.2.1),.d (eP v.2.2.2.2.1),.d (eK v.2.2.2.2.2.1),.d (.int v.2.2.2.2.2.2.1),.d (.int v.2.2.2.2.2.2.2.1)]),(8,.box 40 [.d (.int 1),.d (.sl 3 (List.map Step.enc b3_10684)),.d (.int x11061),.d (.int x11082),.vec 10 (List.length v.1)]),(10,.vec 40 5 (List.map Tree.enc v.1))]) I λ_ ⟨b10_11127,c0_0_11128,c0_1_11129,c0_2_11130,c0_3_11131,c0_4_11132,c0_5_11133,c0_6_11134,x11135⟩ h=> .sA 1 I<|.K [0,1,2,6,9,10,14,132,133,134,135] I<|.seq<|.ztM I h (λh=>?_) λh=>?_
            · refine .skip<|.seq<|.block<|.sr<|.X h I λx11137 h=>.A 1 I<|.aS I<|.nil<|.S 1 I<|bK h λx11138 q11138 h=>.cloneB (enc:=Range.enc) I I I I (zt1 I) Tryz.func73 I I I I I I E80 I (λ_=>I) (λ_=>I) (λ_=>I) q11138<|.A 1 I<|.nil<|.S 3 I<|bK h λx11139 q11139 h=>.p I (.idxV I I I I I U80 S83 q11139)<|bK h λb11_11140 hb11_11140 h=>.zuJ (enc:=Range.enc) I I I I I I I I I C83 hb11_11140<|.zuu 21 I (zag hb11_11140)<|.zuu 139 I (zag hb11_11140)<|.zuu 140 I (zag hb11_11140)<|.nil<|.S 3 I<|gK h λhl_11141 h=>bK h λy_11142 hy_11142 h=> ?_
              obtain ⟨ey_11142,e2y_11142⟩ | ⟨x11143,ey_11142,h⟩:=pnkS h
              · subst ey_11142 e2y_11142
                exact .zyr (bi:=0) (vi:=11) (hself _ _ _ _ hy_11142) I I I (.stat I (zt1 I) I) I (yL _).symm I I (λcs2=>.inr ⟨cs2,I,I,I,_,_,_,I,(by simpa using of_decide_eq_true hl_11141)⟩)
              · subst ey_11142
                refine .zys (bi:=0) (vi:=11) (hself _ _ _ _ hy_11142) I I I (.stat I (zt1 I) I) I (yL _).symm I I<|.aS I<|.nil<|.K [0,1,2,6,9,10,14,22,132,133,134] I<|.S 2 I<|.zvl (rs:=[.tmp 3]) I I (.clos I I (zt1 I) I) Tryz.func128 I Tryz.ntmps128 I I I I (λown0 w gh=>.sA 2 I<|.K [2,1] I<|.seq<|bK h λx11144 q11144 h=>bK h λx11146 q11146 h=>bK h λb10_11147 hb10_11147 h=> ?_)
                refine zNF I I ?_
                refine kidsR Tryz.func128 I I q11144 q11146 hb10_11147 ?_
                refine .S 2 I<|.p I (.zyl I U22 I)<|.A 1 I<|.nil<|.ret<|.inl ⟨.inl I,_,⟨_,⟨_,_,I,I,I⟩,I⟩,(.nil<|.K [0,1,2,6,9,10,14,22,132,133,134,150] I<|.ztM I h (λh=>.S 1 I<|.so I<|.nil<|gK h λhl_11148 h=>.ret <| by cases h;exact .inl ⟨_,_,_,_,I,I,I,I,Y134,I,_,_,_,I,(by simpa using of_decide_eq_true hl_11148)⟩) λh=>.skip<|.rA 2 I (ndE h I))⟩
            · refine .exit<|.seq<|.zud [8,10] (.cons (t:=9) (d:=.ref (.agg [.int 1,.sl 3 (List.map Step.enc b3_10684),.int x11061,.int x11082,.sl 5 (List.map Tree.enc b10_11127)])) I (.loc (zuG I) I (.v (.v (.v (.v (.cons (.vec (zuG I) I (by simp)) .nil)))))) .nil)<|.eqD 9 I (congrArg D.ref (Tree.zvu (⟨1,b3_10684,x11061,x11082,b10_11127⟩:Tree)).symm)<|.region<|.A 1 I<|.p I (.zvr (Found.enc (⟨[],0,(⟨1,b3_10684,x11061,x11082,b10_11127⟩:Tree)⟩:Found)) (by simp only [Found.enc,Tree.zuo,Tree.enc] <;> rfl) (.build I zxK (.agg zxd (ds':=[.osl 1 (List.map D.int []),_,_,_,_,_,_]) (.cons (.onil _) (.e (.e (.e (.e (.e .e1))))))) I I))<|.so I<|.nil<|gK h λhl_11149 h=>.ret <| by cases h;exact .inl ⟨_,_,_,_,I,I,I,I,Y134,I,_,_,_,I,(by simpa using of_decide_eq_true hl_11149)⟩
      · refine .skip (ndE h I)
theorem zdm  : ∀ (n:Nat) (t0:zuj) (t1:List Range) (t2:Int) (r:Option (Found×zuj)) (h:za n t0 t1 t2=some r),zvG pg 72 (.iface 182 (.agg #[])) 132 [eI t0.s.box,eK t0.s.rows,eO t0.s.ztQ,eP t0.s.cases,eK t0.rows,.int t0.zt7,.int t0.cost] 83 2 (List.map Range.enc t1) [.int t2] (Option.map (λq=>(Found.enc q.1,[eI q.2.s.box,eK q.2.s.rows,eO q.2.s.ztQ,eP q.2.s.cases,eK q.2.rows,.int q.2.zt7,.int q.2.cost])) r)
 | 0,t0,t1,t2,r,h=>by cases h
 | n+1,t0,t1,t2,r,h=>zhc n (za n) (zdm n) t0 t1 t2 r h
abbrev wE8:=(.box 91 [.d (.int 0),.d (.int 0),.d (eA []),.d (.int 0),.d (.sl 3 (List.map Step.enc [])),.d (.int 0),.d (.int 0),.d (.sl 5 (List.map Tree.enc [])),.d (.int 0)]:Blk)
abbrev wE9 a b c d e:=(.box 132 [.d (eI a),.d (eK b),.d (eO c),.d (eP d),.d (eK b),.d (.int e),.d (.int 0)]:Blk)
abbrev wE10:=(.box 134 [.d (.osl 1 (List.map D.int [])),.d (.int 0),.d (.int 0),.d (.sl 3 (List.map Step.enc [])),.d (.int 0),.d (.int 0),.d (.sl 5 (List.map Tree.enc []))]:Blk)
theorem zmu (n t0 t1 r) (h:zgf n t0 t1=some r):Pure pg 27 [System.enc t0,.int t1] (.tup [Answer.enc r.1,.int r.2]):=by
  refine Pure.ot Tryz.func27 I Tryz.ntmps27 I λA w=>.S 1 I<|.zua I I I I (.agg Zc91 (ds':=[.int 0,.int 0,eA [],.int 0,.sl 3 (List.map Step.enc []),.int 0,.int 0,.sl 5 (List.map Tree.enc []),.int 0]) (.e (.e (.o (.e (.o (.e (.e (.o .e1))))))))) I<|.A 1 I<|.nil<|.seq<|.block<|.S 1 I<|.Z h I (zdM _ _) λx1 h=>.A 2 I<|.nil<|.ztM I h (λh=>.sr<|.p I (.zvr (Answer.enc (⟨0,0,[],(⟨0,[],0,0,[]⟩:Tree),0⟩:Answer)) (by simp only [Answer.enc,Tree.zuo,Tree.enc] <;> rfl) (.build I Pl91 (.agg Zc91 (ds':=[_,_,eA [],_,.sl 3 (List.map Step.enc []),_,_,.sl 5 (List.map Tree.enc []),_]) (.e (.e (.o (.e (.o (.e (.e (.o .e1))))))))) I I))<|.so I<|.A 1 I<|.nil<|.ret <| by cases h;exact za6 I I Y91 (.v (.v (.v (.v (.v (.v (.v (.v .v1)))))))) I (.d _)) λh=>.seq<|.plain 6 I<|.A 3 I<|.jO 2 (decide (65536<t1)) I (λb2=>.A 2 I<|.nil I) <| .nil<|.A 1 I<|.nil<|.ztM I h (λh=>.sr<|.p I (.zvr (Answer.enc (⟨0,0,[],(⟨0,[],0,0,[]⟩:Tree),0⟩:Answer)) (by simp only [Answer.enc,Tree.zuo,Tree.enc] <;> rfl) (.build I Pl91 (.agg Zc91 (ds':=[_,_,eA [],_,.sl 3 (List.map Step.enc []),_,_,.sl 5 (List.map Tree.enc []),_]) (.e (.e (.o (.e (.o (.e (.e (.o .e1))))))))) I I))<|.so I<|.A 1 I<|.nil<|.K [4,5] I<|.ret <| by cases h;exact za6 I I Y91 (.v (.v (.v (.v (.v (.v (.v (.v .v1)))))))) I (.d _)) λh=>.skip<|.S 4 I<|.p I (.B (zuj.enc ⟨t0,t0.rows,t1,0⟩) Zc132 I)<|.box I I I I I (.ofD I)<|.zua I I I I (.val Zv130) I<|.store I I I I I I (.cons (.loc I) .nil) C130 I (yf I)<|.nil<|.K [1,2,4,6] I<|.sr<|.zua I I I I (.agg zxd (ds':=[.osl 1 (List.map D.int []),.int 0,.int 0,.sl 3 (List.map Step.enc []),.int 0,.int 0,.sl 5 (List.map Tree.enc [])]) (.cons (.onil _) (.e (.e (.o (.e (.e .o1))))))) I<|.nil<|.seq<|.sr<|.p I (.zu8 I I)<|.guardC zqv I I I I (zt1 I) (zt1 I) Tryz.func71 I Tryz.ntmps71 I I I I (λA0 own0 w gh=>?_)
  refine bK h λx3 q3 h=>.drawB 6 Hm I<|.via 2 (bN 6 15) ⟨[(2,.loc 3 0),(3,.loc 1 0),(6,.vec 4 (List.length x3))],[wE8,wE9 t0.box t0.rows t0.ztQ t0.cases t1,.box 130 [.loc 1 0],wE10,.vec 83 2 (List.map Range.enc x3)]⟩ ?_ λsA0=>?_
  · refine .lin 4 (by decide +kernel) I<|bK h λy_4 hy_4 h=> ?_
    obtain ⟨ey_4,h⟩ | ⟨x5,ey_4,h⟩:=ppkS h
    · subst ey_4
      refine .zyr (bi:=1) (vi:=4) (zdm n _ _ _ _ hy_4) I I I (.stat I (zt1 I) I) I (yL _).symm I I (λcs2=>.inr ⟨I,(.A 1 I<|.nil<|.K [1,4,6,7,29] I<|.zx3 I<|.S 1 I<|.p I (.zvr (Answer.enc (⟨2,0,[],(⟨0,[],0,0,[]⟩:Tree),t1⟩:Answer)) (by simp only [Answer.enc,Tree.zuo,Tree.enc] <;> rfl) (.build I Pl91 (.agg Zc91 (ds':=[_,_,eA [],_,.sl 3 (List.map Step.enc []),_,_,.sl 5 (List.map Tree.enc []),_]) (.e (.e (.o (.e (.o (.e (.e (.o .e1))))))))) I I))<|.so I<|.A 1 I<|.nil<|.ret (by cases h;exact za6 I I Y91 (.v (.v (.v (.v (.v (.v (.v (.v .v1)))))))) I (.d _)))⟩)
    · subst ey_4
      refine .zys (bi:=1) (vi:=4) (zdm n _ _ _ _ hy_4) I I I (.stat I (zt1 I) I) I (yL _).symm I I<|.so I<|.nil<|.inl ⟨.inr I,(.A 1 I<|.nil<|.K [1,4,6,7,29] I<|.zwX I<|.skip<|.seq<|.S 2 I<|.p I (.zyl I U22 I)<|.nil<|.ztM I h (λh=>.seq<|.dr 9<|.A 3 I<|.p I (.leD ztz (.zuf I I I Y22 I))<|.A 4 I<|.p I (.zvr (Answer.enc (⟨0,x5.1.index,x5.1.values,(⟨0,[],0,0,[]⟩:Tree),x5.2.cost⟩:Answer)) (by simp only [Answer.enc,Tree.zuo,Tree.enc] <;> rfl) (.build I Pl91 (.agg Zc91 (ds':=[_,_,_,_,.sl 3 (List.map Step.enc []),_,_,.sl 5 (List.map Tree.enc []),_]) (.e (.e (.e (.e (.o (.e (.e (.o .e1))))))))) I I))<|.nil<|.so I<|.A 1 I<|.nil<|.ret <| by cases h;exact za6 I I Y91 (.v (.v (.v (.v (.v (.v (.v (.v .v1)))))))) I (.d _)) λh=>.skip<|.seq<|.dr 7<|.p I (.ztW I I I zsq)<|.p I (.zue I I I Y40 (yf I) (v:=.d (Tree.enc x5.1.tree)) (by rw [Tree.zvu];rfl))<|.A 4 I<|.p I (.zvr (Answer.enc (⟨1,0,[],x5.1.tree,x5.2.cost⟩:Answer)) (by simp only [Answer.enc,Tree.zuo,Tree.enc] <;> rfl) (.build I Pl91 (.agg Zc91 (ds':=[_,_,eA [],_,_,_,_,_,_]) (.e (.e (.o (.e (.e (.e (.e (.e .e1))))))))) I I))<|.nil<|.so I<|.A 1 I<|.nil<|.ret (by cases h;exact za6 I I Y91 (.v (.v (.v (.v (.v (.v (.v (.v .v1)))))))) I (.d _)))⟩
  refine .via 3 (bN 6 7) ⟨[(2,.loc 3 0),(3,.loc 1 0),(5,.d (eI t0.box))],[wE8,wE9 t0.box t0.rows t0.ztQ t0.cases t1,.box 130 [.loc 1 0],wE10]⟩ (.step 3 [] (by decide +kernel) (.cons (i:=3) I (.clone (enc:=Range.enc) I I I I (zt1 I) Tryz.func73 I I I I E80 I (λ_=>I) (λ_=>I) q3 I I (.nil ⟨I,I⟩)) (.kt sA0 I) .nil)) λsA1=>.via 3 (bN 6 14) ⟨[(0,.loc 2 0),(2,.loc 3 0),(6,.vec 4 (List.length x3))],[wE8,wE9 t0.box t0.rows t0.ztQ t0.cases t1,.box 130 [.loc 1 0],wE10,.vec 83 2 (List.map Range.enc x3)]⟩ (.step 0 [] (by decide +kernel) (.cons (i:=0) I (.p I (.zuf I I I Y130 I) (.nil ⟨I,I⟩)) (.kt sA0 I) .nil)) λsA2=>.via 4 (bN 6 3) ⟨[(2,.loc 3 0),(3,.loc 1 0),(4,.d (.ref (eI t0.box)))],[wE8,wE9 t0.box t0.rows t0.ztQ t0.cases t1,.box 130 [.loc 1 0],wE10]⟩ (.step 2 [] (by decide +kernel) (.cons (i:=2) I (.p I (.ld Y80 I) (.nil ⟨I,I⟩)) (.kt sA1 I) .nil)) λsA3=>?_
  refine .via 4 (bN 6 6) ⟨[(0,.loc 2 0),(2,.loc 3 0),(5,.d (eI t0.box))],[wE8,wE9 t0.box t0.rows t0.ztQ t0.cases t1,.box 130 [.loc 1 0],wE10]⟩ (.step 0 [3] (by decide +kernel) (.cons (i:=0) I (.p I (.zuf I I I Y130 I) (.nil ⟨I,I⟩)) (.kt sA1 I) (.cons (i:=3) I (.clone (enc:=Range.enc) I I I I (zt1 I) Tryz.func73 I I I I E80 I (λ_=>I) (λ_=>I) q3 I I (.nil ⟨I,I⟩)) (.kt sA2 I) .nil))) λsA4=>.via 5 (bN 6 1) ⟨[(1,.d (.ref (System.enc t0))),(2,.loc 3 0),(3,.loc 1 0)],[wE8,wE9 t0.box t0.rows t0.ztQ t0.cases t1,.box 130 [.loc 1 0],wE10]⟩ (.step 1 [] (by decide +kernel) (.cons (i:=1) I (.p I (.fa I (G87_0 _)) (.nil ⟨I,I⟩)) (.kt sA3 I) .nil)) λsA5=>.via 5 (bN 6 2) ⟨[(0,.loc 2 0),(2,.loc 3 0),(4,.d (.ref (eI t0.box)))],[wE8,wE9 t0.box t0.rows t0.ztQ t0.cases t1,.box 130 [.loc 1 0],wE10]⟩ (.step 0 [2] (by decide +kernel) (.cons (i:=0) I (.p I (.zuf I I I Y130 I) (.nil ⟨I,I⟩)) (.kt sA3 I) (.cons (i:=2) I (.p I (.ld Y80 I) (.nil ⟨I,I⟩)) (.kt sA4 I) .nil))) λsA6=>.step 0 [1] (by decide +kernel) (.cons (i:=0) I (.p I (.zuf I I I Y130 I) (.nil ⟨I,I⟩)) (.kt sA5 I) (.cons (i:=1) I (.p I (.fa I (G87_0 _)) (.nil ⟨I,I⟩)) (.kt sA6 I) .nil))
theorem zkG (n t0 r) (h:ziW n t0=some r):Pure pg 28 [.ref (Answer.enc t0)] (zt6.enc r):=by
 refine Pure.ot Tryz.func28 I Tryz.ntmps28 I λA w=>.sr<|.zua I I I I (.agg Zc42 (ds':=[.int 0,eA [],.int 0,.sl 3 (List.map Step.enc []),.int 0,.int 0,.sl 5 (List.map Tree.enc []),.int 0]) (.e (.o (.e (.o (.e (.e (.o .e1)))))))) I<|.nil<|.S 2 I<|.p I (.zvr (zt6.enc (⟨0,t0.values,(⟨0,[],0,0,[]⟩:Tree),0⟩:zt6)) (by simp only [zt6.enc,Tree.zuo,Tree.enc] <;> rfl) (.build I Pl42 (.agg Zc42 (ds':=[_,_,_,.sl 3 (List.map Step.enc []),_,_,.sl 5 (List.map Tree.enc []),_]) (.e (.e (.e (.o (.e (.e (.o .e1)))))))) I I))<|.so I<|.nil<|.ret ?_
 cases h
 exact zet I I Y42 (.v (.v (.v (.v (.v (.v (.v .v1)))))))
theorem zkH (n t0 r) (h:ziX n t0=some r):Pure pg 29 [.ref (Answer.enc t0)] (zt6.enc r):=by
 refine Pure.ot Tryz.func29 I Tryz.ntmps29 I λA w=>.sr<|.zua I I I I (.agg Zc42 (ds':=[.int 0,eA [],.int 0,.sl 3 (List.map Step.enc []),.int 0,.int 0,.sl 5 (List.map Tree.enc []),.int 0]) (.e (.o (.e (.o (.e (.e (.o .e1)))))))) I<|.nil<|.sr<|.p I (.fa I (G91_3 _))<|.A 1 I<|.p I (.zvr (zt6.enc (⟨1,[],t0.tree,0⟩:zt6)) (by simp only [zt6.enc,Tree.zuo,Tree.enc] <;> rfl) (.build I Pl42 (.agg Zc42 (ds':=[_,eA [],_,_,_,_,_,_]) (.e (.o (.e (.e (.e (.e (.e .e1)))))))) I I))<|.so I<|.nil<|.ret ?_
 cases h
 exact zet I I Y42 (.v (.v (.v (.v (.v (.v (.v .v1)))))))
theorem zkI (n r) (h:ziY n=some r):Pure pg 30 [] (zt6.enc r):=by
 refine Pure.ot Tryz.func30 I Tryz.ntmps30 I λA w=>.sr<|.zua I I I I (.agg Zc42 (ds':=[.int 0,eA [],.int 0,.sl 3 (List.map Step.enc []),.int 0,.int 0,.sl 5 (List.map Tree.enc []),.int 0]) (.e (.o (.e (.o (.e (.e (.o .e1)))))))) I<|.nil<|.sr<|.p I (.zvr (zt6.enc (⟨2,[],(⟨0,[],0,0,[]⟩:Tree),0⟩:zt6)) (by simp only [zt6.enc,Tree.zuo,Tree.enc] <;> rfl) (.build I Pl42 (.agg Zc42 (ds':=[_,eA [],_,.sl 3 (List.map Step.enc []),_,_,.sl 5 (List.map Tree.enc []),_]) (.e (.o (.e (.o (.e (.e (.o .e1)))))))) I I))<|.so I<|.nil<|.ret ?_
 cases h
 exact zet I I Y42 (.v (.v (.v (.v (.v (.v (.v .v1)))))))
theorem zcC (n t0 t1 t2 t3 r) (h:zbP n t0 t1 t2 t3=some r):Pure pg 10 [Model.enc t0,Question.enc t1,.int t2,eA t3] (.tup [zt6.enc r.1,.int r.2]):=by
  refine Pure.ot Tryz.func10 I Tryz.ntmps10 I λA w=>.S 2 I<|.zua I I I I (.agg Zc42 (ds':=[.int 0,eA [],.int 0,.sl 3 (List.map Step.enc []),.int 0,.int 0,.sl 5 (List.map Tree.enc []),.int 0]) (.e (.o (.e (.o (.e (.e (.o .e1)))))))) I<|.A 1 I<|.nil<|.S 3 I<|.Z h I (zeN _ _ _ _) λx1 h=>.A 3 I<|.aS I<|.A 1 I<|.nil<|.seq<|.seq<|.plain 6 I<|.A 3 I<|.jO 2 (x1.2==2) I (λb2=>.A 2 I<|.nil I) <| .nil<|.nil<|.K [2,8,10,11,28] I<|.ztM I h (λh=>.sr<|.p I (.zvr (zt6.enc (⟨0,[],(⟨0,[],0,0,[]⟩:Tree),0⟩:zt6)) (by simp only [zt6.enc,Tree.zuo,Tree.enc] <;> rfl) (.build I Pl42 (.agg Zc42 (ds':=[_,eA [],_,.sl 3 (List.map Step.enc []),_,_,.sl 5 (List.map Tree.enc []),_]) (.e (.o (.e (.o (.e (.e (.o .e1)))))))) I I))<|.A 1 I<|.so I<|.A 1 I<|.nil<|.ret <| by cases h;exact za6 I I Y42 (.v (.v (.v (.v (.v (.v (.v .v1))))))) I (.d _)) λh=>.skip<|.seq<|.seq<|.plain 6 I<|.A 3 I<|.jO 2 (decide (65536<t2)) I (λb3=>.A 2 I<|.nil I) <| .nil<|.nil<|.ztM I h (λh=>.sr<|.p I (.zvr (zt6.enc (⟨0,[],(⟨0,[],0,0,[]⟩:Tree),0⟩:zt6)) (by simp only [zt6.enc,Tree.zuo,Tree.enc] <;> rfl) (.build I Pl42 (.agg Zc42 (ds':=[_,eA [],_,.sl 3 (List.map Step.enc []),_,_,.sl 5 (List.map Tree.enc []),_]) (.e (.o (.e (.o (.e (.e (.o .e1)))))))) I I))<|.so I<|.A 1 I<|.nil<|.ret <| by cases h;exact za6 I I Y42 (.v (.v (.v (.v (.v (.v (.v .v1))))))) I (.d _)) λh=>.skip<|.seq<|.sA 2 I<|.ztM I h (λh=>.sr<|.p I (.zvr (zt6.enc (⟨2,[],(⟨0,[],0,0,[]⟩:Tree),0⟩:zt6)) (by simp only [zt6.enc,Tree.zuo,Tree.enc] <;> rfl) (.build I Pl42 (.agg Zc42 (ds':=[_,eA [],_,.sl 3 (List.map Step.enc []),_,_,.sl 5 (List.map Tree.enc []),_]) (.e (.o (.e (.o (.e (.e (.o .e1)))))))) I I))<|.so I<|.A 1 I<|.nil<|.ret <| by cases h;exact za6 I I Y42 (.v (.v (.v (.v (.v (.v (.v .v1))))))) I (.d _)) λh=>.skip<|.S 2 I<|.Z h I (zmu _ _ _) λx4 h=>.A 3 I<|.aS I<|.A 1 I<|.nil<|.K [8,11,12] I<|.seq<|.sA 2 I<|.ztM I h (λh=>.sr<|.p I (.zvr (zt6.enc (⟨0,[],(⟨0,[],0,0,[]⟩:Tree),0⟩:zt6)) (by simp only [zt6.enc,Tree.zuo,Tree.enc] <;> rfl) (.build I Pl42 (.agg Zc42 (ds':=[_,eA [],_,.sl 3 (List.map Step.enc []),_,_,.sl 5 (List.map Tree.enc []),_]) (.e (.o (.e (.o (.e (.e (.o .e1)))))))) I I))<|.A 1 I<|.so I<|.A 1 I<|.nil<|.ret <| by cases h;exact za6 I I Y42 (.v (.v (.v (.v (.v (.v (.v .v1))))))) I (.d _)) λh=>?_
  refine .skip<|.sr<|.makeMap (λn:Int=>Value.int .i64 n) (λd:D=>d) I I I I<|.p I (.makeFunc I I)<|.zyj (k:=0) (v:=(.fn (.func 28) [] [.ref (Answer.enc x4.1)])) I I I U95 KT3 I I I I<|.p I (.makeFunc I I)<|.zyj (k:=1) (v:=(.fn (.func 29) [] [.ref (Answer.enc x4.1)])) I I I U95 KT3 I I I I<|.zyj (k:=2) (v:=(.fn (.func 30) [] [])) I I I U95 KT3 I I I I<|.A 2 I<|.nil<|.S 3 I ?_
  by_cases hq:(x4.1.kind==0)=true
  · rw [if_pos hq] at h
    have hk_9:x4.1.kind=0:=by simpa using hq
    refine .p I (.zvr (.fn (.func 28) [] [.ref (Answer.enc x4.1)]) (by rw [hk_9];rfl) (.zxk I U95 KT3 I I I (k:=x4.1.kind) (z:=D.val .nilFunc) (.val Zv94)))<|.A 1 I<|.nil<|.S 1 I<|bK h λx10 q10 h=>.p I (.dyn I I I ⟨_,_,I,K28,zkG _ _ _ q10⟩)<|.zua I I I I (.agg Zc42 (ds':=[.int 0,eA [],.int 0,.sl 3 (List.map Step.enc []),.int 0,.int 0,.sl 5 (List.map Tree.enc []),.int 0]) (.e (.o (.e (.o (.e (.e (.o .e1)))))))) I<|.so I<|.nil<|.K [8,12,15] I<|.S 3 I<|.so I<|.nil<|.sr<|.p I (.zue I I I Y42 (yf I) (v:=.d (zt6.enc (⟨x10.kind,x10.state,x10.tree,x4.1.steps⟩:zt6))) I)<|.so I<|.A 1 I<|.nil<|.ret <| by cases h;exact za6 I I Y42 (.v (.v (.v (.v (.v (.v (.v .v1))))))) I (.d _)
  · rw [if_neg hq] at h
    by_cases hq:(x4.1.kind==1)=true
    · rw [if_pos hq] at h
      have hk_7:x4.1.kind=1:=by simpa using hq
      refine .p I (.zvr (.fn (.func 29) [] [.ref (Answer.enc x4.1)]) (by rw [hk_7];rfl) (.zxk I U95 KT3 I I I (k:=x4.1.kind) (z:=D.val .nilFunc) (.val Zv94)))<|.A 1 I<|.nil<|.S 1 I<|bK h λx8 q8 h=>.p I (.dyn I I I ⟨_,_,I,K29,zkH _ _ _ q8⟩)<|.zua I I I I (.agg Zc42 (ds':=[.int 0,eA [],.int 0,.sl 3 (List.map Step.enc []),.int 0,.int 0,.sl 5 (List.map Tree.enc []),.int 0]) (.e (.o (.e (.o (.e (.e (.o .e1)))))))) I<|.so I<|.nil<|.K [8,12,15] I<|.S 3 I<|.so I<|.nil<|.sr<|.p I (.zue I I I Y42 (yf I) (v:=.d (zt6.enc (⟨x8.kind,x8.state,x8.tree,x4.1.steps⟩:zt6))) I)<|.so I<|.A 1 I<|.nil<|.ret <| by cases h;exact za6 I I Y42 (.v (.v (.v (.v (.v (.v (.v .v1))))))) I (.d _)
    · rw [if_neg hq] at h
      by_cases hq:(x4.1.kind==2)=true
      · rw [if_pos hq] at h
        have hk_5:x4.1.kind=2:=by simpa using hq
        refine .p I (.zvr (.fn (.func 30) [] []) (by rw [hk_5];rfl) (.zxk I U95 KT3 I I I (k:=x4.1.kind) (z:=D.val .nilFunc) (.val Zv94)))<|.A 1 I<|.nil<|.S 1 I<|bK h λx6 q6 h=>.p I (.dyn I I I ⟨_,_,I,K30,zkI _ _ q6⟩)<|.zua I I I I (.agg Zc42 (ds':=[.int 0,eA [],.int 0,.sl 3 (List.map Step.enc []),.int 0,.int 0,.sl 5 (List.map Tree.enc []),.int 0]) (.e (.o (.e (.o (.e (.e (.o .e1)))))))) I<|.so I<|.nil<|.K [8,12,15] I<|.S 3 I<|.so I<|.nil<|.sr<|.p I (.zue I I I Y42 (yf I) (v:=.d (zt6.enc (⟨x6.kind,x6.state,x6.tree,x4.1.steps⟩:zt6))) I)<|.so I<|.A 1 I<|.nil<|.ret <| by cases h;exact za6 I I Y42 (.v (.v (.v (.v (.v (.v (.v .v1))))))) I (.d _)
      · rw [if_neg hq] at h
        cases h
theorem zfR:Kd2 16 zaj eA eA .bool:=λn t0 t1 r h=>.ot Tryz.func16 I Tryz.ntmps16 I λA w=>.sA 1 I<|.seq<|.S 1 I<|.e I<|.A 1 I<|.e I<|.A 1 I<|.nil<|.ztM I h (λh=>.sA 1 I<|.ret (rO h I)) λh=>.skip<|.seq<|.S 1 I<|.e I<|.A 1 I<|.nil<|.block<|.L [0,1,12] h (λv=>[(13,.d (.int v))]) (λv=>[]) I λ_ x7 h=>.sA 1 I<|.seq<|.ztM I h (λh=>.skip<|.seq<|.block<|.sA 2 I<|.seq<|.dr 9<|.A 2 I<|.X h I λx9 h=>.A 3 I<|.X h I λx10 h=>.A 2 I<|.nil<|.nil<|.ztM I h (λh=>.sA 1 I<|.ret (rO h I)) λh=>.skip<|.rA 2 I (ndE h I)) λh=>.exit<|.sA 1 I<|.ret (rO h I)
theorem zjh:Kd1 150 zdN .int .bool:=λn t0 r h=>.ot Tryz.func150 I Tryz.ntmps150 I λA w=>.sA 1 I<|.seq<|.plain 6 I<|.A 3 I<|.jO 2 (decide (4000000<t0)) I (λb1=>.A 2 I<|.nil I) <| .nil<|.A 1 I<|.nil<|.ret (rO h I)
theorem zkS:Kd2 89 zjg System.enc eA .bool:=λn t0 t1 r h=>.ot Tryz.func89 I Tryz.ntmps89 I λA w=>.sA 2 I<|.seq<|.plain 15 I<|.A 1 I<|.Z h I (zdM _ _) λx1 h=>.A 1 I<|.jA 6 ((t1.length:Int)==(t0.box.length:Int)) I (λb2=>.A 1 I<|.qe I<|.A 2 I<|.qe I<|.A 1 I<|.nil I) <| .A 1 I<|gK h λc4 h=>.jA 3 (!((zj n t1 (λq0=>zdN n q0)).getD default)) I (λb3=>.A 1 I<|.q I (.call I (zt1 I) I (zab _ _ _ _ (λq0 y hq=>⟨_,_,I,K150,zjh _ q0 _ hq⟩) _ (zt0 (impT c4 b3))))<|.A 1 I<|.nil I) <| .nil<|.A 1 I<|.nil<|.K [4] I<|.ret (rO h I)
theorem zhz:Kd2 90 zbL eI eA .bool:=λn t0 t1 r h=>.ot Tryz.func90 I Tryz.ntmps90 I λA w=>.sA 1 I<|.seq<|.S 1 I<|.e I<|.A 1 I<|.e I<|.A 1 I<|.nil<|.ztM I h (λh=>.sA 1 I<|.ret (rO h I)) λh=>.skip<|.seq<|.S 1 I<|.e I<|.A 1 I<|.nil<|.block<|.L [1,12,13] h (λv=>[(14,.d (.int v))]) (λv=>[]) I λ_ x11 h=>.sA 1 I<|.seq<|.ztM I h (λh=>.skip<|.seq<|.block<|.S 1 I<|.X h I λx13 h=>.A 1 I<|.zua I I I I (.agg Zc83 (ds':=[.int 0,.int 0]) (.e .e1)) I<|.A 1 I<|.so I<|.nil<|.seq<|.dr 16<|.A 2 I<|.X h I λx14 h=>.A 5 I<|gK h λc16 h=>.jO 7 (decide (x13.hi<((idx t1 x11).getD default))) I (λb15=>.A 2 I<|.q I (.ix I U22 S3 (zt0 (impF c16 b15)))<|.A 4 I<|.nil I) <| .nil<|.nil<|.K [1,12,13,14,34] I<|.ztM I h (λh=>.sA 1 I<|.ret (rO h I)) λh=>.skip<|.rA 2 I (ndE h I)) λh=>.exit<|.sA 1 I<|.ret (rO h I)
theorem zl8:Kd2 225 zfr Row.enc eA .int:=λn t0 t1 r h=>.ot Tryz.func225 I Tryz.ntmps225 I λA w=>.sA 2 I<|.sA 1 I<|.seq<|.S 2 I<|.e I<|.A 1 I<|.nil<|.block<|.L [1,9,10] h (λv=>[(5,.d (.int v.1)),(11,.d (.int v.2))]) (λv=>[]) I λ_ ⟨x9,x10⟩ h=>.sA 1 I<|.seq<|.ztM I h (λh=>.skip<|.seq<|.block<|.sr<|.X h I λx12 h=>.A 1 I<|.aS I<|.nil<|.dr 11<|.A 6 I<|.X h I λx13 h=>.A 4 I<|.nil<|.nil<|.rA 2 I (ndE h I)) λh=>.exit<|.sA 2 I<|.ret (rO h I)
theorem zhh:Kd2 190 zhg Row.enc eA .bool:=λn t0 t1 r h=>.ot Tryz.func190 I Tryz.ntmps190 I λA w=>.sA 2 I<|.seq<|.dr 7<|.A 2 I<|.Z h I (zl8 _ _ _) λx1 h=>.A 4 I<|.nil<|.nil<|.ret (rO h I)
theorem zfW:Kd1 226 zbK .int eA:=λn t0 r h=>.ot Tryz.func226 I Tryz.ntmps226 I λA w=>.sr<|.p I (.nilS 1 (α:=Int) D.int I)<|.nil<|.S 1 I<|bK h λx1 q1 h=>.zvy (enc:=D.int) (z:=(0:Int)) I I I I E22 I I I (.val Zv3) q1<|.A 1 I<|.nil<|.seq<|.S 1 I<|.p I (.lenV I U22 I I I)<|.A 1 I<|.nil<|.block<|.L [8] h (λv=>[(3,.vec 0 (List.length v.1)),(9,.d (.int v.2))]) (λv=>[(0,.vec 3 1 (List.map D.int v.1))]) I λ_ ⟨b0_10,x11⟩ h=>.sA 1 I<|.K [3,8,9,10] I<|.seq<|.ztM I h (λh=>.skip<|.seq<|.block<|.sA 2 I<|.region<|.A 3 I<|bK h λx13 q13 h=>.p I (.idxV I I I I I U22 S3 q13)<|bK h λb0_14 hb0_14 h=>.zuJ (enc:=D.int) I I I I I I I I I C3 hb0_14<|.zuu 3 I (zag hb0_14)<|.zuu 12 I (zag hb0_14)<|.nil<|.rA 2 I (ndE h I)) λh=>.exit<|.sA 2 I<|.ret <| by cases h;exact zbU I (.vec I (by simp))
theorem zhe (n t0 t1 t2 t3 t4 r) (h:zcI n t0 t1 t2 t3 t4=some r):Pure pg 228 [.int t0,.ref (eH t1),.ref (eA t2),.ref (zuc.enc t3),.ref (.int t4)] (.bool r):=by
  refine Pure.ot Tryz.func228 I Tryz.ntmps228 I λA w=>.sA 1 I<|.seq<|.dr 31<|.A 2 I<|.X h I λx1 h=>.A 3 I<|gK h λc3 h=>gK h λc4 h=>.jA 23 (decide (((idx t3.least (ztJ (ztZ t0 t3.size) t4)).getD default)≤((idx t2 (ztJ (ztJ t3.first (ztZ t0 t3.size)) t4)).getD default))) I (λb2=>.A 10 I<|.q I (.ix I U22 S3 (zt0 (impT c3 b2)))<|.A 9 I<|.q I (.ix I U22 S3 (zt0 (impT c4 b2)))<|.A 2 I<|.nil I) <| .A 1 I<|.nil<|.nil<|.K [6] I<|.ret (rO h I)
theorem zit (n t0 t1 t2 t3 r) (h:zgs n t0 t1 t2 t3=some r):Pure pg 227 [.int t0,.ref (eH t1),.ref (zuc.enc t2),.ref (eA t3)] (.bool r):=by
  refine Pure.ot Tryz.func227 I Tryz.ntmps227 I λA w=>.sA 2 I<|.seq<|.plain 13 I<|.A 2 I<|.X h I λx1 h=>.A 3 I<|gK h λc3 h=>gK h λc4 h=>.jA 6 (!((zj n ((zbK n t2.size).getD default) (λq0=>zcI n q0 t1 t3 t2 t0)).getD default)) I (λb2=>.A 2 I<|.q I (.call I (zt1 I) I (zfW _ _ _ (zt0 (impT c3 b2))))<|.q I (.makeFunc I I)<|.q I (.call I (zt1 I) I (zab _ _ _ _ (λq0 y hq=>⟨_,_,I,K228,zhe _ q0 _ _ _ _ _ hq⟩) _ (zt0 (impT c4 b2))))<|.A 1 I<|.nil I) <| .nil<|.A 1 I<|.nil<|.K [5] I<|.ret (rO h I)
theorem zj3:Kd2 191 zd7 zuc.enc eA .bool:=λn t0 t1 r h=>.ot Tryz.func191 I Tryz.ntmps191 I λA w=>.sA 3 I<|.S 2 I<|bK h λx1 q1 h=>.zvy (enc:=D.bool) (z:=(false:Bool)) I I I I E173 I I I (.val Zv4) q1<|.zua I I I I (.nil (k:=1) Zv173) I<|.store I I I I I I (.cons (.vec I (by simp)) .nil) C173 I (yf I)<|.nil<|.seq<|.sA 3 I<|.block<|.L [2,3,5,11] h (λv=>[(12,.d (.int v.2))]) (λv=>[(0,.vec 4 1 (List.map D.bool v.1)),(1,.box 173 [.vec 0 (List.length v.1)])]) I λ_ ⟨b0_14,x15⟩ h=>.sA 1 I<|.K [2,3,5,11,12,13] I<|.seq<|.ztM I h (λh=>.skip<|.seq<|.block<|.S 2 I<|.Z h I (zfW _ _) λx17 h=>.p I (.zu8 I I)<|bK h λx18 q18 h=>.p I (.zwW I (zt1 I) (.cons I (.d _) (.cons I (.fn .nil (.cons (.loc1 I (.vec I (by simp)) I) (.v .v1))) .nil)) I (zcH _ _ _ _ (λq0 y hq=>⟨_,_,I,K227,zit _ q0 _ _ _ _ hq⟩) _ q18))<|.A 1 I<|.nil<|.seq<|.sA 2 I<|.ztM I h (λh=>.sA 1 I<|.ret (rO h I)) λh=>.skip<|.region<|.A 2 I<|bK h λx19 q19 h=>.p I (.idxV I I I I I U173 S4 q19)<|bK h λb0_20 hb0_20 h=>.zuJ (enc:=D.bool) I I I I I I I I I C4 hb0_20<|.zuu 21 I (zag hb0_20)<|.zuS 1 0 I I (zag hb0_20)<|.nil<|.rA 2 I (ndE h I)) λh=>.exit<|.sA 1 I<|.ret (rO h I)
theorem zl5 (n t0 t1 r) (h:zdu n t0 t1=some r):Pure pg 151 [System.enc t0,eA t1] (.tup [eA r.1,eA r.2]):=by
  refine Pure.ot Tryz.func151 I Tryz.ntmps151 I λA w=>.S 1 I<|.p I (.nilS 1 (α:=Int) D.int I)<|.p I (.nilS 1 (α:=Int) D.int I)<|.nil<|.S 1 I<|.zve 6 1 3 I<|.A 1 I<|.zve 7 1 3 I<|.nil<|.seq<|.S 2 I<|.e I<|.A 1 I<|.nil<|.block<|.L [1,2,7,13,14] h (λv=>[(6,.vec 0 (List.length v.1)),(15,.d (.int v.2))]) (λv=>[(0,.vec 3 1 (List.map D.int v.1))]) I λ_ ⟨b0_15,x16⟩ h=>.sA 1 I<|.K [1,2,6,7,13,14,15,16] I<|.seq<|.ztM I h (λh=>.skip<|.J [1,2,7,13,14,15] h (λv=>[(6,.vec 0 (List.length v))]) (λv=>[(0,.vec 3 1 (List.map D.int v))]) I (λk_19 h=>.block<|.S 1 I<|.X h I λx20 h=>.A 1 I<|.zua I I I I (.agg Zc55 (ds':=[eJ [],.int 0]) (.o .e1)) I<|.A 1 I<|.so I<|.nil<|.sr<|.p I (.zue I I I Y55 (yf I) (v:=.d (Row.enc x20)) I)<|.A 1 I<|.Z h I (zhh _ _ _) λx21 h=>.A 1 I<|.nil<|.ztM I h (λh=>.region<|.A 2 I<|.p I (.ztY [_] I I E22 I (λ_=>I) I (enc:=D.int))<|bK h λx22 q22 h=>.app I I I I I I I I E22 I (λ_=>I) q22<|.A 1 I<|.nil (ndE h I)) λh=>.skip (ndE h I)) (λb0_18 h=>.rA 2 I (ndE h I))) λh=>.exit<|.seq<|.S 2 I<|.e I<|.A 1 I<|.nil<|.block<|.L [1,6,30,31] h (λv=>[(7,.vec 1 (List.length v.1)),(32,.d (.int v.2))]) (λv=>[(1,.vec 3 1 (List.map D.int v.1))]) I λ_ ⟨b1_37,x38⟩ h=>.sA 1 I<|.K [1,6,7,30,31,32,33] I<|.seq<|.ztM I h (λh=>.skip<|.J [1,6,30,31,32] h (λv=>[(7,.vec 1 (List.length v))]) (λv=>[(1,.vec 3 1 (List.map D.int v))]) I (λk_41 h=>.block<|.S 1 I<|.X h I λx42 h=>.A 1 I<|.zua I I I I (.agg zx0 (ds':=[.int 0,.int 0,eA []]) (.e (.e .o1))) I<|.A 1 I<|.so I<|.nil<|.sr<|.p I (.zue I I I Y124 (yf I) (v:=.d (zuc.enc x42)) I)<|.A 1 I<|.Z h I (zj3 _ _ _) λx43 h=>.A 1 I<|.nil<|.ztM I h (λh=>.region<|.A 2 I<|.p I (.ztY [_] I I E22 I (λ_=>I) I (enc:=D.int))<|bK h λx44 q44 h=>.app I I I I I I I I E22 I (λ_=>I) q44<|.A 1 I<|.nil (ndE h I)) λh=>.skip (ndE h I)) (λb1_40 h=>.rA 2 I (ndE h I))) λh=>.exit<|.sA 4 I<|.ret <| by cases h;exact zfo I I (.vec I (by simp)) (.vec I (by simp))
theorem zgj (n t0 t1 r) (h:zeB n t0 t1=some r):Pure pg 192 [Row.enc t0,.ref (eA t1)] (.bool r):=by
 refine Pure.ot Tryz.func192 I Tryz.ntmps192 I λA w=>.sA 2 I<|.S 2 I<|.Z h I (zhh _ _ _) λx1 h=>.A 2 I<|.nil<|.ret (rO h I)
theorem zhf (n t0 t1 r) (h:zcJ n t0 t1=some r):Pure pg 152 [System.enc t0,eA t1] (.tup [.int r.1,.bool r.2]):=by
  refine Pure.ot Tryz.func152 I Tryz.ntmps152 I λA w=>.sA 4 I<|.seq<|.S 2 I<|.e I<|.A 1 I<|.nil<|.block<|.L [3,9,10] h (λv=>[(11,.d (.int v))]) (λv=>[]) I λ_ x7 h=>.sA 1 I<|.seq<|.ztM I h (λh=>.skip<|.seq<|.block<|.S 1 I<|.X h I λx9 h=>.A 3 I<|.nil<|.S 1 I<|.p I (.makeFunc I I)<|.Z h I (za2 _ _ _ _ (λq0 y hq=>⟨_,_,I,K192,zgj _ q0 _ _ hq⟩)) λx10 h=>.A 1 I<|.nil<|.ztM I h (λh=>.sA 3 I<|.ret <| by cases h;exact zfo I I (.d _) (.d _)) λh=>.skip<|.rA 2 I (ndE h I)) λh=>.exit<|.sA 2 I<|.ret <| by cases h;exact zfo I I (.d _) (.d _)
theorem zkT:Kd2 91 zji System.enc eA .bool:=λn t0 t1 r h=>.ot Tryz.func91 I Tryz.ntmps91 I λA w=>.sA 2 I<|.S 2 I<|.Z h I (zl5 _ _ _) λx1 h=>.A 5 I<|.nil<|.seq<|.S 1 I<|.e I<|.A 1 I<|.e I<|.A 2 I<|.nil<|.K [1,2,20] I<|.ztM I h (λh=>.sA 1 I<|.ret (rO h I)) λh=>.skip<|.S 2 I<|.Z h I (zhf _ _ _) λx2 h=>.A 5 I<|.nil<|.seq<|.plain 7 I<|.A 2 I<|.jO 4 ((t0.cases.length:Int)==0) I (λb3=>.A 2 I<|.qe I<|.A 1 I<|.nil I) <| .nil<|.A 1 I<|.nil<|.K [4] I<|.ret (rO h I)
theorem zl4:Kd2 36 zkz System.enc eA .bool:=λn t0 t1 r h=>.ot Tryz.func36 I Tryz.ntmps36 I λA w=>.sA 2 I<|.seq<|.seq<|.plain 11 I<|.A 2 I<|.Z h I (zkS _ _ _) λx1 h=>.A 2 I<|gK h λc3 h=>.jO 5 (!((zbL n t0.box t1).getD default)) I (λb2=>.A 3 I<|.q I (.call I (zt1 I) I (zhz _ _ _ _ (zt0 (impF c3 b2))))<|.A 1 I<|.nil I) <| .nil<|.nil<|.ztM I h (λh=>.sA 1 I<|.ret (rO h I)) λh=>.skip<|.S 2 I<|.Z h I (zkT _ _ _) λx4 h=>.A 1 I<|.nil<|.K [4] I<|.ret (rO h I)
theorem zem (n t0 t1 r) (h:zae n t0 t1=some r):Pure pg 92 [.sl 3 (List.map Step.enc t0),.sl 3 (List.map Step.enc t1)] (.bool r):=by
  refine Pure.ot Tryz.func92 I Tryz.ntmps92 I λA w=>.sA 1 I<|.seq<|.S 1 I<|.e I<|.A 1 I<|.e I<|.A 1 I<|.nil<|.ztM I h (λh=>.sA 1 I<|.ret (rO h I)) λh=>.skip<|.seq<|.S 1 I<|.e I<|.A 1 I<|.nil<|.block<|.L [0,1,12] h (λv=>[(13,.d (.int v))]) (λv=>[]) I λ_ x7 h=>.sA 1 I<|.seq<|.ztM I h (λh=>.skip<|.seq<|.block<|.sA 2 I<|.seq<|.dr 9<|.A 2 I<|.X h I λx9 h=>.A 3 I<|.X h I λx10 h=>.A 1 I<|.p I (.sneq I SE149 I I (xs:=Step.vals _) (ys:=Step.vals _) I I I I (SQ149 _ _))<|.nil<|.nil<|.ztM I h (λh=>.sA 1 I<|.ret (rO h I)) λh=>.skip<|.rA 2 I (ndE h I)) λh=>.exit<|.sA 1 I<|.ret (rO h I)
theorem zbY (n t0 t1) (t2:Tree→Tree→Option Bool) (F2:D) (hF2:∀ (q0:Tree) (q1:Tree) (y:Bool),t2 q0 q1=some y→Dyn pg F2 [Tree.enc q0,Tree.enc q1] (.bool y)) (r) (h:zx n t0 t1 t2=some r):Pure pg 93 [.sl 5 (List.map Tree.enc t0),.sl 5 (List.map Tree.enc t1),F2] (.bool r):=by
  refine Pure.ot Tryz.func93 I Tryz.ntmps93 I λA w=>.sA 1 I<|.seq<|.S 1 I<|.e I<|.A 1 I<|.e I<|.A 1 I<|.nil<|.ztM I h (λh=>.sA 1 I<|.ret (rO h I)) λh=>.skip<|.seq<|.S 1 I<|.e I<|.A 1 I<|.nil<|.block<|.L [1,2,15,16] h (λv=>[(17,.d (.int v))]) (λv=>[]) I λ_ x9 h=>.sA 1 I<|.seq<|.ztM I h (λh=>.skip<|.seq<|.block<|.S 1 I<|.X h I λx11 h=>.A 1 I<|.zua I I I I (.agg Zc40 (ds':=[.int 0,.sl 3 (List.map Step.enc []),.int 0,.int 0,.sl 5 (List.map Tree.enc [])]) (.e (.o (.e (.e .o1))))) I<|.A 1 I<|.eqD 21 I (Tree.zvu _)<|.so I<|.nil<|.S 2 I<|.X h I λx12 h=>.A 1 I<|.aS I<|.nil<|.S 1 I<|.p I (.zue I I I Y40 (yf I) (v:=.d (Tree.enc x11)) (by rw [Tree.zvu];rfl))<|.A 1 I<|bK h λx13 q13 h=>.p I (.dyn I I I (hF2 _ _ _ q13))<|.A 1 I<|.nil<|.K [1,2,15,16,17,30] I<|.ztM I h (λh=>.sA 1 I<|.ret (rO h I)) λh=>.skip<|.rA 2 I (ndE h I)) λh=>.exit<|.sA 1 I<|.ret (rO h I)
theorem zhE (n:Nat) (self:Tree→Tree→Option Bool) (hself:∀ (t0:Tree) (t1:Tree) (r:Bool),self t0 t1=some r→Pure pg 37 [Tree.enc t0,Tree.enc t1] (.bool r)) (t0:Tree) (t1:Tree) (r:Bool) (h:zbg.body n self t0 t1=some r):Pure pg 37 [Tree.enc t0,Tree.enc t1] (.bool r):=by
  refine Pure.ot Tryz.func37 I Tryz.ntmps37 I λA w=>.sA 3 I<|.seq<|.plain 33 I<|.A 6 I<|.jA 5 (t0.cell==t1.cell) I (λb1=>.A 5 I<|.nil I) <| .A 1 I<|.jA 5 (t0.at_==t1.at_) I (λb2=>.A 5 I<|.nil I) <| .A 1 I<|gK h λc4 h=>.jA 5 (((zae n t0.steps t1.steps).getD default)) I (λb3=>.A 4 I<|.q I (.call I (zt1 I) I (zem _ _ _ _ (zt0 (impT c4 b3))))<|.nil I) <| .A 1 I<|gK h λc6 h=>.jA 5 (((zx n t0.kids t1.kids (λq0 q1=>self q0 q1)).getD default)) I (λb5=>.q I (.fa I (zvT _))<|.A 1 I<|.q I (.fa I (zvT _))<|.A 1 I<|.q I (.call I (zt1 I) I (zbY _ _ _ _ _ (λq0 q1 y hq=>⟨_,_,I,K37,hself q0 q1 _ hq⟩) _ (zt0 (impT c6 b5))))<|.nil I) <| .nil<|.A 1 I<|.nil<|.K [4] I<|.ret (rO h I)
theorem zfn  : ∀ (n:Nat) (t0:Tree) (t1:Tree) (r:Bool) (h:zbg n t0 t1=some r),Pure pg 37 [Tree.enc t0,Tree.enc t1] (.bool r)
 | 0,t0,t1,r,h=>by cases h
 | n+1,t0,t1,r,h=>zhE n (zbg n) (zfn n) t0 t1 r h
theorem zi7:Kd1 154 zbT Tree.enc .bool:=λn t0 r h=>.ot Tryz.func154 I Tryz.ntmps154 I λA w=>.sA 2 I<|.seq<|.S 2 I<|.e I<|.A 1 I<|.nil<|.block<|.L [1,7,8] h (λv=>[(9,.d (.int v))]) (λv=>[]) I λ_ x19 h=>.sA 1 I<|.seq<|.ztM I h (λh=>.skip<|.seq<|.block<|.sr<|.X h I λx21 h=>.A 1 I<|.aS I<|.nil<|.sA 1 I<|.J [1,4,7,8,9] h (λv=>[(5,.d (.int v))]) (λv=>[]) I (λk_23 h=>.sA 3 I<|.ztM I h (λh=>.rA 1 I (ndE h I)) λh=>.skip (ndE h I)) (λx22 h=>.seq<|.plain 29 I<|.A 4 I<|.jA 3 (x21.kind != 1) I (λb24=>.A 3 I<|.nil I) <| .A 1 I<|.jO 3 (decide (x21.index<0)) I (λb25=>.A 3 I<|.nil I) <| .A 1 I<|.jO 3 (decide (2048<x21.index)) I (λb26=>.A 3 I<|.nil I) <| .A 1 I<|.jO 4 (decide (x21.cell<x22)) I (λb27=>.A 4 I<|.nil I) <| .A 1 I<|.jO 3 (decide (128≤x21.cell)) I (λb28=>.A 3 I<|.nil I) <| .nil<|.nil<|.K [1,7,8,9,44] I<|.ztM I h (λh=>.sA 1 I<|.ret (rO h I)) λh=>.skip<|.rA 2 I (ndE h I))) λh=>.exit<|.seq<|.sA 2 I<|.block<|.sA 2 I<|.ztM I h (λh=>.seq<|.plain 14 I<|.p I (.fa I (zvT _))<|.A 1 I<|.e I<|.A 2 I<|.jA 3 (t0.cell==0) I (λb29=>.A 3 I<|.nil I) <| .A 1 I<|.jA 3 (t0.at_==0) I (λb30=>.A 3 I<|.nil I) <| .nil<|.A 1 I<|.nil<|.K [2] I<|.ret (rO h I)) λh=>.sA 2 I<|.ztM I h (λh=>.seq<|.plain 24 I<|.p I (.fa I (zvT _))<|.A 1 I<|.e I<|.A 2 I<|.jA 3 (decide (0≤t0.cell)) I (λb31=>.A 3 I<|.nil I) <| .A 1 I<|.jA 3 (decide (t0.cell<128)) I (λb32=>.A 3 I<|.nil I) <| .A 1 I<|.jA 3 (decide ((-1000000)≤t0.at_)) I (λb33=>.A 3 I<|.nil I) <| .A 1 I<|.jA 3 (decide (t0.at_≤1000000)) I (λb34=>.A 3 I<|.nil I) <| .nil<|.A 1 I<|.nil<|.K [2] I<|.ret (rO h I)) λh=>.sA 2 I<|.ztM I h (λh=>.seq<|.plain 20 I<|.p I (.fa I (zvT _))<|.A 1 I<|.e I<|.A 2 I<|.jA 4 (decide ((t0.kids.length:Int)≤1024)) I (λb35=>.q I (.fa I (zvT _))<|.A 1 I<|.qe I<|.A 1 I<|.nil I) <| .A 1 I<|.jA 3 (t0.cell==0) I (λb36=>.A 3 I<|.nil I) <| .A 1 I<|.jA 3 (t0.at_==0) I (λb37=>.A 3 I<|.nil I) <| .nil<|.A 1 I<|.nil<|.K [2] I<|.ret (rO h I)) λh=>.skip<|.sA 1 I<|.ret (rO h I)
abbrev yfV (l:Nat):D:=.fn (.yield l) [] []
abbrev HV (c:Int):List Blk:=[.box 4 [.d (.bool false)],.box 3 [.d (.int c)]]
abbrev HW (l:Nat) (c:Int):List Blk:=[.box 4 [.d (.bool false)],.box 3 [.d (.int c)],.box 248 [.fn (.func 194) [] [.d (.ref (yfV l)),.loc 2 0]]]
abbrev TV:List (Nat×V):=[(2,.loc 0 0),(3,.loc 1 0)]
theorem eK194:ztT pg 194=true:=by kernel_rfl
theorem eK193:ztT pg 193=true:=by kernel_rfl
theorem eK153:ztT pg 153=true:=by kernel_rfl
theorem eK154:ztT pg 154=true:=by kernel_rfl
theorem eY248:zZ pg 248=some none:=by kernel_rfl
theorem eC248:cellsOf pg 248=some 1:=by kernel_rfl
theorem eZ248:zbC pg 248=some .nilFunc:=by kernel_rfl
section
variable [ztS] [Drw] {P:Program} {C:Ctx} {ops:Array Oper} {o:Oper} {s:St}
theorem TriL.plainL {Q} {l} (n) (hna:zrt (l.take n)=true) (h:TriQ P C.n l.toArray s.H (l.take n) [] s.T (λ_ T=>TriL P C l.toArray (l.drop n) Q ⟨T,s.H⟩)):TriL P C l.toArray l Q s:=by
 refine ⟨λe a w d=>?_⟩
 have f :=(uB n l).symm
 have b:∀ o∈l.take n,zal o=false:=λo c=>by
  have:=(yq.1 hna) o c
  grind
 have:=zt5.toList (l.take n) [] s.T e a w b h.run d
 grind
theorem not1 {t} {x} {b} (h:(o.guard,zup o.dst C.n,o.op,ev s.T x)=(none,true,.unOp .not t x,some (.d (.bool b)))):TriL P C ops [o] (zwc (s.put o.dst (.d (.bool !b)))) s:=by
 simp only [yv] at h
 exact .op h.1 h.2.1 (.not h.2.2.1 h.2.2.2) (.nil ⟨rfl,rfl⟩)
theorem out1 {c:Tmp} {id} {y} {d} {b} {Q} (hc:look c s.T=some (.d (.bool true))) (h:(o.guard,zup o.dst C.n,o.op,o.dst)=(none,true,.assign (.const (.bool b)),some d)) (hq:Q .ret ⟨(d,.d (.bool b))::s.T,s.H⟩):Tri P C (.cond (.tmp c) (.seq (.region id #[o] false) .ret) y) Q s:=by
  simp only [yv] at h
  refine .cond (t:=true) hc (λ_=>.sr (l:=[o]) (.op h.1 h.2.1 (.assign h.2.2.1 rfl) (.nil (.ret (by rw [h.2.2.2];exact hq))))) (λh=>by cases h)
end
theorem zsD {G G3} {D0} {A0 own0} {w0} {N gn} {gh} {df} {Q Q3 QL} (h:∀ e s,Q3 e s→e = .ret∧QL .ret s):∀ e a w,@QR G3 D0 ⟨A0,own0,w0,N,λ_ _=>False,gh,gn,df⟩ Q3 e a w→@QR G D0 ⟨A0,own0,w0,N,escX G3 D0 ⟨A0,own0,w0,N,λ_ _=>False,gh,gn,df⟩ QL,gh,gn,df⟩ Q e a w:=by
 rintro e a w (⟨c,s,d,f⟩ | ⟨_,g⟩)
 ·obtain ⟨rfl,b⟩:=h e s d
  exact .inr ⟨rfl,c,s,b,f⟩
 grind
noncomputable def rndL (n:Nat) (level:Int) (t:Tree) (c:Int):Option Bool:=if (decide (4096<level)||decide (65536<c))=true then some true else (zbT n t).map (!·)
def zwm (t:Tree) (c:Int):Int:=ztJ c (ztJ 1 (t.steps.length:Int))
theorem zrT {n k level t c b c'} (h:zan n (k+1) level t c=some (b,c')):∃ left,rndL n level t (zwm t c)=some left∧if left=true then b=false∧c'=zwm t c else ztO (zan.l1 n (zan n k) level t.kids) n (zwm t c,0)=some (b,c'):=by
 simp only [zan] at h
 unfold rndL zwm
 split at h <;> rename_i a
 ·rw [if_pos a]
  grind
 ·obtain ⟨x,d,h⟩:=zvq h
  grind
set_option maxRecDepth 10000 in
theorem zsE {G1 G3} [G:ztS] {l} {rec} {asg body} (hGs : @ztS.gs G=(l,.loop rec)::@ztS.gs G1) (hG3 : @ztS.gs G3=(l,.loop (recB true rec))::@ztS.gs G1) (hGE:∀ q∈@ztS.gs G1,q.1≠l)
  (hrec:rec.state = .ready∧rec.pending=none∧rec.params = #[8,9]∧rec.tmps.size=27) (hasg:rec.assign=asg) (hbd:rec.body=body) (n)
  (hY:∀ (A0 own0) (w) (gh) (level) (t) (c) (left),rndL n level t (zwm t c)=some left→@TriR G1 dF l pg ⟨A0,own0,w,27,λ_ _=>False,gh,3,[]⟩ asg (λe s1=>e = .normal∧∀ (own0) (w),
   @TriR G1 dF l pg ⟨A0,own0,w,27,λ_ _=>False,gh,3,[]⟩ body (λe s2=>e=(if left=true then .ret else .normal)∧∃ X,s2.H=HW l (zwm t c)++X) s1) ⟨(9,.d t.enc)::(8,.d (.int level))::TV,HW l c⟩) :
  ∀ (k) (level) (t) (c) (b) (c'),zan n k level t c=some (b,c')→∀ (A0 own0) (w0) (gh),zvW ⟨A0,own0,w0,28,λ_ _=>False,gh,3,[]⟩ l rec TV →
   TriX G dF ⟨A0,own0,w0,28,λ_ _=>False,gh,3,[]⟩ (if b=true then G else G3) pg (ziw pg 194) (retV [.tmp 6] λv H2=>v = .d (.bool b)∧∃ X,H2=HW l c'++X) ⟨zbQ 0 [.d (.int level),.d t.enc,.d (.ref (yfV l)),.loc 2 0],HW l c⟩
 | 0,level,t,c,b,c',h,_,_,_,_,_=>by grind [zan]
 | k+1,level,t,c,b,c',h,A0,own0,w0,gh,hs=>by
  have IH:=zsE hGs hG3 hGE hrec hasg hbd n hY k
  have hgn3:Nat.ble (Ctx.gn ⟨A0,own0,w0,28,λ_ _=>False,gh,3,[]⟩) 3=true:=rfl
  obtain ⟨left,hl,h⟩:=zrT h
  obtain ⟨QL,hQL⟩:∃ QL:Exit→St→Prop,QL=λe s=>b=false∧retV [.tmp 6] (λv H2=>v = .d (.bool false)∧∃ X,H2=HW l c'++X) e s:=⟨_,rfl⟩
  have main : @Tri G dF pg ⟨A0,own0,w0,28,escX G3 dF ⟨A0,own0,w0,28,λ_ _=>False,gh,3,[]⟩ QL,gh,3,[]⟩ (ziw pg 194) (λe s=>b=true∧retV [.tmp 6] (λv H2=>v = .d (.bool true)∧∃ X,H2=HW l c'++X) e s) ⟨zbQ 0 [.d (.int level),.d t.enc,.d (.ref (yfV l)),.loc 2 0],HW l c⟩:=by
   rw [zcL Tryz.func194 rfl]
   refine .sr <| .p I (.bx I) <| .z I <| .nil <| .seq ?_
   refine Tri.regW (G2:=G) (D0:=dF) ?_
   refine .op 0 rfl rfl (.p I (.ld eY248 I) (.nil ⟨rfl,rfl⟩)) ?_
   refine .op 1 rfl rfl (.m I (.nil ⟨rfl,rfl⟩)) ?_
   refine .op 2 rfl rfl (.p I (.ld Y40 I) (.nil ⟨rfl,rfl⟩)) ?_
   have yb:=λown0 w gh=>hY A0 own0 w gh level t c left hl
   cases left with
   | true=>
    rw [if_pos rfl] at h
    obtain ⟨rfl,rfl⟩:=h
    refine .one 3 rfl (OneX.yield (G1:=G1) (G2:=G) (G3:=G3) (H':=HW l (zwm t c)) true hGs hG3 hGE hrec hasg hbd hs rfl rfl rfl (by decide) rfl rfl rfl rfl rfl rfl (.none rfl) rfl rfl rfl rfl rfl (by repeat (first | exact trivial | refine ⟨rfl,?_⟩)) λown0 w gh=>yb own0 w gh) ?_
    refine .op 4 rfl rfl (@not1 G3 dF _ _ _ _ _ _ _ false rfl) ?_
    refine TriW.nil (C3:=⟨A0,own0,w0,28,λ_ _=>False,gh,3,[]⟩) (Q3:=λe s=>e = .ret∧QL .ret s) (@out1 G3 dF _ _ _ _ _ _ _ _ false _ rfl rfl ⟨rfl,?_⟩) (zsD λe s h=>h)
    rw [hQL]
    exact ⟨rfl,.inl rfl,[.d (.bool false)],⟨_,[],rfl,rfl,rfl⟩,rfl,[],(y8 _).symm⟩
   | false=>
    rw [if_neg (by simp)] at h
    refine .one 3 rfl (OneX.yield (G1:=G1) (G2:=G) (G3:=G) (H':=HW l (zwm t c)) false hGs hGs hGE hrec hasg hbd hs rfl rfl rfl (by decide) rfl rfl rfl rfl rfl rfl (.none rfl) rfl rfl rfl rfl rfl (by repeat (first | exact trivial | refine ⟨rfl,?_⟩)) λown0 w gh=>yb own0 w gh) ?_
    refine .op 4 rfl rfl (.p I (.nt I) (.nil ⟨rfl,rfl⟩)) ?_
    refine TriW.nil (C3:=⟨A0,own0,w0,28,escX G3 dF ⟨A0,own0,w0,28,λ_ _=>False,gh,3,[]⟩ QL,gh,3,[]⟩) ?_ (λ_ _ _ h=>h)
    refine .cond (t:=false) rfl (λh=>by cases h) (λ_=>.skip ?_)
    refine .seq <| .sr <| .p I (.fa I (zvT _)) <| .p I (.ld Y38 I) <| .p I (.len I U38 I) <| .m I <| .nil ?_
    refine .block <| .loopS [0,2,3,15,16] (λ(v:Int×Int)=>[(17,.d (.int v.2))]) (λv=>[(1,.box 3 [.d (.int v.1)])]) (.c4 I <| .c I .nil) h ⟨_,Fz8 I <| Fz1 I trivial⟩ (λrec' v h=>?_)
    refine .sr <| .p I (.ls I) <| .nil <| .keep (HW l v.1) [0,2,3,15,16,17,18] (.c4 I <| .c2 I <| .c I .nil) I <| .seq <| .ztM I h (λh=>?_) λh=>?_
    ·obtain ⟨x,hx,h⟩:=zvq h
     obtain ⟨⟨rb,rc⟩,hr,h⟩:=zvq h
     refine .skip <| .seq <| .block <| .sr <| .p I (.ix I U38 S40 hx) <| .p I (.ld Y40 I) <| .zvj I I I I I I I I (by simp) I I Z40 <| .nil ?_
     refine Tri.regW (G2:=G) (D0:=dF) ?_
     refine .op 0 rfl rfl (.p I (.zuf I I I eY248 I) (.nil ⟨rfl,rfl⟩)) ?_
     refine .op 1 rfl rfl (.m I (.nil ⟨rfl,rfl⟩)) ?_
     refine .op 2 rfl rfl (.p I (.ad I) (.nil ⟨rfl,rfl⟩)) ?_
     refine .op 3 rfl rfl (.p I (.ld Y40 I) (.nil ⟨rfl,rfl⟩)) ?_
     have ih:=λown0 w gh hs=>IH (ztJ level 1) x v.1 rb rc hr A0 own0 w gh hs
     rw [zcL Tryz.func194 rfl] at ih
     cases rb with
     | true=>
      simp only [if_true] at h ih
      refine .one 4 rfl (OneX.call (G2:=G) (G3:=G) (H':=HW l rc) (.none rfl) rfl (zvx.clos (xs:=[.d (.int (ztJ level 1)),.d x.enc]) (caps:=[.d (.ref (yfV l)),.loc 2 0]) rfl rfl eK194 rfl) Tryz.func194 rfl Tryz.ntmps194 rfl rfl rfl rfl rfl rfl rfl (by repeat (first | exact trivial | refine ⟨rfl,?_⟩)) λown0 w gh h1 h2=>ih own0 w gh ⟨h1 _ hs.1,λq hq=>h2 _ (hs.2 q hq)⟩) ?_
      refine .op 5 rfl rfl (.p I (.nt I) (.nil ⟨rfl,rfl⟩)) ?_
      refine TriW.nil (C3:=⟨A0,own0,w0,28,escX G3 dF ⟨A0,own0,w0,28,λ_ _=>False,gh,3,[]⟩ QL,gh,3,[]⟩) ?_ (λ_ _ _ h=>h)
      refine .cond (t:=false) rfl (λh=>by cases h) (λ_=>.skip ?_)
      refine .region <| .p I (.ad I) <| .m I <| .nil ⟨_,h,⟨_,Fz8 I <| Fz1 I trivial⟩⟩
     | false=>
      simp only [ye,if_false] at h ih
      cases h
      refine .one 4 rfl (OneX.call (G2:=G) (G3:=G3) (H':=HW l c') (.none rfl) rfl (zvx.clos (xs:=[.d (.int (ztJ level 1)),.d x.enc]) (caps:=[.d (.ref (yfV l)),.loc 2 0]) rfl rfl eK194 rfl) Tryz.func194 rfl Tryz.ntmps194 rfl rfl rfl rfl rfl rfl rfl (by repeat (first | exact trivial | refine ⟨rfl,?_⟩)) λown0 w gh h1 h2=>ih own0 w gh ⟨h1 _ hs.1,λq hq=>h2 _ (hs.2 q hq)⟩) ?_
      refine .op 5 rfl rfl (@not1 G3 dF _ _ _ _ _ _ _ false rfl) ?_
      refine TriW.nil (C3:=⟨A0,own0,w0,28,λ_ _=>False,gh,3,[]⟩) (Q3:=λe s=>e = .ret∧QL .ret s) (@out1 G3 dF _ _ _ _ _ _ _ _ false _ rfl rfl ⟨rfl,?_⟩) (zsD λe s h=>h)
      rw [hQL]
      exact ⟨rfl,.inl rfl,[.d (.bool false)],⟨_,[],rfl,rfl,rfl⟩,rfl,[],(y8 _).symm⟩
    ·cases h
     refine .exit <| .sr <| .z I <| .nil <| .ret ⟨rfl,.inl rfl,[.d (.bool true)],⟨_,[],rfl,rfl,rfl⟩,rfl,[],(y8 _).symm⟩
  cases b with
  | true=>
   simp only [if_true]
   refine TriX.mk λbs a w hR=>Code.wp_mono ?_ (@Tri.run G dF _ _ _ _ _ main bs a w (@R.esc G dF _ _ _ _ _ _ hR))
   rintro e a w (⟨bs',s',⟨_,hq⟩,hR'⟩ | ⟨_,bs',s',hq,hR'⟩)
   ·exact ⟨bs',s',hq,@R.esc G dF _ _ _ _ _ _ hR'⟩
   ·rw [hQL] at hq;exact absurd hq.1 (by simp)
  | false=>
   simp only [ye,if_false]
   refine TriX.mk λbs a w hR=>Code.wp_mono ?_ (@Tri.run G dF _ _ _ _ _ main bs a w (@R.esc G dF _ _ _ _ _ _ hR))
   rintro e a w (⟨bs',s',⟨hq,_⟩,hR'⟩ | ⟨rfl,bs',s',hq,hR'⟩)
   ·exact absurd hq (by simp)
   ·rw [hQL] at hq;exact ⟨bs',s',hq.2,hR'⟩
theorem TriX.seqT {G G3} {D0} {P} {C} {x y} {Q} {s} (h : @Tri G D0 P C.ne x (λe s=>e = .normal∧TriX G D0 C G3 P y Q s) s):TriX G D0 C G3 P (.seq x y) Q s:=by
 refine ⟨λd a w f=>wp_seq (Code.wp_mono ?_ (@Tri.run G D0 _ _ _ _ _ h d a w (@R.esc G D0 _ _ _ _ _ _ f)))⟩
 rintro e a w (⟨c,j,⟨rfl,g⟩,b⟩ | ⟨_,i⟩)
 ·exact g.run c a w (@R.unesc G D0 _ _ _ _ _ b)
 grind
theorem TriX.regionW {G G3} {D0} {P} {C} {id} {l} {Q} {s} (h:TriW G D0 P C l.toArray l (λe a' w'=>∃ bs' s',Q e s'∧@R G3 D0 C bs' s' a' w') s):TriX G D0 C G3 P (.region id l.toArray false) Q s:=
 ⟨λc a w b=>(wpIn_wide (n:=0)).1 (wpIn_region_lit (h.run c a w b))⟩
theorem TriW.nilX {G3} {D0} {P} {C} {ops} {Q:Exit→St→Prop} {s} (h:Q .normal s):TriW G3 D0 P C ops [] (λe a' w'=>∃ bs' s',Q e s'∧@R G3 D0 C bs' s' a' w') s:=⟨λc a w b=>⟨c,s,h,b⟩⟩
theorem zty {G1 G3} [G:ztS] {l} {rec} {asg body} (hGs : @ztS.gs G=(l,.loop rec)::@ztS.gs G1) (hG3 : @ztS.gs G3=(l,.loop (recB true rec))::@ztS.gs G1) (hGE:∀ q∈@ztS.gs G1,q.1≠l)
  (hrec:rec.state = .ready∧rec.pending=none∧rec.params = #[8,9]∧rec.tmps.size=27) (hasg:rec.assign=asg) (hbd:rec.body=body) (n)
  (hY:∀ (A0 own0) (w) (gh) (level) (t) (c) (left),rndL n level t (zwm t c)=some left→@TriR G1 dF l pg ⟨A0,own0,w,27,λ_ _=>False,gh,3,[]⟩ asg (λe s1=>e = .normal∧∀ (own0) (w),
   @TriR G1 dF l pg ⟨A0,own0,w,27,λ_ _=>False,gh,3,[]⟩ body (λe s2=>e=(if left=true then .ret else .normal)∧∃ X,s2.H=HW l (zwm t c)++X) s1) ⟨(9,.d t.enc)::(8,.d (.int level))::TV,HW l c⟩)
  {t} {b} {c'} (h:zan n n 1 t 0=some (b,c')) (A0 own0) (w0) (gh) (hs:zvW ⟨A0,own0,w0,8,λ_ _=>False,gh,2,[]⟩ l rec TV) :
  TriX G dF ⟨A0,own0,w0,8,λ_ _=>False,gh,2,[]⟩ (if b=true then G else G3) pg (ziw pg 193) (λe s=>(e = .ret∨e = .normal)∧∃ X,s.H=HV c'++X) ⟨zbQ 0 [.d (yfV l),.d (.ref t.enc)],HV 0⟩:=by
 rw [zcL Tryz.func193 rfl]
 refine .seqT (.region <| .p I (.bx I) <| .nil ⟨rfl,?_⟩)
 refine .seqT (.region <| .alloc I I I I eZ248 <| .nil ⟨rfl,?_⟩)
 refine .seqT (.region <| .p I (.zu8 I I) <| .store I I I I I I (.cons .fn .nil) eC248 I (yf I) <| .nil ⟨rfl,?_⟩)
 refine .regionW ?_
 refine .op 0 rfl rfl (.p I (.zuf I I I eY248 I) (.nil ⟨rfl,rfl⟩)) ?_
 refine .op 1 rfl rfl (.p I (.ld Y40 I) (.nil ⟨rfl,rfl⟩)) ?_
 have a:=λown0 w gh hs=>zsE hGs hG3 hGE hrec hasg hbd n hY n 1 t 0 b c' h A0 own0 w gh hs
 rw [zcL Tryz.func194 rfl] at a
 refine .one 2 rfl (OneX.call (G2:=G) (G3:=if b=true then G else G3) (H':=HW l c') (.none rfl) rfl (zvx.clos (xs:=[.d (.int 1),.d t.enc]) (caps:=[.d (.ref (yfV l)),.loc 2 0]) rfl rfl eK194 rfl) Tryz.func194 rfl Tryz.ntmps194 rfl rfl rfl rfl rfl rfl rfl (by repeat (first | exact trivial | refine ⟨rfl,?_⟩)) λown0 w gh g i=>a own0 w gh ⟨g _ hs.1,λq f=>i _ (hs.2 q f)⟩) ?_
 exact .nilX ⟨.inr rfl,[.box 248 [.fn (.func 194) [] [.d (.ref (yfV l)),.loc 2 0]]],rfl⟩
theorem zsc (t:Tree):Pure pg 153 [t.enc] (.fn (.func 193) [] [.ref t.enc]):=by
  refine Pure.zwB Tryz.func153 rfl (by simp_all) λA w=>.sr <| .p I (.bx I) <| .z I <| .nil <| .sr <| .p I (.makeFunc I I) <| .z I <| .nil <| .ret (zbU I (.d _))
theorem zsf {n level t c left} (h:rndL n level t c=some left):∃ nb,((decide (4096<level)||decide (65536<c))=false→zbT n t=some nb)∧left=((decide (4096<level)||decide (65536<c))||!nb):=by
 unfold rndL at h
 split at h <;> rename_i b
 ·grind
 ·cases a:zbT n t with
  | none=>grind
  | some nb=>
   grind
theorem ziq (n) (t0) (r) (h:zb0 n t0=some r):Pure pg 94 [t0.enc] (.bool r):=by
 obtain ⟨⟨b,c'⟩,hv,hb⟩:∃ p,zan n n 1 t0 0=some p∧p.1=r:=by
  unfold zb0 at h
  simp_all
 simp only at hb
 subst hb
 refine Pure.zxv Tryz.func94 rfl (by simp_all) λA w=>?_
 rw [Tryz.ntmps94]
 refine .sr <| .p I (.bx I) <| .alloc I I I I Zv4 <| .nil <| .sr <| .alloc I I I I Zv3 <| .store I I I I I I (.ofD rfl) C3 I (yf I) <| .nil <| .keep (HV 0) [1,2,3] (.c2 I <| .c I .nil) I ?_
 refine Tri.zxT (!b) (K:=λH2=>∃ X,H2=HV c'++X) (RQ:=λs=>zwT pg s [.cell 2 4] [.bool b]) (fs:=[]) (cs:=[.ref t0.enc]) (.region <| .p I (.ld Y40 I) <| .p I (.call I eK153 I (zsc _)) <| .nil ⟨rfl,rfl⟩) rfl eK193 Tryz.func193 rfl Tryz.ntmps193 rfl rfl rfl ?_ ?_ ?_ ?_
 ·intro l Dd rec own0 w1 gh G' hne hG' hGl hrec hasg hbd hown hgh G'' hG''
  have hs:zvW ⟨A,own0,w1,8,λ_ _=>False,gh,2,[]⟩ l rec TV:=⟨hown,λq hq=>by
   simp only [yI,List.not_mem_nil,or_false] at hq
   rcases hq with rfl | rfl
   ·exact hgh 2 _ rfl
   ·exact hgh 3 _ rfl⟩
  obtain ⟨G3,hG3⟩:∃ G3:ztS,@ztS.gs G3=(l,.loop (recB true rec))::(Dd,.deferred (some []))::@ztS.gs globs:=⟨⟨_⟩,rfl⟩
  have hGG:(if b=true then G' else G3)=G'':=by
   cases b with
   | true=>
    rw [if_pos rfl]
    obtain ⟨x⟩:=G'
    obtain ⟨y⟩:=G''
    simp only at hG' hG''
    rw [hG',hG''];rfl
   | false=>
    rw [if_neg (by simp)]
    obtain ⟨x⟩:=G3
    obtain ⟨y⟩:=G''
    simp only at hG3 hG''
    rw [hG3,hG''];rfl
  obtain ⟨G1,hG1⟩:∃ G1:ztS,@ztS.gs G1=(Dd,.deferred (some []))::@ztS.gs globs:=⟨⟨_⟩,rfl⟩
  have hsub:∀ p∈@ztS.gs globs,p∈@ztS.gs G1:=λp hp=>by rw [hG1];exact yX _ hp
  have hGs : @ztS.gs G'=(l,.loop rec)::@ztS.gs G1:=by rw [hG',hG1]
  have hGs3 : @ztS.gs G3=(l,.loop (recB true rec))::@ztS.gs G1:=by rw [hG3,hG1]
  have ct:=@zty G1 G3 G' l rec _ _ hGs hGs3 (λq hq=>by
   rw [hG1] at hq
   rcases yI.1 hq with rfl | hq
   ·exact λe=>hne e.symm
   ·exact hGl q hq) hrec hasg hbd n (λA0 own0 w gh level t c left hl=>?_) t0 b c' hv A own0 w1 gh hs
  ·rw [hGG,zcL Tryz.func193 rfl] at ct
   exact ct
  ·obtain ⟨nb,hn1,hn2⟩:=zsf hl
   have nodeP1:(decide (4096<level)||decide (65536<zwm t c))=false→Pure pg 154 [t.enc] (.bool nb):=λhc=>Pure.widen hsub (zi7 n t nb (hn1 hc))
   refine .seq (.region rfl <| .z I <| .nil ⟨rfl,rfl,?_⟩)
   refine .region rfl <| .zvj I I I I I I I I (by simp) I I Z40 <| .nil ⟨rfl,rfl,λown0 w=>?_⟩
   refine .block <| .seq (.region rfl <| .p I (.zuf I I I Y3 I) <| .p I (.fa I (G40_1 _)) <| .p I (.ld Y37 I) <| .p I (.len I U37 I) <| .p I (.ad I) <| .p I (.ad I) <| .store I I I I I I (.ofD rfl) C3 I (yf I) <| .nil ⟨rfl,rfl,?_⟩)
   refine .seq (.region rfl <| .plainL 11 rfl ?_)
   refine .m I <| .p I (.gt I) <| .m I <| .jOr 2 (b2:=decide (65536<zwm t c)) rfl rfl rfl rfl (.inl rfl) (λ_ _ _ h1=>(by cases h1)) rfl rfl (λhb=>.q I (.zuf I I I Y3 I) <| .q I (.gt I) <| .nil rfl) ?_
   refine .m I <| .jOr 3 (b2:=!nb) rfl rfl rfl rfl (.inl rfl) (λ_ _ _ h1=>(by cases h1)) rfl rfl (λhb=>.q I (.ld Y40 I) <| .q I (.call I eK154 I (nodeP1 hb)) <| .q I (.nt I) <| .nil rfl) ?_
   refine .nil <| .nil ⟨rfl,rfl,?_⟩
   refine .cond (t:=left) (by rw [hn2];rfl) ?_
   cases left with
   | true=>exact .seq (.region rfl <| .store I I I I I I (.ofD rfl) C4 I (yf I) <| .nil ⟨rfl,rfl,.ret ⟨.inr rfl,rfl,[],(y8 _).symm⟩⟩)
   | false=>exact .skip ⟨.inl rfl,rfl,[],(y8 _).symm⟩
 ·intro hb H2 ⟨X,hX⟩
  subst hX
  cases b with
  | true=>cases hb
  | false=>exact ⟨.bool false,[],0,4,[.d (.bool false)],rfl,rfl,rfl,Y4,.loc1 (c:=.d (.bool false)) rfl (.d _) rfl,rfl⟩
 ·intro hb Dd H2 G' hG' ⟨X,hX⟩
  subst hX
  cases b with
  | false=>cases hb
  | true=>
   refine Tri.ge (t:=⟨[(2,.loc 0 0)],HV c'⟩) ⟨X,rfl,rfl,rfl,rfl,trivial⟩ ?_ rfl
   exact .sr <| .store I I I I I I (.ofD rfl) C4 I (yf I) <| .nil <| .ret ⟨rfl,.bool true,[],0,4,[.d (.bool true)],rfl,rfl,rfl,Y4,.loc1 (c:=.d (.bool true)) rfl (.d _) rfl,rfl⟩
 ·intro s bs a w' df hq hR
  obtain ⟨u,hu1,hu2⟩:=zrD (P:=pg) (fn:=Tryz.f94) (y:=.bool b) (ds:=[.bool b]) rfl hq hR
  exact ⟨u,hu1,u,rfl,hR.fr,hu2⟩
abbrev wE11 a:=(.vec 83 2 (List.map Range.enc a):Blk)
theorem zfa:Kd3 195 zbD zuh.enc zuc.enc .int .bool:=λn t0 t1 t2 r h=>.ot Tryz.func195 I Tryz.ntmps195 I λA w=>.sA 3 I<|.S 2 I<|.e I<|bK h λx1 q1 h=>.zvy (enc:=D.bool) (z:=(false:Bool)) I I I I E173 I I I (.val Zv4) q1<|.A 1 I<|.nil<|.seq<|.S 2 I<|.e I<|.A 1 I<|.nil<|.block<|.L [2,3,4,15,16] h (λv=>[(7,.vec 0 (List.length v.1)),(17,.d (.int v.2))]) (λv=>[(0,.vec 4 1 (List.map D.bool v.1))]) I λ_ ⟨b0_14,x15⟩ h=>.sA 1 I<|.K [2,3,4,7,15,16,17,18] I<|.seq<|.ztM I h (λh=>.skip<|.seq<|.block<|.S 1 I<|.X h I λx17 h=>.A 3 I<|.nil<|.region<|.A 8 I<|.X h I λx18 h=>.A 4 I<|bK h λx19 q19 h=>.p I (.idxV I I I I I U173 S4 q19)<|bK h λb0_20 hb0_20 h=>.zuJ (enc:=D.bool) I I I I I I I I I C4 hb0_20<|.zuu 7 I (zag hb0_20)<|.zuu 22 I (zag hb0_20)<|.nil<|.K [2,3,4,7,15,16,17] I<|.rA 2 I (ndE h I)) λh=>.exit<|.seq<|.zud [0] (.cons (t:=7) I (.vec (zuG I) I (by simp)) .nil)<|.dr 15<|.A 6 I<|bK h λx24 q24 h=>.p I (.rem6 I I I q24)<|.A 3 I<|bK h λx25 q25 h=>.p I (.quo6 I I I q25)<|.Z h I (zgI _ _ _ _ _) λx26 h=>.e I<|.A 2 I<|.nil<|.nil<|.K [6] I<|.ret (rO h I)
theorem zgo:Kd2 156 zf7 Range.enc Range.enc Range.enc:=λn t0 t1 r h=>by
 refine .ot Tryz.func156 I Tryz.ntmps156 I λA w=>.S 2 I<|.zua I I I I (.agg Zc83 (ds':=[.int 0,.int 0]) (.e .e1)) I<|.nil<|.S 4 I<|.p I (.max2 I I I)<|.A 4 I<|.p I (.min2 I I I)<|.p I (.B (Range.enc ⟨(gmax t0.lo t1.lo),(gmin t0.hi t1.hi)⟩) Zc83 I)<|.so I<|.nil<|.ret ?_
 cases h
 exact zet I I Y83 (.v .v1)
theorem zes (n:Nat) (self:zuh→Tree→Option Bool) (hself:∀ (t0:zuh) (t1:Tree) (r:Bool),self t0 t1=some r→Pure pg 95 [zuh.enc t0,Tree.enc t1] (.bool r)) (t0:zuh) (t1:Tree) (r:Bool) (h:zA.body n self t0 t1=some r):Pure pg 95 [zuh.enc t0,Tree.enc t1] (.bool r):=by
  refine Pure.ot Tryz.func95 I Tryz.ntmps95 I λA w=>.sr<|.box I I I I I (.ofD I)<|.A 2 I<|.nil<|.seq<|.S 2 I<|.Z h I (zfH _ _) λx1 h=>.nil<|.ztM I h (λh=>.sA 1 I<|.ret (rO h I)) λh=>.skip<|.S 2 I<|bK h λx2 q2 h=>.clone (enc:=Range.enc) I I I I (zt1 I) Tryz.func73 I I I I E80 I (λ_=>I) (λ_=>I) q2 I I<|.A 1 I<|.store I I I I I I (.cons (.vec I (by simp)) .nil) C80 I (yf I)<|.nil<|.seq<|.S 2 I<|.e I<|.A 1 I<|.nil<|.block<|.L [2,3,23,24] h (λv=>[(25,.d (.int v.2))]) (λv=>[(0,.box 153 [.d (eI t0.s.box),.d (eK t0.s.rows),.d (eO t0.s.ztQ),.d (eP t0.s.cases),.d (eK t0.rows),.vec 1 (List.length v.1),.d (.bool t0.zt8)]),(1,wE11 v.1)]) I λ_ ⟨b1_115,x116⟩ h=>.sA 1 I<|.K [2,3,23,24,25,26] I<|.seq<|.ztM I h (λh=>?_) λh=>?_
  · refine .skip<|.J [2,3,23,24,25] h (λv=>[]) (λv=>[(0,.box 153 [.d (eI t0.s.box),.d (eK t0.s.rows),.d (eO t0.s.ztQ),.d (eP t0.s.cases),.d (eK t0.rows),.vec 1 (List.length v),.d (.bool t0.zt8)]),(1,wE11 v)]) I (λk_119 h=>?_) (λb1_118 h=>?_)
    · refine .block<|.sr<|.X h I λx120 h=>.A 1 I<|.aS I<|.nil<|.sr<|.p I (.zue I I I Y153 (yf I) I)<|.A 1 I<|.zvl (rs:=[.tmp 4,.tmp 5]) I I (.stat I (zt1 I) I) Tryz.func155 I Tryz.ntmps155 I I I I (λown0 w gh=>.sr<|.box I I I I I (.cons (.d I) (.cons (.d I) (.cons (.d I) (.cons (.d I) (.cons (.d I) (.cons (.vec I (by simp)) (.cons (.d I) .nil)))))))<|.A 3 I<|.nil<|.K [2,3] I<|.seq<|.sA 3 I<|.ztM I h (λh=>?_) λh=>?_)
      · refine .seq<|.S 2 I<|.p I (.ztW I I I zqK)<|.A 2 I<|.e I<|.A 1 I<|.nil<|.ztM I h (λh=>.sA 2 I<|.ret<|.inl ⟨.inl I,_,⟨_,⟨_,_,I,I,⟨_,_,I,I,I⟩⟩,I⟩,(.A 5 I<|.nil<|.K [2,3,7,8,23,24,25] I<|.seq<|.sA 1 I<|.zwX I<|.skip<|.sA 2 I<|.ztM I h (λh=>.sA 1 I<|.ret (rO h I)) λh=>.skip (ndE h I))⟩) λh=>.skip<|.sr<|.p I (.ztW I I I zqK)<|.A 4 I<|.X h I λx142 h=>.A 1 I<|.aS I<|.nil<|.K [2,3,6] I<|.sA 6 I<|.seq<|.seq<|.plain 9 I<|.A 3 I<|.jO 5 (decide ((x142.least.length:Int)≤zt2 x120.cell x142.first)) I (λb144=>.A 3 I<|.qe I<|.A 1 I<|.nil I) <| .nil<|.nil<|.ztM I h (λh=>.sA 2 I<|.K [4,5] I<|.ret<|.inl ⟨.inl I,_,⟨_,⟨_,_,I,I,⟨_,_,I,I,I⟩⟩,I⟩,(.A 5 I<|.nil<|.K [2,3,7,8,23,24,25] I<|.seq<|.sA 1 I<|.zwX I<|.skip<|.sA 2 I<|.ztM I h (λh=>.sA 1 I<|.ret (rO h I)) λh=>.skip (ndE h I))⟩) λh=>.skip<|.J [2,3] h (λv=>[]) (λv=>[(0,.box 153 [.d (eI t0.s.box),.d (eK t0.s.rows),.d (eO t0.s.ztQ),.d (eP t0.s.cases),.d (eK t0.rows),.vec 1 (List.length v),.d (.bool t0.zt8)]),(1,wE11 v),(2,.box 153 [.d (eI t0.s.box),.d (eK t0.s.rows),.d (eO t0.s.ztQ),.d (eP t0.s.cases),.d (eK t0.rows),.vec 1 (List.length v),.d (.bool t0.zt8)])]) I (λk_152 h=>?_) (λb1_151 h=>?_)
        · refine .sr<|.p I (.zue I I I Y153 (yf I) I)<|.A 2 I<|bK h λx154 q154 h=>.p I (.zwW I (zt1 I) (.cons I (.agg (.v (.v (.v (.v (.v (.cons (.vec I (by simp)) .v1))))))) (.cons I (.d _) (.cons I (.d _) .nil))) I (zfa _ _ _ _ _ q154))<|.nil<|.K [2,3,6,7,44] I<|.ztM I h (λh=>.dr 20<|.A 8 I<|bK h λx155 q155 h=>.p I (.idxV I I I I I U80 S83 q155)<|.p I (.zvJ I I I (by simp) zxV)<|.p I (.zv1 I I I I q155 Y3 I I I (y:=.int _))<|.A 3 I<|.X h I λx156 h=>.A 2 I<|.p I (.min2 I I I)<|bK h λx157 q157 h=>.p I (.idxV I I I I I U80 S83 q157)<|.p I (.zvJ I I I (by simp) zxV)<|.nil<|bK h λb1_158 hb1_158 h=>.storeElF (enc:=Range.enc) I I I I I I I I I C3 q157 I I I hb1_158<|.zuu 46 I (zag hb1_158)<|.zuu 50 I (zag hb1_158)<|.zuS 0 5 I I (zag hb1_158)<|.zuS 2 5 I I (zag hb1_158)<|.nil (ndE h I)) λh=>.skip (ndE h I)
        · refine .seq<|.dr 17<|.A 4 I<|bK h λx159 q159 h=>.p I (.idxV I I I I I U80 S83 q159)<|.p I (.zvJ I I I (by simp) F83_0)<|.p I (.zv1 I I I I q159 Y3 I I I (y:=.int _))<|.A 4 I<|bK h λx160 q160 h=>.p I (.idxV I I I I I U80 S83 q160)<|.p I (.zvJ I I I (by simp) zxV)<|.p I (.zv1 I I I I q160 Y3 I I I (y:=.int _))<|.A 3 I<|.nil<|.nil<|.K [4,5] I<|.ret<|.inl ⟨.inl I,_,⟨_,⟨_,_,I,I,⟨_,_,I,I,I⟩⟩,I⟩,(.A 5 I<|.nil<|.K [2,3,7,8,23,24,25] I<|.seq<|.sA 1 I<|.ztM I h (λh=>.sA 1 I<|.ret (rO h I)) λh=>.skip<|.sA 2 I<|.ztM I h (λh=>.sA 1 I<|.ret (rO h I)) λh=>.skip (ndE h I))⟩
      · refine .skip<|.seq<|.seq<|.plain 14 I<|.A 4 I<|.e I<|.A 2 I<|.jO 6 (decide ((b1_115.length:Int)≤x120.cell)) I (λb162=>.A 4 I<|.q I (.lenV I U80 I I I)<|.A 1 I<|.nil I) <| .nil<|.nil<|.K [2,3,93] I<|.ztM I h (λh=>.sA 2 I<|.ret<|.inl ⟨.inl I,_,⟨_,⟨_,_,I,I,⟨_,_,I,I,I⟩⟩,I⟩,(.A 5 I<|.nil<|.K [2,3,7,8,23,24,25] I<|.seq<|.sA 1 I<|.zwX I<|.skip<|.sA 2 I<|.ztM I h (λh=>.sA 1 I<|.ret (rO h I)) λh=>.skip (ndE h I))⟩) λh=>.skip<|.S 4 I<|.X h I λx164 h=>.A 1 I<|.aS I<|.nil<|.seq<|.sA 3 I<|.ztM I h (λh=>.seq<|.plain 9 I<|.A 2 I<|.e I<|.A 2 I<|.jA 3 (decide (x164.bound<0)) I (λb166=>.A 3 I<|.nil I) <| .nil<|.A 1 I<|.nil<|.K [9] I<|.sA 4 I<|.ret<|.inl ⟨.inl I,_,⟨_,⟨_,_,I,I,⟨_,_,I,I,I⟩⟩,I⟩,(.A 5 I<|.nil<|.K [2,3,7,8,23,24,25] I<|.seq<|.sA 1 I<|.ztM I h (λh=>.sA 1 I<|.ret (rO h I)) λh=>.skip<|.sA 2 I<|.ztM I h (λh=>.sA 1 I<|.ret (rO h I)) λh=>.skip (ndE h I))⟩) λh=>.skip<|.seq<|.dr 11<|.A 9 I<|bK h λx167 q167 h=>.p I (.zwW I (zt1 I) (.cons I (.d _) (.cons I (.vec I (by simp)) (.cons I (.d _) .nil))) I (zeQ _ _ _ _ _ q167))<|bK h λx168 q168 h=>.p I (.idxV I I I I I U80 S83 q168)<|.nil<|bK h λb1_169 hb1_169 h=>.zuJ (enc:=Range.enc) I I I I I I I I I C83 hb1_169<|.zuu 115 I (zag hb1_169)<|.zuu 120 I (zag hb1_169)<|.zuS 0 5 I I (zag hb1_169)<|.zuS 2 5 I I (zag hb1_169)<|.nil<|.K [2,3] I<|.seq<|.dr 17<|.A 4 I<|bK h λx170 q170 h=>.p I (.idxV I I I I I U80 S83 q170)<|.p I (.zvJ I I I (by simp) F83_0)<|.p I (.zv1 I I I I q170 Y3 I I I (y:=.int _))<|.A 4 I<|bK h λx171 q171 h=>.p I (.idxV I I I I I U80 S83 q171)<|.p I (.zvJ I I I (by simp) zxV)<|.p I (.zv1 I I I I q171 Y3 I I I (y:=.int _))<|.A 3 I<|.nil<|.nil<|.K [4,5] I<|.ret<|.inl ⟨.inl I,_,⟨_,⟨_,_,I,I,⟨_,_,I,I,I⟩⟩,I⟩,(.A 5 I<|.nil<|.K [2,3,7,8,23,24,25] I<|.seq<|.sA 1 I<|.ztM I h (λh=>.sA 1 I<|.ret (rO h I)) λh=>.skip<|.sA 2 I<|.ztM I h (λh=>.sA 1 I<|.ret (rO h I)) λh=>.skip (ndE h I))⟩
    · refine .rA 2 I (ndE h I)
  · refine .exit<|.seq<|.seq<|.zud [0,1] (.cons (t:=2) (d:=.ref (zuh.enc (⟨t0.s,t0.rows,b1_115,t0.zt8⟩:zuh))) I (.loc (zuG I) I (.v (.v (.v (.v (.v (.cons (.vec (zuG I) I (by simp)) .v1))))))) .nil)<|.rA 2 I<|.block<|.sA 2 I<|.ztM I h (λh=>?_) λh=>?_
    · refine .seq<|.S 4 I<|.e I<|.A 1 I<|.nil<|.ztM I h (λh=>.sA 1 I<|.ret (rO h I)) λh=>.skip<|.S 4 I<|.X h I λx172 h=>.A 1 I<|.aS I<|.nil<|.K [2,3,9] I<|.seq<|.dr 6<|.A 2 I<|.alloc I I I I ZZ153<|.alloc I I I I ZZ153<|.store I I I I I I Z153<|.store I I I I I I Z153<|.nil<|.nil<|.seq<|bK h λx173 q173 h=>bK h λx174 q174 h=>.drawB 10 Hm I<|.via 3 (bN 10 127) ⟨[(3,.d (.ref (Tree.enc t1))),(9,.d (.ref (Range.enc x172))),(10,.loc 2 0),(11,.loc 3 0),(59,.vec 4 (List.length x173)),(62,.vec 5 (List.length x174)),(63,.loc 2 5)],[.dead,.dead,.box 153 [.d (eI t0.s.box),.d (eK t0.s.rows),.d (eO t0.s.ztQ),.d (eP t0.s.cases),.d (eK t0.rows),.d (eI b1_115),.d (.bool t0.zt8)],.box 153 [.d (eI t0.s.box),.d (eK t0.s.rows),.d (eO t0.s.ztQ),.d (eP t0.s.cases),.d (eK t0.rows),.d (eI b1_115),.d (.bool t0.zt8)],wE11 x173,wE11 x174]⟩ ?_ λsA0=>?_
      · refine .lin 7 (by decide +kernel) I<|.store I I I I I I (.cons (.vec I (by simp)) .nil) C80 I (yf I)<|.A 1 I<|.store I I I I I I (.cons (.vec I (by simp)) .nil) C80 I (yf I)<|.nil<|.K [3,9,10,11] I<|.seq<|.dr 12<|.A 9 I<|.p I (.B (Range.enc ⟨x172.lo,t1.at_⟩) Zc83 I)<|.Z h I (zgo _ _ _) λx175 h=>bK h λx176 q176 h=>.p I (.idxV I I I I I U80 S83 q176)<|.nil<|bK h λb4_177 hb4_177 h=>.zuJ (enc:=Range.enc) I I I I I I I I I C83 hb4_177<|.zuu 66 I (zag hb4_177)<|.zuS 2 5 I I (zag hb4_177)<|.nil<|.seq<|.dr 13<|.A 10 I<|.p I (.B (Range.enc ⟨ztJ t1.at_ 1,x172.hi⟩) Zc83 I)<|.Z h I (zgo _ _ _) λx178 h=>bK h λx179 q179 h=>.p I (.idxV I I I I I U80 S83 q179)<|.nil<|bK h λb5_180 hb5_180 h=>.zuJ (enc:=Range.enc) I I I I I I I I I C83 hb5_180<|.zuu 78 I (zag hb5_180)<|.zuS 3 5 I I (zag hb5_180)<|.nil<|.K [3,10,11] I<|.seq<|.zud [2,3,4,5] (.cons (t:=10) (d:=.ref (zuh.enc (⟨t0.s,t0.rows,b4_177,t0.zt8⟩:zuh))) I (.loc (zuG I) I (.v (.v (.v (.v (.v (.cons (.vec (zuG I) I (by simp)) .v1))))))) (.cons (t:=11) (d:=.ref (zuh.enc (⟨t0.s,t0.rows,b5_180,t0.zt8⟩:zuh))) I (.loc (zuG I) I (.v (.v (.v (.v (.v (.cons (.vec (zuG I) I (by simp)) .v1))))))) .nil))<|.dr 15<|.A 1 I<|.p I (.fa I (zvT _))<|.A 1 I<|.X h I λx181 h=> .A 1 I<|.Z h I (hself _ _) λx182 h=>.A 1 I<|gK h λc184 h=>gK h λc185 h=>.jA 6 (((self (⟨t0.s,t0.rows,b5_180,t0.zt8⟩:zuh) ((idx t1.kids 1).getD default)).getD default)) I (λb183=>.A 1 I<|.q I (.fa I (zvT _))<|.A 1 I<|.q I (.ix I U38 S40 (zt0 (impT c184 b183)))<|.A 1 I<|.q I (.call I (zt1 I) I (hself _ _ _ (zt0 (impT c185 b183))))<|.nil I) <| .A 1 I<|.nil<|.nil<|.K [4] I<|.ret (rO h I)
      refine .via 4 (bN 10 63) ⟨[(3,.d (.ref (Tree.enc t1))),(9,.d (.ref (Range.enc x172))),(10,.loc 2 0),(11,.loc 3 0),(59,.vec 4 (List.length x173)),(62,.vec 5 (List.length x174))],[.dead,.dead,.box 153 [.d (eI t0.s.box),.d (eK t0.s.rows),.d (eO t0.s.ztQ),.d (eP t0.s.cases),.d (eK t0.rows),.d (eI b1_115),.d (.bool t0.zt8)],.box 153 [.d (eI t0.s.box),.d (eK t0.s.rows),.d (eO t0.s.ztQ),.d (eP t0.s.cases),.d (eK t0.rows),.d (eI b1_115),.d (.bool t0.zt8)],wE11 x173,wE11 x174]⟩ (.step 6 [] (by decide +kernel) (.cons (i:=6) I (.p I (.ztW I I I znU) (.nil ⟨I,I⟩)) (.kt sA0 I) .nil)) λsA1=>.via 4 (bN 10 95) ⟨[(3,.d (.ref (Tree.enc t1))),(9,.d (.ref (Range.enc x172))),(10,.loc 2 0),(11,.loc 3 0),(59,.vec 4 (List.length x173)),(61,.d (eI b1_115)),(63,.loc 2 5)],[.dead,.dead,.box 153 [.d (eI t0.s.box),.d (eK t0.s.rows),.d (eO t0.s.ztQ),.d (eP t0.s.cases),.d (eK t0.rows),.d (eI b1_115),.d (.bool t0.zt8)],.box 153 [.d (eI t0.s.box),.d (eK t0.s.rows),.d (eO t0.s.ztQ),.d (eP t0.s.cases),.d (eK t0.rows),.d (eI b1_115),.d (.bool t0.zt8)],wE11 x173]⟩ (.step 5 [] (by decide +kernel) (.cons (i:=5) I (.clone (enc:=Range.enc) I I I I (zt1 I) Tryz.func73 I I I I E80 I (λ_=>I) (λ_=>I) q174 I I (.nil ⟨I,I⟩)) (.kt sA0 I) .nil)) λsA2=>.via 5 (bN 10 31) ⟨[(3,.d (.ref (Tree.enc t1))),(9,.d (.ref (Range.enc x172))),(10,.loc 2 0),(11,.loc 3 0),(59,.vec 4 (List.length x173)),(61,.d (eI b1_115))],[.dead,.dead,.box 153 [.d (eI t0.s.box),.d (eK t0.s.rows),.d (eO t0.s.ztQ),.d (eP t0.s.cases),.d (eK t0.rows),.d (eI b1_115),.d (.bool t0.zt8)],.box 153 [.d (eI t0.s.box),.d (eK t0.s.rows),.d (eO t0.s.ztQ),.d (eP t0.s.cases),.d (eK t0.rows),.d (eI b1_115),.d (.bool t0.zt8)],wE11 x173]⟩ (.step 5 [6] (by decide +kernel) (.cons (i:=5) I (.clone (enc:=Range.enc) I I I I (zt1 I) Tryz.func73 I I I I E80 I (λ_=>I) (λ_=>I) q174 I I (.nil ⟨I,I⟩)) (.kt sA1 I) (.cons (i:=6) I (.p I (.ztW I I I znU) (.nil ⟨I,I⟩)) (.kt sA2 I) .nil))) λsA3=>?_
      refine .via 5 (bN 10 79) ⟨[(3,.d (.ref (Tree.enc t1))),(9,.d (.ref (Range.enc x172))),(10,.loc 2 0),(11,.loc 3 0),(59,.vec 4 (List.length x173)),(60,.d (.ref (eI b1_115))),(63,.loc 2 5)],[.dead,.dead,.box 153 [.d (eI t0.s.box),.d (eK t0.s.rows),.d (eO t0.s.ztQ),.d (eP t0.s.cases),.d (eK t0.rows),.d (eI b1_115),.d (.bool t0.zt8)],.box 153 [.d (eI t0.s.box),.d (eK t0.s.rows),.d (eO t0.s.ztQ),.d (eP t0.s.cases),.d (eK t0.rows),.d (eI b1_115),.d (.bool t0.zt8)],wE11 x173]⟩ (.step 4 [] (by decide +kernel) (.cons (i:=4) I (.p I (.ld Y80 I) (.nil ⟨I,I⟩)) (.kt sA2 I) .nil)) λsA4=>.via 6 (bN 10 15) ⟨[(3,.d (.ref (Tree.enc t1))),(9,.d (.ref (Range.enc x172))),(10,.loc 2 0),(11,.loc 3 0),(59,.vec 4 (List.length x173)),(60,.d (.ref (eI b1_115)))],[.dead,.dead,.box 153 [.d (eI t0.s.box),.d (eK t0.s.rows),.d (eO t0.s.ztQ),.d (eP t0.s.cases),.d (eK t0.rows),.d (eI b1_115),.d (.bool t0.zt8)],.box 153 [.d (eI t0.s.box),.d (eK t0.s.rows),.d (eO t0.s.ztQ),.d (eP t0.s.cases),.d (eK t0.rows),.d (eI b1_115),.d (.bool t0.zt8)],wE11 x173]⟩ (.step 4 [6] (by decide +kernel) (.cons (i:=4) I (.p I (.ld Y80 I) (.nil ⟨I,I⟩)) (.kt sA3 I) (.cons (i:=6) I (.p I (.ztW I I I znU) (.nil ⟨I,I⟩)) (.kt sA4 I) .nil))) λsA5=>.via 6 (bN 10 71) ⟨[(2,.d (.ref (zuh.enc (⟨t0.s,t0.rows,b1_115,t0.zt8⟩:zuh)))),(3,.d (.ref (Tree.enc t1))),(9,.d (.ref (Range.enc x172))),(10,.loc 2 0),(11,.loc 3 0),(59,.vec 4 (List.length x173)),(63,.loc 2 5)],[.dead,.dead,.box 153 [.d (eI t0.s.box),.d (eK t0.s.rows),.d (eO t0.s.ztQ),.d (eP t0.s.cases),.d (eK t0.rows),.d (eI b1_115),.d (.bool t0.zt8)],.box 153 [.d (eI t0.s.box),.d (eK t0.s.rows),.d (eO t0.s.ztQ),.d (eP t0.s.cases),.d (eK t0.rows),.d (eI b1_115),.d (.bool t0.zt8)],wE11 x173]⟩ (.step 3 [] (by decide +kernel) (.cons (i:=3) I (.p I (.fa I (zj8 _)) (.nil ⟨I,I⟩)) (.kt sA4 I) .nil)) λsA6=>?_
      refine .via 6 (bN 10 27) ⟨[(3,.d (.ref (Tree.enc t1))),(9,.d (.ref (Range.enc x172))),(10,.loc 2 0),(11,.loc 3 0),(58,.d (eI b1_115)),(61,.d (eI b1_115))],[.dead,.dead,.box 153 [.d (eI t0.s.box),.d (eK t0.s.rows),.d (eO t0.s.ztQ),.d (eP t0.s.cases),.d (eK t0.rows),.d (eI b1_115),.d (.bool t0.zt8)],.box 153 [.d (eI t0.s.box),.d (eK t0.s.rows),.d (eO t0.s.ztQ),.d (eP t0.s.cases),.d (eK t0.rows),.d (eI b1_115),.d (.bool t0.zt8)]]⟩ (.step 2 [] (by decide +kernel) (.cons (i:=2) I (.clone (enc:=Range.enc) I I I I (zt1 I) Tryz.func73 I I I I E80 I (λ_=>I) (λ_=>I) q173 I I (.nil ⟨I,I⟩)) (.kt sA3 I) .nil)) λsA7=>.via 7 (bN 10 7) ⟨[(2,.d (.ref (zuh.enc (⟨t0.s,t0.rows,b1_115,t0.zt8⟩:zuh)))),(3,.d (.ref (Tree.enc t1))),(9,.d (.ref (Range.enc x172))),(10,.loc 2 0),(11,.loc 3 0),(59,.vec 4 (List.length x173))],[.dead,.dead,.box 153 [.d (eI t0.s.box),.d (eK t0.s.rows),.d (eO t0.s.ztQ),.d (eP t0.s.cases),.d (eK t0.rows),.d (eI b1_115),.d (.bool t0.zt8)],.box 153 [.d (eI t0.s.box),.d (eK t0.s.rows),.d (eO t0.s.ztQ),.d (eP t0.s.cases),.d (eK t0.rows),.d (eI b1_115),.d (.bool t0.zt8)],wE11 x173]⟩ (.step 3 [6] (by decide +kernel) (.cons (i:=3) I (.p I (.fa I (zj8 _)) (.nil ⟨I,I⟩)) (.kt sA5 I) (.cons (i:=6) I (.p I (.ztW I I I znU) (.nil ⟨I,I⟩)) (.kt sA6 I) .nil))) λsA8=>.via 7 (bN 10 11) ⟨[(3,.d (.ref (Tree.enc t1))),(9,.d (.ref (Range.enc x172))),(10,.loc 2 0),(11,.loc 3 0),(58,.d (eI b1_115)),(60,.d (.ref (eI b1_115)))],[.dead,.dead,.box 153 [.d (eI t0.s.box),.d (eK t0.s.rows),.d (eO t0.s.ztQ),.d (eP t0.s.cases),.d (eK t0.rows),.d (eI b1_115),.d (.bool t0.zt8)],.box 153 [.d (eI t0.s.box),.d (eK t0.s.rows),.d (eO t0.s.ztQ),.d (eP t0.s.cases),.d (eK t0.rows),.d (eI b1_115),.d (.bool t0.zt8)]]⟩ (.step 2 [4] (by decide +kernel) (.cons (i:=2) I (.clone (enc:=Range.enc) I I I I (zt1 I) Tryz.func73 I I I I E80 I (λ_=>I) (λ_=>I) q173 I I (.nil ⟨I,I⟩)) (.kt sA5 I) (.cons (i:=4) I (.p I (.ld Y80 I) (.nil ⟨I,I⟩)) (.kt sA7 I) .nil))) λsA9=>?_
      refine .via 7 (bN 10 25) ⟨[(3,.d (.ref (Tree.enc t1))),(9,.d (.ref (Range.enc x172))),(10,.loc 2 0),(11,.loc 3 0),(57,.d (.ref (eI b1_115))),(61,.d (eI b1_115))],[.dead,.dead,.box 153 [.d (eI t0.s.box),.d (eK t0.s.rows),.d (eO t0.s.ztQ),.d (eP t0.s.cases),.d (eK t0.rows),.d (eI b1_115),.d (.bool t0.zt8)],.box 153 [.d (eI t0.s.box),.d (eK t0.s.rows),.d (eO t0.s.ztQ),.d (eP t0.s.cases),.d (eK t0.rows),.d (eI b1_115),.d (.bool t0.zt8)]]⟩ (.step 1 [] (by decide +kernel) (.cons (i:=1) I (.p I (.ld Y80 I) (.nil ⟨I,I⟩)) (.kt sA7 I) .nil)) λsA10=>.via 8 (bN 10 3) ⟨[(2,.d (.ref (zuh.enc (⟨t0.s,t0.rows,b1_115,t0.zt8⟩:zuh)))),(3,.d (.ref (Tree.enc t1))),(9,.d (.ref (Range.enc x172))),(10,.loc 2 0),(11,.loc 3 0),(58,.d (eI b1_115))],[.dead,.dead,.box 153 [.d (eI t0.s.box),.d (eK t0.s.rows),.d (eO t0.s.ztQ),.d (eP t0.s.cases),.d (eK t0.rows),.d (eI b1_115),.d (.bool t0.zt8)],.box 153 [.d (eI t0.s.box),.d (eK t0.s.rows),.d (eO t0.s.ztQ),.d (eP t0.s.cases),.d (eK t0.rows),.d (eI b1_115),.d (.bool t0.zt8)]]⟩ (.step 2 [3] (by decide +kernel) (.cons (i:=2) I (.clone (enc:=Range.enc) I I I I (zt1 I) Tryz.func73 I I I I E80 I (λ_=>I) (λ_=>I) q173 I I (.nil ⟨I,I⟩)) (.kt sA8 I) (.cons (i:=3) I (.p I (.fa I (zj8 _)) (.nil ⟨I,I⟩)) (.kt sA9 I) .nil))) λsA11=>.via 8 (bN 10 9) ⟨[(3,.d (.ref (Tree.enc t1))),(9,.d (.ref (Range.enc x172))),(10,.loc 2 0),(11,.loc 3 0),(57,.d (.ref (eI b1_115))),(60,.d (.ref (eI b1_115)))],[.dead,.dead,.box 153 [.d (eI t0.s.box),.d (eK t0.s.rows),.d (eO t0.s.ztQ),.d (eP t0.s.cases),.d (eK t0.rows),.d (eI b1_115),.d (.bool t0.zt8)],.box 153 [.d (eI t0.s.box),.d (eK t0.s.rows),.d (eO t0.s.ztQ),.d (eP t0.s.cases),.d (eK t0.rows),.d (eI b1_115),.d (.bool t0.zt8)]]⟩ (.step 1 [4] (by decide +kernel) (.cons (i:=1) I (.p I (.ld Y80 I) (.nil ⟨I,I⟩)) (.kt sA9 I) (.cons (i:=4) I (.p I (.ld Y80 I) (.nil ⟨I,I⟩)) (.kt sA10 I) .nil))) λsA12=>?_
      refine .via 8 (bN 10 24) ⟨[(2,.d (.ref (zuh.enc (⟨t0.s,t0.rows,b1_115,t0.zt8⟩:zuh)))),(3,.d (.ref (Tree.enc t1))),(9,.d (.ref (Range.enc x172))),(10,.loc 2 0),(11,.loc 3 0),(61,.d (eI b1_115))],[.dead,.dead,.box 153 [.d (eI t0.s.box),.d (eK t0.s.rows),.d (eO t0.s.ztQ),.d (eP t0.s.cases),.d (eK t0.rows),.d (eI b1_115),.d (.bool t0.zt8)],.box 153 [.d (eI t0.s.box),.d (eK t0.s.rows),.d (eO t0.s.ztQ),.d (eP t0.s.cases),.d (eK t0.rows),.d (eI b1_115),.d (.bool t0.zt8)]]⟩ (.step 0 [] (by decide +kernel) (.cons (i:=0) I (.p I (.fa I (zj8 _)) (.nil ⟨I,I⟩)) (.kt sA10 I) .nil)) λsA13=>.via 9 (bN 10 1) ⟨[(2,.d (.ref (zuh.enc (⟨t0.s,t0.rows,b1_115,t0.zt8⟩:zuh)))),(3,.d (.ref (Tree.enc t1))),(9,.d (.ref (Range.enc x172))),(10,.loc 2 0),(11,.loc 3 0),(57,.d (.ref (eI b1_115)))],[.dead,.dead,.box 153 [.d (eI t0.s.box),.d (eK t0.s.rows),.d (eO t0.s.ztQ),.d (eP t0.s.cases),.d (eK t0.rows),.d (eI b1_115),.d (.bool t0.zt8)],.box 153 [.d (eI t0.s.box),.d (eK t0.s.rows),.d (eO t0.s.ztQ),.d (eP t0.s.cases),.d (eK t0.rows),.d (eI b1_115),.d (.bool t0.zt8)]]⟩ (.step 1 [3] (by decide +kernel) (.cons (i:=1) I (.p I (.ld Y80 I) (.nil ⟨I,I⟩)) (.kt sA11 I) (.cons (i:=3) I (.p I (.fa I (zj8 _)) (.nil ⟨I,I⟩)) (.kt sA12 I) .nil))) λsA14=>.via 9 (bN 10 8) ⟨[(2,.d (.ref (zuh.enc (⟨t0.s,t0.rows,b1_115,t0.zt8⟩:zuh)))),(3,.d (.ref (Tree.enc t1))),(9,.d (.ref (Range.enc x172))),(10,.loc 2 0),(11,.loc 3 0),(60,.d (.ref (eI b1_115)))],[.dead,.dead,.box 153 [.d (eI t0.s.box),.d (eK t0.s.rows),.d (eO t0.s.ztQ),.d (eP t0.s.cases),.d (eK t0.rows),.d (eI b1_115),.d (.bool t0.zt8)],.box 153 [.d (eI t0.s.box),.d (eK t0.s.rows),.d (eO t0.s.ztQ),.d (eP t0.s.cases),.d (eK t0.rows),.d (eI b1_115),.d (.bool t0.zt8)]]⟩ (.step 0 [4] (by decide +kernel) (.cons (i:=0) I (.p I (.fa I (zj8 _)) (.nil ⟨I,I⟩)) (.kt sA12 I) (.cons (i:=4) I (.p I (.ld Y80 I) (.nil ⟨I,I⟩)) (.kt sA13 I) .nil))) λsA15=>.step 0 [3] (by decide +kernel) (.cons (i:=0) I (.p I (.fa I (zj8 _)) (.nil ⟨I,I⟩)) (.kt sA14 I) (.cons (i:=3) I (.p I (.fa I (zj8 _)) (.nil ⟨I,I⟩)) (.kt sA15 I) .nil))
    · refine .sA 2 I<|.ztM I h (λh=>?_) λh=>?_
      · refine .seq<|.seq<|.plain 12 I<|.A 3 I<|.jO 8 ((t1.kids.length:Int) != (t0.s.cases.length:Int)) I (λb186=>.q I (.fa I (zvT _))<|.A 1 I<|.qe I<|.q I (.fa I (zsr _))<|.A 2 I<|.qe I<|.A 1 I<|.nil I) <| .nil<|.nil<|.K [2,3,117] I<|.ztM I h (λh=>.sA 1 I<|.ret (rO h I)) λh=>.skip<|.seq<|.sr<|.p I (.fa I (zvT _))<|.A 1 I<|.e I<|.A 1 I<|.nil<|.block<|.L [2,119,120] h (λv=>[(121,.d (.int v))]) (λv=>[]) I λ_ x197 h=>.sA 1 I<|.seq<|.ztM I h (λh=>?_) λh=>?_
        · refine .skip<|.seq<|.block<|.S 1 I<|.X h I λx199 h=>.A 1 I<|.zua I I I I (.agg Zc40 (ds':=[.int 0,.sl 3 (List.map Step.enc []),.int 0,.int 0,.sl 5 (List.map Tree.enc [])]) (.e (.o (.e (.e .o1))))) I<|.A 1 I<|.eqD 125 I (Tree.zvu _)<|.so I<|.nil<|.S 1 I<|.zua I I I I (.agg Zc153 (ds':=[eI [],eK [],eO [],eP [],eK [],eI [],.bool false]) (.o (.o (.o (.o (.o (.o .e1))))))) I<|.so I<|.nil<|.seq<|.dr 11<|.A 2 I<|.p I (.fa I (zsr _))<|.A 3 I<|.X h I λx200 h=>.A 1 I<|.p I (.ztY [_,_] I I E85 I (λ_=>I) I (enc:=eK))<|.Z h I (zcy _ _) λx201 h=>.A 1 I<|.nil<|.so I<|.A 1 I<|.so I<|.nil<|.K [2,13,14,119,120,121] I<|.sr<|.p I (.zue I I I Y153 (yf I) (v:=.d (zuh.enc (⟨t0.s,x201,b1_115,true⟩:zuh))) I)<|.p I (.zue I I I Y40 (yf I) (v:=.d (Tree.enc x199)) (by rw [Tree.zvu];rfl))<|.Z h I (hself _ _) λx202 h=> .A 1 I<|.nil<|.ztM I h (λh=>.sA 1 I<|.ret (rO h I)) λh=>.skip<|.rA 2 I (ndE h I)
        · refine .exit<|.sA 1 I<|.ret (rO h I)
      · refine .skip<|.sA 1 I<|.ret (rO h I)
theorem zcY  : ∀ (n:Nat) (t0:zuh) (t1:Tree) (r:Bool) (h:zA n t0 t1=some r),Pure pg 95 [zuh.enc t0,Tree.enc t1] (.bool r)
 | 0,t0,t1,r,h=>by cases h
 | n+1,t0,t1,r,h=>zes n (zA n) (zcY n) t0 t1 r h
theorem zip:Kd2 38 zgq System.enc Tree.enc .bool:=λn t0 t1 r h=>.ot Tryz.func38 I Tryz.ntmps38 I λA w=>.sA 3 I<|.seq<|.plain 16 I<|.A 1 I<|.Z h I (zdM _ _) λx1 h=>.A 1 I<|gK h λc3 h=>.jA 2 (((zb0 n t1).getD default)) I (λb2=>.A 1 I<|.q I (.call I (zt1 I) I (ziq _ _ _ (zt0 (impT c3 b2))))<|.nil I) <| .A 1 I<|gK h λc5 h=>.jA 8 (((zA n (⟨t0,t0.rows,t0.box,false⟩:zuh) t1).getD default)) I (λb4=>.A 5 I<|.q I (.B (zuh.enc ⟨t0,t0.rows,t0.box,false⟩) Zc153 I)<|.A 1 I<|.q I (.call I (zt1 I) I (zcY _ _ _ _ (zt0 (impT c5 b4))))<|.nil I) <| .nil<|.A 1 I<|.nil<|.K [4] I<|.ret (rO h I)
theorem ze1:Kd4 14 za4 Model.enc Question.enc zt6.enc eA .bool:=λn t0 t1 t2 t3 r h=>.ot Tryz.func14 I Tryz.ntmps14 I λA w=>.sA 4 I<|.S 3 I<|.Z h I (zeN _ _ _ _) λx1 h=>.A 3 I<|.aS I<|.A 1 I<|.nil<|.seq<|.seq<|.plain 12 I<|.A 3 I<|.jO 3 (decide (t2.steps<0)) I (λb2=>.A 3 I<|.nil I) <| .A 1 I<|.jO 3 (decide (65536<t2.steps)) I (λb3=>.A 3 I<|.nil I) <| .nil<|.nil<|.K [6,9,29] I<|.ztM I h (λh=>.sA 1 I<|.ret (rO h I)) λh=>.skip<|.seq<|.sA 2 I<|.block<|.sA 2 I<|.ztM I h (λh=>.seq<|.plain 10 I<|.A 3 I<|.Z h I (zl4 _ _ _) λx4 h=>.A 1 I<|gK h λc6 h=>.jA 4 (((zbg n t2.tree (⟨0,[],0,0,[]⟩:Tree)).getD default)) I (λb5=>.q I (.fa I (G42_2 _))<|.A 1 I<|.q I (.zvr (Tree.enc (⟨0,[],0,0,[]⟩:Tree)) (by simp only [Tree.enc,Tree.zuo] <;> rfl) (.build I Pl40 (.agg Zc40 (ds':=[_,.sl 3 (List.map Step.enc []),_,_,.sl 5 (List.map Tree.enc [])]) (.e (.o (.e (.e .o1))))) I I))<|.q I (.call I (zt1 I) I (zfn _ _ _ _ (zt0 (impT c6 b5))))<|.nil I) <| .nil<|.A 1 I<|.nil<|.ret (rO h I)) λh=>.sA 2 I<|.ztM I h (λh=>.seq<|.plain 10 I<|.A 1 I<|.p I (.fa I (G42_2 _))<|.A 1 I<|.Z h I (zip _ _ _) λx7 h=>.A 1 I<|.jA 4 ((t2.state.length:Int)==0) I (λb8=>.A 2 I<|.qe I<|.A 1 I<|.nil I) <| .nil<|.A 1 I<|.nil<|.K [8] I<|.ret (rO h I)) λh=>.skip<|.sA 1 I<|.ret (rO h I)
theorem zmh (n r) (h:zie n=some r):Pure pg 8 [] (.bool r):=by
  refine Pure.ot Tryz.func8 I Tryz.ntmps8 I λA w=>.sA 1 I<|.sr<|.Z h I (zkD _ ) λx1 h=>.aS I<|.nil<|.sr<|.p I (.B (Target.enc ⟨false,1⟩) Zc32 I)<|.p I (.B (Question.enc ⟨0,0,(⟨false,1⟩:Target)⟩) Zc34 I)<|.aS I<|.nil<|.S 2 I<|bK h λx2 q2 h=>.p I (.zwl I (zt1 I) I (.e (.e (.e .o1))) (zcC _ _ _ _ _ _ q2))<|.A 3 I<|.aS I<|.A 1 I<|.nil<|.K [1,2,3,4] I<|.S 1 I<|.p I (.B (Question.enc ⟨0,0,(⟨false,0⟩:Target)⟩) Zc34 I)<|bK h λx3 q3 h=>.p I (.zwl I (zt1 I) I (.e (.e (.e .o1))) (zcC _ _ _ _ _ _ q3))<|.A 3 I<|.aS I<|.A 1 I<|.nil<|.S 2 I<|bK h λx4 q4 h=>.p I (.zwl I (zt1 I) I (.e (.e (.e .o1))) (zcC _ _ _ _ _ _ q4))<|.A 3 I<|.aS I<|.A 1 I<|.nil<|.K [1,2,3,4,5,6,7,8] I<|.seq<|.plain 50 I<|.A 3 I<|.jA 3 (x2.1.kind==0) I (λb5=>.A 3 I<|.nil I) <| .A 1 I<|gK h λc7 h=>.jA 4 (((zaj n x2.1.state [0]).getD default)) I (λb6=>.A 2 I<|.q I (.ztY [_] I I E22 I (λ_=>I) I (enc:=D.int))<|.q I (.call I (zt1 I) I (zfR _ _ _ _ (zt0 (impT c7 b6))))<|.nil I) <| .A 1 I<|.jA 2 (x3.2==0) I (λb8=>.A 2 I<|.nil I) <| .A 1 I<|.jA 3 (x3.1.kind==1) I (λb9=>.A 3 I<|.nil I) <| .A 1 I<|gK h λc11 h=>.jA 4 (((za4 n x1 (⟨0,0,(⟨false,1⟩:Target)⟩:Question) x2.1 ([]:List Int)).getD default)) I (λb10=>.A 3 I<|.q I (.zwl I (zt1 I) I (.e (.e (.e .o1))) (ze1 _ _ _ _ _ _ (zt0 (impT c11 b10))))<|.nil I) <| .A 1 I<|gK h λc13 h=>.jA 4 (((za4 n x1 (⟨0,0,(⟨false,0⟩:Target)⟩:Question) x3.1 ([]:List Int)).getD default)) I (λb12=>.A 1 I<|.q I (.B (Question.enc ⟨0,0,(⟨false,0⟩:Target)⟩) Zc34 I)<|.A 1 I<|.q I (.zwl I (zt1 I) I (.e (.e (.e .o1))) (ze1 _ _ _ _ _ _ (zt0 (impT c13 b12))))<|.nil I) <| .A 1 I<|gK h λc15 h=>.jA 5 (!((za4 n x1 (⟨0,0,(⟨false,1⟩:Target)⟩:Question) x3.1 ([]:List Int)).getD default)) I (λb14=>.A 3 I<|.q I (.zwl I (zt1 I) I (.e (.e (.e .o1))) (ze1 _ _ _ _ _ _ (zt0 (impT c15 b14))))<|.A 1 I<|.nil I) <| .A 1 I<|.jA 2 (x4.2==0) I (λb16=>.A 2 I<|.nil I) <| .A 1 I<|.jA 3 (x4.1.kind==2) I (λb17=>.A 3 I<|.nil I) <| .nil<|.A 1 I<|.nil<|.K [0] I<|.ret (rO h I)
theorem zos:Kd2 49 zcU eA eB .bool:=λn t0 t1 r h=>.ot Tryz.func49 I Tryz.ntmps49 I λA w=>.sA 1 I<|.seq<|.sA 1 I<|.block<|.L [0,1] h (λv=>[(5,.d (.int v))]) (λv=>[]) I λ_ x9 h=>.seq<|.S 2 I<|.e I<|.A 1 I<|.nil<|.K [0,1,5,9] I<|.ztM I h (λh=>.skip<|.seq<|.block<|.seq<|.plain 16 I<|.A 2 I<|.X h I λx11 h=>.A 2 I<|.p I (.zum I U9 I)<|.A 2 I<|gK h λc13 h=>.jO 7 (decide (12<((((idx t1 x9).getD default).ztK).length:Int))) I (λb12=>.A 2 I<|.q I (.ix I U23 S107 (zt0 (impF c13 b12)))<|.A 2 I<|.qe I<|.A 1 I<|.nil I) <| .nil<|.nil<|.K [0,1,5,27] I<|.ztM I h (λh=>.sA 1 I<|.ret (rO h I)) λh=>.skip<|.rA 3 I (ndE h I)) λh=>.exit<|.seq<|.plain 8 I<|.A 1 I<|.e I<|.A 2 I<|.jA 3 (decide ((t1.length:Int)≤20)) I (λb14=>.A 1 I<|.qe I<|.A 1 I<|.nil I) <| .nil<|.A 1 I<|.nil<|.ret (rO h I)
theorem zkL:Kd1 24 zu Model.enc .bool:=λn t0 r h=>by
  refine .ot Tryz.func24 I Tryz.ntmps24 I λA w=>.sA 2 I<|.seq<|.seq<|.plain 48 I<|.A 2 I<|.e I<|.A 2 I<|.jO 4 (decide (6<(t0.tables.length:Int))) I (λb1=>.A 2 I<|.qe I<|.A 1 I<|.nil I) <| .A 1 I<|.jO 4 (decide (20<(t0.ztX.length:Int))) I (λb2=>.A 2 I<|.qe I<|.A 1 I<|.nil I) <| .A 1 I<|.jO 4 (decide (60<(t0.constraints.length:Int))) I (λb3=>.A 2 I<|.qe I<|.A 1 I<|.nil I) <| .A 1 I<|.jO 4 (decide (8<(t0.ztN.length:Int))) I (λb4=>.A 2 I<|.qe I<|.A 1 I<|.nil I) <| .A 1 I<|.jO 4 (decide (30<(t0.ztL.length:Int))) I (λb5=>.A 2 I<|.qe I<|.A 1 I<|.nil I) <| .A 1 I<|.jO 4 (decide (12<(t0.zt3.length:Int))) I (λb6=>.A 2 I<|.qe I<|.A 1 I<|.nil I) <| .A 1 I<|gK h λc8 h=>.jO 6 (!((zcU n t0.ztR t0.tables).getD default)) I (λb7=>.A 4 I<|.q I (.call I (zt1 I) I (zos _ _ _ _ (zt0 (impF c8 b7))))<|.A 1 I<|.nil I) <| .nil<|.nil<|.K [1,56] I<|.ztM I h (λh=>.sA 1 I<|.ret (rO h I)) λh=>.skip<|.seq<|.sA 1 I<|.block<|.L [1] h (λv=>[(3,.d (.int v))]) (λv=>[]) I λ_ x13 h=>.seq<|.S 3 I<|.e I<|.A 1 I<|.nil<|.K [1,3,61] I<|.ztM I h (λh=>.skip<|.seq<|.block<|.S 3 I<|.X h I λx15 h=>.A 1 I<|.p I (.zum I U9 I)<|.A 1 I<|.nil<|.ztM I h (λh=>.sA 1 I<|.ret (rO h I)) λh=>.skip<|.rA 3 I (ndE h I)) λh=>.exit<|.seq<|.sA 1 I<|.block<|.L [1] h (λv=>[(4,.d (.int v))]) (λv=>[]) I λ_ x20 h=>.seq<|.S 3 I<|.e I<|.A 1 I<|.nil<|.K [1,4,75] I<|.ztM I h (λh=>.skip<|.seq<|.block<|.S 3 I<|.X h I λx22 h=>.p I (.fa I (G57_2 _))<|.A 2 I<|.e I<|.A 1 I<|.nil<|.ztM I h (λh=>.sA 1 I<|.ret (rO h I)) λh=>.skip<|.rA 3 I (ndE h I)) λh=>.exit<|.seq<|.sA 1 I<|.block<|.L [1] h (λv=>[(5,.d (.int v))]) (λv=>[]) I λ_ x31 h=>.seq<|.S 3 I<|.e I<|.A 1 I<|.nil<|.K [1,5,91] I<|.ztM I h (λh=>.skip<|.seq<|.block<|.seq<|.plain 18 I<|.A 3 I<|.X h I λx33 h=>.A 2 I<|.p I (.zum I U9 I)<|.A 2 I<|gK h λc35 h=>.jO 8 (decide (6<((((idx t0.ztN x31).getD default).ztR).length:Int))) I (λb34=>.A 3 I<|.q I (.ix I U26 S111 (zt0 (impF c35 b34)))<|.A 2 I<|.qe I<|.A 1 I<|.nil I) <| .nil<|.nil<|.K [1,5,111] I<|.ztM I h (λh=>.sA 1 I<|.ret (rO h I)) λh=>.skip<|.rA 3 I (ndE h I)) λh=>.exit<|.seq<|.sA 1 I<|.block<|.L [1] h (λv=>[(6,.d (.int v))]) (λv=>[]) I λ_ x62 h=>.seq<|.S 3 I<|.e I<|.A 1 I<|.nil<|.K [1,6,116] I<|.ztM I h (λh=>?_) λh=>?_
  · refine .skip<|.seq<|.block<|.S 3 I<|.X h I λx64 h=>.p I (.fa I (zxp _))<|.A 1 I<|.aS I<|.nil<|.seq<|.seq<|.plain 26 I<|.A 3 I<|.X h I λx65 h=>.A 2 I<|.e I<|.A 2 I<|.jO 4 (decide (20<(x64.effect.delta.length:Int))) I (λb66=>.A 2 I<|.qe I<|.A 1 I<|.nil I) <| .A 1 I<|.jO 4 (decide (10<(x64.effect.hold.length:Int))) I (λb67=>.A 2 I<|.qe I<|.A 1 I<|.nil I) <| .A 1 I<|.jO 4 (decide (40<(x64.effect.ztU.length:Int))) I (λb68=>.A 2 I<|.qe I<|.A 1 I<|.nil I) <| .nil<|.nil<|.K [1,6,7,150] I<|.ztM I h (λh=>.sA 1 I<|.ret (rO h I)) λh=>.skip<|.sA 1 I<|.block<|.L [1,6,7] h (λv=>[(8,.d (.int v))]) (λv=>[]) I λ_ x73 h=>.seq<|.S 3 I<|.e I<|.A 1 I<|.nil<|.K [1,6,7,8,155] I<|.ztM I h (λh=>.skip<|.seq<|.block<|.S 3 I<|.X h I λx75 h=>.A 2 I<|.e I<|.A 1 I<|.nil<|.ztM I h (λh=>.sA 1 I<|.ret (rO h I)) λh=>.skip<|.rA 3 I (ndE h I)) λh=>.exit<|.rA 3 I (ndE h I)
  · refine .exit<|.sA 1 I<|.ret (rO h I)
theorem zhV:Kd1 139 zbd eA .bool:=λn t0 r h=>.ot Tryz.func139 I Tryz.ntmps139 I λA w=>.sA 1 I<|.seq<|.sA 1 I<|.block<|.L [0] h (λv=>[(3,.d (.int v))]) (λv=>[]) I λ_ x9 h=>.seq<|.S 2 I<|.e I<|.A 1 I<|.nil<|.K [0,3,7] I<|.ztM I h (λh=>.skip<|.seq<|.block<|.seq<|.plain 12 I<|.A 2 I<|.X h I λx11 h=>.A 3 I<|gK h λc13 h=>.jO 5 (decide (6<((idx t0 x9).getD default))) I (λb12=>.A 2 I<|.q I (.ix I U22 S3 (zt0 (impF c13 b12)))<|.A 2 I<|.nil I) <| .nil<|.nil<|.ztM I h (λh=>.sA 1 I<|.ret (rO h I)) λh=>.skip<|.rA 3 I (ndE h I)) λh=>.exit<|.sA 1 I<|.ret (rO h I)
theorem zg8:Kd2 111 zai eA eA .int:=λn t0 t1 r h=>.ot Tryz.func111 I Tryz.ntmps111 I λA w=>.sA 1 I<|.seq<|.seq<|.plain 8 I<|.A 1 I<|.e I<|.A 2 I<|gK h λc2 h=>.jO 3 (!((zbd n t0).getD default)) I (λb1=>.A 1 I<|.q I (.call I (zt1 I) I (zhV _ _ _ (zt0 (impF c2 b1))))<|.A 1 I<|.nil I) <| .nil<|.nil<|.ztM I h (λh=>.sA 1 I<|.ret (rO h I)) λh=>.skip<|.sA 1 I<|.seq<|.sA 1 I<|.block<|.L [0,1] h (λv=>[(5,.d (.int v.1)),(6,.d (.int v.2))]) (λv=>[]) I λ_ ⟨x17,x18⟩ h=>.seq<|.S 2 I<|.e I<|.A 1 I<|.nil<|.K [0,1,5,6,18] I<|.ztM I h (λh=>.skip<|.seq<|.block<|.seq<|.seq<|.plain 14 I<|.A 2 I<|.X h I λx20 h=>.A 3 I<|gK h λc22 h=>.jO 7 (decide ((t0.length:Int)≤((idx t1 x18).getD default))) I (λb21=>.A 2 I<|.q I (.ix I U22 S3 (zt0 (impF c22 b21)))<|.A 2 I<|.qe I<|.A 1 I<|.nil I) <| .nil<|.nil<|.ztM I h (λh=>.sA 1 I<|.ret (rO h I)) λh=>.skip<|.region<|.A 4 I<|.X h I λx23 h=>.A 1 I<|.X h I λx24 h=>.A 3 I<|.nil<|.K [0,1,5,6] I<|.rA 3 I (ndE h I)) λh=>.exit<|.sA 2 I<|.ret (rO h I)
theorem zhT (n t0 r) (h:zaR n t0=some r):Pure pg 287 [.val (.int .u8 t0)] (.bool r):=by
  refine Pure.ot Tryz.func287 I Tryz.ntmps287 I λA w=>.sA 1 I<|.seq<|.plain 14 I<|.A 3 I<|.jO 2 (t0==10) I (λb1=>.A 2 I<|.nil I) <| .A 1 I<|.jO 2 (t0==13) I (λb2=>.A 2 I<|.nil I) <| .A 1 I<|.jO 2 (t0==32) I (λb3=>.A 2 I<|.nil I) <| .nil<|.A 1 I<|.nil<|.K [2] I<|.ret (rO h I)
theorem zi3:Kd2 262 zbj .str .int .int:=λn t0 t1 r h=>.ot Tryz.func262 I Tryz.ntmps262 I λA w=>.sA 1 I<|.seq<|.block<|.L [0] h (λv=>[(1,.d (.int v))]) (λv=>[]) I λ_ x35 h=>.seq<|.seq<|.plain 16 I<|.A 2 I<|.p I (.zum I U9 I)<|.A 2 I<|gK h λc38 h=>gK h λc39 h=>gK h λc41 h=>.jA 10 (((zaR n ((sidx t0 x35).getD default)).getD default)||(((sidx t0 x35).getD default)==35)) I (λb37=>.A 2 I<|.q I (.sidx I I I U9 (zt0 (impT c38 b37)))<|.q I (.call I (zt1 I) I (zhT _ _ _ (zt0 (impT c39 b37))))<|.A 1 I<|.jOr 4 (b2:=((sidx t0 x35).getD default)==35) I I I I (.inr ⟨_,_,_,I,I,I⟩) (λ_ _ _ h1 h2=>by cases h1;cases h2;decide) I I (λb40=>.A 2 I<|.q I (.sidx I I I U9 (zt0 (impF (impT c41 b37) b40)))<|.A 1 I<|.nil I) <| .nil I) <| .nil<|.nil<|.K [0,1,20] I<|.ztM I h (λh=>.skip<|.block<|.S 2 I<|bK h λx42 q42 h=>.p I (.sidx I I I U9 q42)<|.A 1 I<|.nil<|.ztM I h (λh=>.block<|.L [0] h (λv=>[(1,.d (.int v))]) (λv=>[]) I λ_ x49 h=>.seq<|.seq<|.plain 10 I<|.A 2 I<|.p I (.zum I U9 I)<|.A 2 I<|gK h λc52 h=>.jA 4 (((sidx t0 x49).getD default) != 10) I (λb51=>.A 2 I<|.q I (.sidx I I I U9 (zt0 (impT c52 b51)))<|.A 1 I<|.nil I) <| .nil<|.nil<|.K [0,1,34] I<|.ztM I h (λh=>.skip<|.block<|.rA 3 I (ndE h I)) λh=>.exit (ndE h I)) λh=>.rA 3 I (ndE h I)) λh=>.exit<|.sA 2 I<|.ret (rO h I)
theorem ze2 (n t0 r) (h:zaG n t0=some r):Pure pg 288 [.val (.int .u8 t0)] (.bool r):=by
  refine Pure.ot Tryz.func288 I Tryz.ntmps288 I λA w=>.sA 1 I<|.seq<|.plain 6 I<|.A 3 I<|.jA 2 (decide (t0≤122)) I (λb1=>.A 2 I<|.nil I) <| .nil<|.A 1 I<|.nil<|.ret (rO h I)
theorem zd5 (n t0 r) (h:za1 n t0=some r):Pure pg 289 [.val (.int .u8 t0)] (.bool r):=by
  refine Pure.ot Tryz.func289 I Tryz.ntmps289 I λA w=>.sA 1 I<|.seq<|.plain 6 I<|.A 3 I<|.jA 2 (decide (t0≤57)) I (λb1=>.A 2 I<|.nil I) <| .nil<|.A 1 I<|.nil<|.ret (rO h I)
theorem zjT (n r) (h:zfx n=some r):Pure pg 290 [] (eC r):=by
 refine Pure.ot Tryz.func290 I Tryz.ntmps290 I λA w=>.sr<|.p I (.nilS 1 (α:=List UInt8) D.str I)<|.nil<|.sr<|.p I (.ztY [_,_,_,_,_,_,_,_,_,_,_,_,_,_,_,_,_,_,_,_,_,_,_,_,_,_,_,_,_,_,_,_,_,_,_] I I E24 I (λ_=>I) I (enc:=D.str))<|.A 1 I<|.nil<|.ret ?_
 cases h
 exact zbU I (.d _)
theorem zor:Kd2 141 zcT eC .str .bool:=λn t0 t1 r h=>.ot Tryz.func141 I Tryz.ntmps141 I λA w=>.sA 1 I<|.seq<|.sA 1 I<|.block<|.L [0,1] h (λv=>[(5,.d (.int v))]) (λv=>[]) I λ_ x5 h=>.seq<|.S 2 I<|.e I<|.A 1 I<|.nil<|.K [0,1,5,9] I<|.ztM I h (λh=>.skip<|.seq<|.block<|.S 2 I<|.X h I λx7 h=>.A 2 I<|.p I (.zwj I I I)<|.nil<|.ztM I h (λh=>.sA 1 I<|.ret (rO h I)) λh=>.skip<|.rA 3 I (ndE h I)) λh=>.exit<|.sA 1 I<|.ret (rO h I)
theorem zkJ (n r) (h:zgd n=some r):Pure pg 297 [] (eC r):=by
 refine Pure.ot Tryz.func297 I Tryz.ntmps297 I λA w=>.sr<|.p I (.nilS 1 (α:=List UInt8) D.str I)<|.nil<|.sr<|.p I (.ztY [_,_,_,_,_,_,_,_,_,_,_,_,_,_,_,_,_,_] I I E24 I (λ_=>I) I (enc:=D.str))<|.A 1 I<|.nil<|.ret ?_
 cases h
 exact zbU I (.d _)
theorem zg7:Kd2 291 zbm .str .int .int:=λn t0 t1 r h=>.ot Tryz.func291 I Tryz.ntmps291 I λA w=>.sA 1 I<|.sr<|.Z h I (zkJ _ ) λx1 h=>.A 1 I<|.nil<|.seq<|.sA 1 I<|.block<|.L [0,1,5] h (λv=>[(6,.d (.int v))]) (λv=>[]) I λ_ x12 h=>.seq<|.S 2 I<|.e I<|.A 1 I<|.nil<|.K [0,1,5,6,12] I<|.ztM I h (λh=>.skip<|.seq<|.block<|.S 2 I<|.X h I λx14 h=>.A 1 I<|.p I (.zum I U9 I)<|.A 1 I<|.nil<|.seq<|.dr 19<|.A 4 I<|.p I (.zum I U9 I)<|.A 2 I<|gK h λc16 h=>gK h λc17 h=>.jA 11 (decide (((cut t0 t1 (ztJ t1 (x14.length:Int))).getD default)=((idx x1 x12).getD default))) I (λb15=>.A 5 I<|.q I (.zwY I I I I U9 (zt0 (impT c16 b15)))<|.A 2 I<|.q I (.ix I U24 S9 (zt0 (impT c17 b15)))<|.A 1 I<|.q I (.zwj I I I)<|.nil I) <| .nil<|.nil<|.K [0,1,5,6,7,38] I<|.ztM I h (λh=>.sA 2 I<|.ret (rO h I)) λh=>.skip<|.rA 3 I (ndE h I)) λh=>.exit<|.sA 1 I<|.ret (rO h I)
theorem zmn (n t0 t1 r) (h:zau n t0 t1=some r):Pure pg 263 [.str t0,.int t1] (.tup [.int r.1,.int r.2]):=by
  refine Pure.ot Tryz.func263 I Tryz.ntmps263 I λA w=>.sA 2 I<|.sA 2 I<|.seq<|.S 2 I<|bK h λx1 q1 h=>.p I (.sidx I I I U9 q1)<|.Z h I (ze2 _ _) λx2 h=>.nil<|.ztM I h (λh=>?_) λh=>?_
  · refine .seq<|.block<|.L [0,1] h (λv=>[(6,.d (.int v))]) (λv=>[]) I λ_ x21 h=>.seq<|.seq<|.plain 22 I<|.A 2 I<|.p I (.zum I U9 I)<|.A 2 I<|gK h λc24 h=>gK h λc25 h=>gK h λc27 h=>gK h λc28 h=>gK h λc30 h=>.jA 16 ((((zaG n ((sidx t0 x21).getD default)).getD default)||((za1 n ((sidx t0 x21).getD default)).getD default))||(((sidx t0 x21).getD default)==95)) I (λb23=>.A 2 I<|.q I (.sidx I I I U9 (zt0 (impT c24 b23)))<|.q I (.call I (zt1 I) I (ze2 _ _ _ (zt0 (impT c25 b23))))<|.A 1 I<|.jOr 4 (b2:=((za1 n ((sidx t0 x21).getD default)).getD default)) I I I I (.inr ⟨_,_,_,I,I,I⟩) (λ_ _ _ h1 h2=>by cases h1;cases h2;decide) I I (λb26=>.A 2 I<|.q I (.sidx I I I U9 (zt0 (impF (impT c27 b23) b26)))<|.q I (.call I (zt1 I) I (zd5 _ _ _ (zt0 (impF (impT c28 b23) b26))))<|.nil I) <| .A 1 I<|.jOr 4 (b2:=((sidx t0 x21).getD default)==95) I I I I (.inr ⟨_,_,_,I,I,I⟩) (λ_ _ _ h1 h2=>by cases h1;cases h2;decide) I I (λb29=>.A 2 I<|.q I (.sidx I I I U9 (zt0 (impF (impT c30 b23) b29)))<|.A 1 I<|.nil I) <| .nil I) <| .nil<|.nil<|.K [0,1,6,34] I<|.ztM I h (λh=>.skip<|.block<|.rA 3 I (ndE h I)) λh=>.exit<|.seq<|.seq<|.dr 6<|.Z h I (zjT _ ) λx31 h=>.A 3 I<|bK h λx32 q32 h=>.p I (.zwY I I I I U9 q32)<|.Z h I (zor _ _ _) λx33 h=>.nil<|.nil<|.ztM I h (λh=>.sA 3 I<|.ret <| by cases h;exact zfo I I (.d _) (.d _)) λh=>.skip<|.sA 3 I<|.ret <| by cases h;exact zfo I I (.d _) (.d _)
  · refine .skip<|.seq<|.S 2 I<|bK h λx34 q34 h=>.p I (.sidx I I I U9 q34)<|.Z h I (zd5 _ _) λx35 h=>.nil<|.ztM I h (λh=>.seq<|.block<|.L [0] h (λv=>[(6,.d (.int v))]) (λv=>[]) I λ_ x44 h=>.seq<|.seq<|.plain 10 I<|.A 2 I<|.p I (.zum I U9 I)<|.A 2 I<|gK h λc47 h=>gK h λc48 h=>.jA 4 (((za1 n ((sidx t0 x44).getD default)).getD default)) I (λb46=>.A 2 I<|.q I (.sidx I I I U9 (zt0 (impT c47 b46)))<|.q I (.call I (zt1 I) I (zd5 _ _ _ (zt0 (impT c48 b46))))<|.nil I) <| .nil<|.nil<|.K [0,6,58] I<|.ztM I h (λh=>.skip<|.block<|.rA 3 I (ndE h I)) λh=>.exit<|.sA 3 I<|.ret <| by cases h;exact zfo I I (.d _) (.d _)) λh=>.skip<|.seq<|.S 2 I<|.Z h I (zg7 _ _ _) λx49 h=>.A 1 I<|.nil<|.K [0,1,6,7] I<|.sA 2 I<|.ztM I h (λh=>.sA 5 I<|.ret <| by cases h;exact zfo I I (.d _) (.d _)) λh=>.skip<|.seq<|.block<|.L [0] h (λv=>[(6,.d (.int v))]) (λv=>[]) I λ_ x78 h=>.seq<|.seq<|.plain 37 I<|.A 2 I<|.p I (.zum I U9 I)<|.A 2 I<|gK h λc81 h=>gK h λc82 h=>.jA 5 (!((zaR n ((sidx t0 x78).getD default)).getD default)) I (λb80=>.A 2 I<|.q I (.sidx I I I U9 (zt0 (impT c81 b80)))<|.q I (.call I (zt1 I) I (zhT _ _ _ (zt0 (impT c82 b80))))<|.A 1 I<|.nil I) <| .A 1 I<|gK h λc84 h=>.jA 4 (((sidx t0 x78).getD default) != 35) I (λb83=>.A 2 I<|.q I (.sidx I I I U9 (zt0 (impT c84 b83)))<|.A 1 I<|.nil I) <| .A 1 I<|gK h λc86 h=>gK h λc87 h=>.jA 5 (!((zaG n ((sidx t0 x78).getD default)).getD default)) I (λb85=>.A 2 I<|.q I (.sidx I I I U9 (zt0 (impT c86 b85)))<|.q I (.call I (zt1 I) I (ze2 _ _ _ (zt0 (impT c87 b85))))<|.A 1 I<|.nil I) <| .A 1 I<|gK h λc89 h=>gK h λc90 h=>.jA 5 (!((za1 n ((sidx t0 x78).getD default)).getD default)) I (λb88=>.A 2 I<|.q I (.sidx I I I U9 (zt0 (impT c89 b88)))<|.q I (.call I (zt1 I) I (zd5 _ _ _ (zt0 (impT c90 b88))))<|.A 1 I<|.nil I) <| .A 1 I<|gK h λc92 h=>.jA 4 (((zbm n t0 x78).getD default)==0) I (λb91=>.A 2 I<|.q I (.call I (zt1 I) I (zg7 _ _ _ _ (zt0 (impT c92 b91))))<|.A 1 I<|.nil I) <| .nil<|.nil<|.K [0,6,106] I<|.ztM I h (λh=>.skip<|.block<|.rA 3 I (ndE h I)) λh=>.exit<|.sA 3 I<|.ret <| by cases h;exact zfo I I (.d _) (.d _)
theorem znE (n t0 r) (h:zc5 n t0=some r):Pure pg 223 [.str t0] (.tup [eQ r.1,.int r.2]):=by
  refine Pure.ot Tryz.func223 I Tryz.ntmps223 I λA w=>.sr<|.p I (.nilS 4 (α:=Token) Token.enc I)<|.A 1 I<|.nil<|.seq<|.S 1 I<|.p I (.zum I U9 I)<|.A 1 I<|.nil<|.ztM I h (λh=>.sr<|.p I (.nilS 4 (α:=Token) Token.enc I)<|.A 1 I<|.nil<|.ret <| by cases h;exact zfo I I (.d _) (.d _)) λh=>.skip<|.sr<|.zv7 [] I I I I I E267 I (λ_=>I) I (enc:=Token.enc)<|.A 1 I<|.nil<|.sA 1 I<|.seq<|.block<|.L [0] h (λv=>[(4,.vec 0 (List.length v.1)),(5,.d (.int v.2))]) (λv=>[(0,.vec 271 4 (List.map Token.enc v.1))]) I λ_ ⟨b0_13,x14⟩ h=>.seq<|.S 2 I<|.Z h I (zi3 _ _ _) λx16 h=>.A 1 I<|.p I (.zum I U9 I)<|.A 1 I<|.nil<|.K [0,4,5,18] I<|.ztM I h (λh=>.skip<|.block<|.S 2 I<|.Z h I (zi3 _ _ _) λx17 h=>.A 1 I<|.nil<|.S 2 I<|.Z h I (zmn _ _ _) λx18 h=>.A 5 I<|.nil<|.S 5 I<|.p I (.B (Token.enc ⟨x18.1,x14,x17,x18.2⟩) Zc271 I)<|.p I (.ztY [_] I I E267 I (λ_=>I) I (enc:=Token.enc))<|bK h λx19 q19 h=>.app I I I I I I I I E267 I (λ_=>I) q19<|.A 1 I<|.nil<|.K [0,4,8] I<|.rA 2 I (ndE h I)) λh=>.exit<|.S 3 I<|.p I (.zum I U9 I)<|.A 1 I<|.p I (.zum I U9 I)<|.p I (.B (Token.enc ⟨0,x14,(t0.length:Int),(t0.length:Int)⟩) Zc271 I)<|.p I (.ztY [_] I I E267 I (λ_=>I) I (enc:=Token.enc))<|bK h λx20 q20 h=>.app I I I I I I I I E267 I (λ_=>I) q20<|.A 2 I<|.nil<|.ret <| by cases h;exact zfo I I (.vec I (by simp)) (.d _)
theorem znC:Kd1 185 zhw .str .int:=λn t0 r h=>.ot Tryz.func185 I Tryz.ntmps185 I λA w=>.sA 1 I<|.S 1 I<|.Z h I (znE _ _) λx1 h=>.A 5 I<|.nil<|.seq<|.seq<|.plain 23 I<|.A 3 I<|.jO 3 ((x1.1.length:Int) != 2) I (λb2=>.A 1 I<|.qe I<|.A 1 I<|.nil I) <| .A 1 I<|gK h λc4 h=>.jO 5 ((((idx x1.1 0).getD default).at_) != 0) I (λb3=>.A 1 I<|.q I (.ix I U267 S271 (zt0 (impF c4 b3)))<|.A 3 I<|.nil I) <| .A 1 I<|gK h λc6 h=>.jO 7 ((((idx x1.1 0).getD default).end_) != (t0.length:Int)) I (λb5=>.A 1 I<|.q I (.ix I U267 S271 (zt0 (impF c6 b5)))<|.A 3 I<|.q I (.zum I U9 I)<|.A 1 I<|.nil I) <| .nil<|.nil<|.K [3,32] I<|.ztM I h (λh=>.sA 1 I<|.ret (rO h I)) λh=>.skip<|.S 1 I<|.X h I λx7 h=>.A 3 I<|.nil<|.ret (rO h I)
theorem znD:Kd1 140 zfN .str .bool:=λn t0 r h=>.ot Tryz.func140 I Tryz.ntmps140 I λA w=>.sA 1 I<|.seq<|.plain 8 I<|.A 1 I<|.Z h I (znC _ _) λx1 h=>.A 2 I<|.jA 3 (decide ((t0.length:Int)≤16)) I (λb2=>.A 1 I<|.q I (.zum I U9 I)<|.A 1 I<|.nil I) <| .nil<|.A 1 I<|.nil<|.ret (rO h I)
theorem zg9:Kd1 110 zb4 .int .bool:=λn t0 r h=>.ot Tryz.func110 I Tryz.ntmps110 I λA w=>.sA 1 I<|.seq<|.plain 6 I<|.A 3 I<|.jO 2 (t0==1) I (λb1=>.A 2 I<|.nil I) <| .nil<|.A 1 I<|.nil<|.ret (rO h I)
theorem zmp:Kd2 84 zaB eA eB .bool:=λn t0 t1 r h=>by
  refine .ot Tryz.func84 I Tryz.ntmps84 I λA w=>.sA 1 I<|.seq<|.seq<|.plain 13 I<|.A 1 I<|.e I<|.A 2 I<|gK h λc2 h=>.jO 3 (!((zbd n t0).getD default)) I (λb1=>.A 1 I<|.q I (.call I (zt1 I) I (zhV _ _ _ (zt0 (impF c2 b1))))<|.A 1 I<|.nil I) <| .A 1 I<|.jO 3 (decide (12<(t1.length:Int))) I (λb3=>.A 1 I<|.qe I<|.A 1 I<|.nil I) <| .nil<|.nil<|.ztM I h (λh=>.sA 1 I<|.ret (rO h I)) λh=>.skip<|.sA 2 I<|.K [0,1,5,6] I<|.seq<|.sA 1 I<|.block<|.L [0,1] h (λv=>[(5,.d (.int v.1)),(6,.d (.int v.2.1)),(7,.d (.int v.2.2))]) (λv=>[]) I λ_ ⟨x56,x57,x58⟩ h=>.seq<|.S 2 I<|.e I<|.A 1 I<|.nil<|.K [0,1,5,6,7,27] I<|.ztM I h (λh=>?_) λh=>?_
  · refine .skip<|.J [0,1,7] h (λv=>[(5,.d (.int v.1)),(6,.d (.int v.2))]) (λv=>[]) I (λk_62 h=>?_) (λv h=>?_)
    · refine .block<|.S 2 I<|.X h I λx63 h=>.A 1 I<|.aS I<|.nil<|.seq<|.sA 1 I<|.block<|.L [0,1,5,6,7,8] h (λv=>[(9,.d (.int v))]) (λv=>[]) I λ_ x68 h=>.seq<|.sA 3 I<|.ztM I h (λh=>.skip<|.seq<|.block<|.seq<|.dr 8<|.A 2 I<|.X h I λx70 h=>.A 4 I<|.p I (.zwj I I I)<|.nil<|.nil<|.ztM I h (λh=>.sA 1 I<|.ret (rO h I)) λh=>.skip<|.rA 3 I (ndE h I)) λh=>.exit<|.S 3 I<|.Z h I (zg8 _ _ _) λx71 h=>.A 1 I<|.nil<|.seq<|.seq<|.plain 18 I<|.A 2 I<|.Z h I (znD _ _) λx72 h=>.A 2 I<|.jO 3 (decide (x63.kind<0)) I (λb73=>.A 3 I<|.nil I) <| .A 1 I<|.jO 3 (decide (5<x63.kind)) I (λb74=>.A 3 I<|.nil I) <| .A 1 I<|.jO 2 (x71==0) I (λb75=>.A 2 I<|.nil I) <| .nil<|.nil<|.K [0,1,5,6,7,8,10,68] I<|.ztM I h (λh=>.sA 1 I<|.ret (rO h I)) λh=>.skip<|.seq<|.seq<|.plain 19 I<|.p I (.fa I (zeL _))<|.A 2 I<|.p I (.fa I (zeL _))<|.A 4 I<|.jO 4 (decide (x63.range.lo<(-9999))) I (λb76=>.q I (.fa I (zeL _))<|.A 3 I<|.nil I) <| .A 1 I<|.jO 4 (decide (9999<x63.range.hi)) I (λb77=>.q I (.fa I (zeL _))<|.A 3 I<|.nil I) <| .nil<|.nil<|.K [0,1,5,6,7,8,10,87] I<|.ztM I h (λh=>.sA 1 I<|.ret (rO h I)) λh=>.skip<|.seq<|.seq<|.plain 25 I<|.A 4 I<|.jO 3 (x63.kind==2) I (λb78=>.A 3 I<|.nil I) <| .A 1 I<|.jO 3 (x63.kind==3) I (λb79=>.A 3 I<|.nil I) <| .A 1 I<|.jA 10 ((x63.range.lo != 0)||(x63.range.hi != 1)) I (λb80=>.q I (.fa I (zeL _))<|.A 4 I<|.jOr 4 (b2:=x63.range.hi != 1) I I I I (.inr ⟨_,_,_,I,I,I⟩) (λ_ _ _ h1 h2=>by cases h1;cases h2;decide) I I (λb81=>.q I (.fa I (zeL _))<|.A 3 I<|.nil I) <| .nil I) <| .nil<|.nil<|.K [0,1,5,6,7,8,10,112] I<|.ztM I h (λh=>.sA 1 I<|.ret (rO h I)) λh=>.skip<|.S 2 I<|.Z h I (zg9 _ _) λx82 h=>.nil<|.ztM I h (λh=>.seq<|.sA 4 I<|.ztM I h (λh=>.sA 1 I<|.ret (rO h I)) λh=>.skip<|.rA 4 I (ndE h I)) λh=>.seq<|.sA 4 I<|.ztM I h (λh=>.sA 1 I<|.ret (rO h I)) λh=>.skip<|.rA 4 I (ndE h I)
    · obtain ⟨x60,x61⟩:=v
      refine .rA 3 I (ndE h I)
  · refine .exit<|.seq<|.plain 6 I<|.A 3 I<|.jA 2 (decide (x57≤64)) I (λb83=>.A 2 I<|.nil I) <| .nil<|.A 1 I<|.nil<|.ret (rO h I)
theorem zlP:Kd3 50 zaH eA eB .bool eI:=λn t0 t1 t2 r h=>by
  refine .ot Tryz.func50 I Tryz.ntmps50 I λA w=>.sr<|.p I (.nilS 2 (α:=Range) Range.enc I)<|.nil<|.sr<|.zv7 [] I I I I I E80 I (λ_=>I) I (enc:=Range.enc)<|.A 1 I<|.nil<|.seq<|.S 2 I<|.Z h I (zmp _ _ _) λx1 h=>.A 1 I<|.nil<|.ztM I h (λh=>.sA 2 I<|.ret <| by cases h;exact zbU I (.vec I (by simp))) λh=>.skip<|.seq<|.sA 1 I<|.block<|.L [0,1,2] h (λv=>[(7,.vec 0 (List.length v.1)),(8,.d (.int v.2))]) (λv=>[(0,wE11 v.1)]) I λ_ ⟨b0_62,x63⟩ h=>.seq<|.S 2 I<|.e I<|.A 1 I<|.nil<|.K [0,1,2,7,8,19] I<|.ztM I h (λh=>?_) λh=>?_
  · refine .skip<|.seq<|.block<|.sA 1 I<|.block<|.L [0,1,2,8] h (λv=>[(7,.vec 0 (List.length v.1)),(9,.d (.int v.2))]) (λv=>[(0,wE11 v.1)]) I λ_ ⟨b0_83,x84⟩ h=>.seq<|.seq<|.plain 19 I<|.A 2 I<|.X h I λx86 h=>.A 2 I<|.Z h I (zg9 _ _) λx87 h=>.A 1 I<|.p I (.beq I U4 I I)<|.A 1 I<|gK h λc89 h=>gK h λc90 h=>.jA 9 (decide (x84<((zai n t0 (((idx t1 x63).getD default).ztK)).getD default))) I (λb88=>.A 4 I<|.q I (.ix I U23 S107 (zt0 (impT c89 b88)))<|.A 2 I<|.q I (.call I (zt1 I) I (zg8 _ _ _ _ (zt0 (impT c90 b88))))<|.A 1 I<|.nil I) <| .nil<|.nil<|.K [0,1,2,7,8,9,40] I<|.ztM I h (λh=>.skip<|.seq<|.block<|.region<|.A 3 I<|.X h I λx91 h=>.p I (.fa I (zeL _))<|.A 1 I<|.p I (.ztY [_] I I E80 I (λ_=>I) I (enc:=Range.enc))<|bK h λx92 q92 h=>.app I I I I I I I I E80 I (λ_=>I) q92<|.A 1 I<|.nil<|.rA 3 I (ndE h I)) λh=>.exit<|.rA 3 I (ndE h I)
  · refine .exit<|.sA 2 I<|.ret <| by cases h;exact zbU I (.vec I (by simp))
theorem zlT:Kd1 25 zcm Model.enc eI:=λn t0 r h=>by
 refine .ot Tryz.func25 I Tryz.ntmps25 I λA w=>.S 1 I<|.p I (.nilS 2 (α:=Range) Range.enc I)<|.nil<|.S 4 I<|.Z h I (zlP _ _ _ _) λx1 h=>.A 1 I<|.nil<|.ret ?_
 cases h
 exact zbU I (.d _)
theorem zov:Kd1 9 zbR Model.enc .bool:=λn t0 r h=>.ot Tryz.func9 I Tryz.ntmps9 I λA w=>.sA 2 I<|.seq<|.seq<|.plain 15 I<|.A 1 I<|.Z h I (zkL _ _) λx1 h=>.A 2 I<|.jO 4 (decide (12<(t0.ztL.length:Int))) I (λb2=>.A 2 I<|.qe I<|.A 1 I<|.nil I) <| .A 1 I<|.jO 4 (decide (40<(t0.constraints.length:Int))) I (λb3=>.A 2 I<|.qe I<|.A 1 I<|.nil I) <| .nil<|.nil<|.K [1,21] I<|.ztM I h (λh=>.sA 1 I<|.ret (rO h I)) λh=>.skip<|.seq<|.sA 1 I<|.block<|.L [1] h (λv=>[(3,.d (.int v))]) (λv=>[]) I λ_ x8 h=>.seq<|.S 3 I<|.e I<|.A 1 I<|.nil<|.K [1,3,26] I<|.ztM I h (λh=>.skip<|.seq<|.block<|.S 3 I<|.X h I λx10 h=>.p I (.fa I (zxp _))<|.A 2 I<|.e I<|.A 1 I<|.nil<|.ztM I h (λh=>.sA 1 I<|.ret (rO h I)) λh=>.skip<|.rA 3 I (ndE h I)) λh=>.exit<|.S 1 I<|.Z h I (zlT _ _) λx11 h=>.A 1 I<|.nil<|.seq<|.S 1 I<|.e I<|.A 1 I<|.nil<|.ztM I h (λh=>.sA 1 I<|.ret (rO h I)) λh=>.skip<|.sA 1 I<|.seq<|.sA 1 I<|.block<|.L [4] h (λv=>[(5,.d (.int v.1)),(6,.d (.int v.2))]) (λv=>[]) I λ_ ⟨x20,x21⟩ h=>.seq<|.S 2 I<|.e I<|.A 1 I<|.nil<|.K [4,5,6,46] I<|.ztM I h (λh=>.skip<|.seq<|.block<|.seq<|.dr 15<|.A 3 I<|.X h I λx23 h=>.A 4 I<|.X h I λx24 h=>.A 6 I<|.nil<|.nil<|.sA 2 I<|.K [4,5,6,64] I<|.ztM I h (λh=>.sA 1 I<|.ret (rO h I)) λh=>.skip<|.rA 3 I (ndE h I)) λh=>.exit<|.sA 1 I<|.ret (rO h I)

theorem znF:Kd2 33 zbZ eA eA .bool:=λn t0 t1 r h=>.ot Tryz.func33 I Tryz.ntmps33 I λA w=>.sA 1 I<|.seq<|.S 1 I<|.e I<|.A 1 I<|.e I<|.A 1 I<|.nil<|.ztM I h (λh=>.sA 1 I<|.ret (rO h I)) λh=>.skip<|.seq<|.sA 1 I<|.block<|.L [0,1] h (λv=>[(5,.d (.int v))]) (λv=>[]) I λ_ x7 h=>.seq<|.S 2 I<|.e I<|.A 1 I<|.nil<|.K [0,1,5,14] I<|.ztM I h (λh=>.skip<|.seq<|.block<|.seq<|.dr 9<|.A 2 I<|.X h I λx9 h=>.A 3 I<|.X h I λx10 h=>.A 2 I<|.nil<|.nil<|.ztM I h (λh=>.sA 1 I<|.ret (rO h I)) λh=>.skip<|.rA 3 I (ndE h I)) λh=>.exit<|.sA 1 I<|.ret (rO h I)
theorem zmt (n t0 t1 r) (h:zbS n t0 t1=some r):Pure pg 83 [.sl 3 (List.map Step.enc t0),.sl 3 (List.map Step.enc t1)] (.bool r):=by
  refine Pure.ot Tryz.func83 I Tryz.ntmps83 I λA w=>.sA 1 I<|.seq<|.S 1 I<|.e I<|.A 1 I<|.e I<|.A 1 I<|.nil<|.ztM I h (λh=>.sA 1 I<|.ret (rO h I)) λh=>.skip<|.seq<|.sA 1 I<|.block<|.L [0,1] h (λv=>[(5,.d (.int v))]) (λv=>[]) I λ_ x7 h=>.seq<|.S 2 I<|.e I<|.A 1 I<|.nil<|.K [0,1,5,14] I<|.ztM I h (λh=>.skip<|.seq<|.block<|.seq<|.dr 9<|.A 2 I<|.X h I λx9 h=>.A 3 I<|.X h I λx10 h=>.A 1 I<|.p I (.sneq I SE149 I I (xs:=Step.vals _) (ys:=Step.vals _) I I I I (SQ149 _ _))<|.nil<|.nil<|.ztM I h (λh=>.sA 1 I<|.ret (rO h I)) λh=>.skip<|.rA 3 I (ndE h I)) λh=>.exit<|.sA 1 I<|.ret (rO h I)
theorem zlV (n:Nat) (self:Tree→Tree→Option Bool) (hself:∀ (t0:Tree) (t1:Tree) (r:Bool),self t0 t1=some r→Pure pg 34 [Tree.enc t0,Tree.enc t1] (.bool r)) (t0:Tree) (t1:Tree) (r:Bool) (h:zaY.body n self t0 t1=some r):Pure pg 34 [Tree.enc t0,Tree.enc t1] (.bool r):=by
  refine Pure.ot Tryz.func34 I Tryz.ntmps34 I λA w=>.sA 3 I<|.seq<|.seq<|.plain 36 I<|.A 6 I<|.jO 5 (t0.cell != t1.cell) I (λb1=>.A 5 I<|.nil I) <| .A 1 I<|.jO 5 (t0.at_ != t1.at_) I (λb2=>.A 5 I<|.nil I) <| .A 1 I<|gK h λc4 h=>.jO 6 (!((zbS n t0.steps t1.steps).getD default)) I (λb3=>.A 4 I<|.q I (.call I (zt1 I) I (zmt _ _ _ _ (zt0 (impF c4 b3))))<|.A 1 I<|.nil I) <| .A 1 I<|.jO 7 ((t0.kids.length:Int) != (t1.kids.length:Int)) I (λb5=>.q I (.fa I (zvT _))<|.A 1 I<|.qe I<|.q I (.fa I (zvT _))<|.A 1 I<|.qe I<|.A 1 I<|.nil I) <| .nil<|.nil<|.K [2,3,41] I<|.ztM I h (λh=>.sA 1 I<|.ret (rO h I)) λh=>.skip<|.seq<|.sA 1 I<|.block<|.L [2,3] h (λv=>[(5,.d (.int v))]) (λv=>[]) I λ_ x14 h=>.seq<|.S 1 I<|.p I (.fa I (zvT _))<|.A 1 I<|.e I<|.A 1 I<|.nil<|.K [2,3,5,46] I<|.ztM I h (λh=>.skip<|.seq<|.block<|.seq<|.dr 12<|.p I (.fa I (zvT _))<|.A 2 I<|.X h I λx16 h=>.A 1 I<|.p I (.fa I (zvT _))<|.A 2 I<|.X h I λx17 h=>.A 1 I<|.Z h I (hself _ _) λx18 h=>.A 1 I<|.nil<|.nil<|.ztM I h (λh=>.sA 1 I<|.ret (rO h I)) λh=>.skip<|.rA 3 I (ndE h I)) λh=>.exit<|.sA 1 I<|.ret (rO h I)
theorem zi4  : ∀ (n:Nat) (t0:Tree) (t1:Tree) (r:Bool) (h:zaY n t0 t1=some r),Pure pg 34 [Tree.enc t0,Tree.enc t1] (.bool r)
 | 0,t0,t1,r,h=>by cases h
 | n+1,t0,t1,r,h=>zlV n (zaY n) (zi4 n) t0 t1 r h
theorem zi5:Kd2 12 zcE zt6.enc zt6.enc .bool:=λn t0 t1 r h=>.ot Tryz.func12 I Tryz.ntmps12 I λA w=>.sA 3 I<|.seq<|.plain 26 I<|.A 6 I<|gK h λc2 h=>.jA 5 (((zbZ n t0.state t1.state).getD default)) I (λb1=>.A 4 I<|.q I (.call I (zt1 I) I (znF _ _ _ _ (zt0 (impT c2 b1))))<|.nil I) <| .A 1 I<|gK h λc4 h=>.jA 5 (((zaY n t0.tree t1.tree).getD default)) I (λb3=>.q I (.fa I (G42_2 _))<|.A 1 I<|.q I (.fa I (G42_2 _))<|.A 1 I<|.q I (.call I (zt1 I) I (zi4 _ _ _ _ (zt0 (impT c4 b3))))<|.nil I) <| .A 1 I<|.jA 5 (t0.steps==t1.steps) I (λb5=>.A 5 I<|.nil I) <| .nil<|.A 1 I<|.nil<|.K [4] I<|.ret (rO h I)
theorem zhA (n t0 t1 t2 t3 t4 r) (h:zdX n t0 t1 t2 t3 t4=some r):Pure pg 5 [Model.enc t0,Question.enc t1,.int t2,.int t3,eA t4] (.bool r):=by
  refine Pure.ot Tryz.func5 I Tryz.ntmps5 I λA w=>.sA 3 I<|.seq<|.sr<|.Z h I (zmh _ ) λx1 h=>.A 1 I<|.nil<|.ztM I h (λh=>.sA 1 I<|.ret (rO h I)) λh=>.skip<|.seq<|.seq<|.plain 24 I<|.A 1 I<|.Z h I (zov _ _) λx2 h=>.A 2 I<|.jO 3 (decide (20<(t4.length:Int))) I (λb3=>.A 1 I<|.qe I<|.A 1 I<|.nil I) <| .A 1 I<|.jO 2 (decide (t2<0)) I (λb4=>.A 2 I<|.nil I) <| .A 1 I<|.jO 2 (decide (t3<0)) I (λb5=>.A 2 I<|.nil I) <| .A 1 I<|.jO 2 (decide (65536<t2)) I (λb6=>.A 2 I<|.nil I) <| .A 1 I<|.jO 2 (decide (65536<t3)) I (λb7=>.A 2 I<|.nil I) <| .nil<|.nil<|.K [2,3,4,5,6,42] I<|.ztM I h (λh=>.sA 1 I<|.ret (rO h I)) λh=>.skip<|.S 4 I<|.p I (.min2 I I I)<|.A 1 I<|.Z h I (zcC _ _ _ _ _) λx8 h=>.A 3 I<|.aS I<|.A 1 I<|.nil<|.S 4 I<|.p I (.max2 I I I)<|.A 1 I<|.Z h I (zcC _ _ _ _ _) λx9 h=>.A 3 I<|.aS I<|.A 1 I<|.nil<|.K [2,3,4,5,6,11,12,13,14] I<|.seq<|.seq<|.plain 7 I<|.A 4 I<|.jO 2 (x8.2 != 0) I (λb10=>.A 2 I<|.nil I) <| .nil<|.nil<|.ztM I h (λh=>.sA 4 I<|.ret (rO h I)) λh=>.skip<|.seq<|.sA 3 I<|.ztM I h (λh=>.seq<|.plain 11 I<|.A 4 I<|.p I (.min2 I I I)<|.A 2 I<|.jO 3 (x8.1.steps==0) I (λb11=>.A 3 I<|.nil I) <| .nil<|.A 1 I<|.nil<|.K [10] I<|.ret (rO h I)) λh=>.skip<|.S 5 I<|.Z h I (zcC _ _ _ _ _) λx12 h=>.A 3 I<|.aS I<|.A 1 I<|.nil<|.K [11,13,15,16] I<|.seq<|.plain 12 I<|.A 3 I<|gK h λc14 h=>.jA 3 (((zcE n x8.1 x9.1).getD default)) I (λb13=>.A 2 I<|.q I (.call I (zt1 I) I (zi5 _ _ _ _ (zt0 (impT c14 b13))))<|.nil I) <| .A 1 I<|gK h λc16 h=>.jA 3 (((zcE n x8.1 x12.1).getD default)) I (λb15=>.A 2 I<|.q I (.call I (zt1 I) I (zi5 _ _ _ _ (zt0 (impT c16 b15))))<|.nil I) <| .nil<|.A 1 I<|.nil<|.ret (rO h I)
theorem zM {σ R:Type} {body:(σ→Option R)→σ→Option R} {len:Nat} {st:Nat→σ} {g:Nat→Option R}
  (hb:∀ rec i,i<len→rec (st (i+1))=g (i+1)→body rec (st i)=g i) (he:∀ rec,body rec (st len)=g len) :
  ∀ n i,i≤len→len - i<n→ztO body n (st i)=g i
 | 0,_,_,h=>by omega
 | n+1,i,hi,h=>by
  simp only [ztO];by_cases e:i=len
  ·subst e;exact he _
  ·exact hb _ i (by omega) (zM hb he n (i+1) (by omega) (by omega))
theorem zd {i:Nat} (h:i<4611686018427387904):ztJ (i:Int) 1=((i+1:Nat):Int):=by
 unfold ztJ;rw [zaK (by omega) (by omega)];omega
theorem zb {α:Type} {l:List α} {i:Nat} (h:i<l.length):idx l (i:Int)=some l[i]:=by
 unfold idx;rw [if_pos (by omega)];simp [h]
theorem zw {α:Type} {l:List α} {i:Nat} (h:i<l.length):decide ((i:Int)<(l.length:Int))=true:=by simp;omega
theorem zaw {α:Type} {l:List α}:decide (((l.length:Nat):Int)<(l.length:Int))=false:=by simp
def zB:List Change→Int→Int
 | [],_=>0
 | d::l,c=>if d.cell=c then d.add else zB l c
theorem zo {α:Type} {l:List α} {i:Nat} (h:i<l.length):l.drop i=l[i]::l.drop (i+1):=List.drop_eq_getElem_cons h
theorem zah {n:Nat} {a} (c:Int) (hl:a.effect.delta.length<4611686018427387904) (hn:a.effect.delta.length<n):zL n a c=some (zB a.effect.delta c):=by
 have:=zM (body:=zL.l1 n a c) (len:=a.effect.delta.length) (st:=λi=>(i:Int)) (g:=λi=>some (zB (a.effect.delta.drop i) c)) (λrec i hi hr=>?_) (λrec=>?_) n 0 (yp _) (by omega)
 ·simpa [zL] using this
 ·simp only [zL.l1,zw hi,if_true,zb hi,ya,zd (i:=i) (by omega),hr];rw [zo hi];simp only [zB,beq_iff_eq];split <;> rfl
 ·simp [zL.l1,zB]
def zcq (f:Int→Int):List Term→Int→Int
 | [],s=>s
 | t::l,s=>zcq f l (ztJ s (ztZ t.ztV (f t.cell)))
def zw8 (f:Int→Int) (l:List Term) (i:Nat):Int:=zcq f (l.take i) 0
theorem zhJ (f):∀ (l m:List Term) (s:Int),zcq f (l++m) s=zcq f m (zcq f l s)
 | [],_,_=>rfl
 | _::l,m,s=>by simp only [ug,zcq];exact zhJ f l m _
theorem zm1 (f) {l i} (h:i<l.length):zw8 f l (i+1)=ztJ (zw8 f l i) (ztZ l[i].ztV (f l[i].cell)):=by
 unfold zw8;rw [yA h,zhJ];rfl
theorem zcr {n:Nat} {a r} (h1:a.effect.delta.length<4611686018427387904) (h2:a.effect.delta.length<n) (h3:r.ztP.length<4611686018427387904) (h4:r.ztP.length<n) :
  zI n a r=some (zcq (zB a.effect.delta) r.ztP 0):=by
 have:=zM (body:=zI.l1 n a r) (len:=r.ztP.length) (st:=λi=>(zw8 (zB a.effect.delta) r.ztP i,(i:Int))) (g:=λ_=>some (zcq (zB a.effect.delta) r.ztP 0)) (λrec i hi hr=>?_) (λrec=>?_) n 0 (yp _) (by omega)
 ·simpa [zI,zw8,zcq] using this
 ·simp only [zI.l1,zw hi,if_true,zb hi,ya,zah _ h1 h2,zd (i:=i) (by omega),← zm1 _ hi,hr]
 ·simp [zI.l1,zw8]
def addP (c:Int):List Change→Int→Int
 | [],s=>s
 | d::l,s=>addP c l (if d.cell=c then ztJ s d.add else s)
theorem zk5 (c):∀ (l m:List Change) (s:Int),addP c (l++m) s=addP c m (addP c l s)
 | [],_,_=>rfl
 | _::l,m,s=>by simp only [ug,addP];exact zk5 c l m _
theorem zfl {n:Nat} {e} (c:Int) (hl:e.delta.length<4611686018427387904) (hn:e.delta.length<n):za5 n e c=some (addP c e.delta 0):=by
 have:=zM (body:=za5.l1 n e c) (len:=e.delta.length) (st:=λi=>(addP c (e.delta.take i) 0,(i:Int))) (g:=λ_=>some (addP c e.delta 0)) (λrec i hi hr=>?_) (λrec=>?_) n 0 (yp _) (by omega)
 ·simpa [za5,addP] using this
 ·rw [yA hi,zk5] at hr;simp only [addP] at hr;simp only [za5.l1,zw hi,if_true,zb hi,ya,jn,zd (i:=i) (by omega),beq_iff_eq];split at hr <;> rename_i h
  ·rw [if_pos h,hr]
  ·rw [if_neg h,hr]
 ·simp [za5.l1]
theorem zoy {n:Nat} {e r} (h1:e.delta.length<4611686018427387904) (h2:e.delta.length<n) (h3:r.ztP.length<4611686018427387904) (h4:r.ztP.length<n) :
  zbw n e r=some (zcq (λc=>addP c e.delta 0) r.ztP 0):=by
 have:=zM (body:=zbw.l1 n e r) (len:=r.ztP.length) (st:=λi=>(zw8 (λc=>addP c e.delta 0) r.ztP i,(i:Int))) (g:=λ_=>some (zcq (λc=>addP c e.delta 0) r.ztP 0)) (λrec i hi hr=>?_) (λrec=>?_) n 0 (yp _) (by omega)
 ·simpa [zbw,zw8,zcq] using this
 ·rw [zm1 _ hi] at hr;simp only [zbw.l1,zw hi,if_true,zb hi,ya,zfl _ h1 h2,zd (i:=i) (by omega),hr]
 ·simp [zbw.l1,zw8]
theorem zmA (c):∀ (l:List Change) (s:Int),(∀ d∈l,d.cell≠c)→addP c l s=s
 | [],_,_=>rfl
 | d::l,s,h=>by
  simp only [addP];rw [if_neg (h d (by simp))];exact zmA c l s λx hx=>h x (by simp [hx])
theorem zk4 (c):∀ (l:List Change),(l.map (·.cell)).Nodup→(∀ d∈l,-9223372036854775808≤d.add∧d.add≤9223372036854775807)→addP c l 0=zB l c
 | [],_,_=>rfl
 | d::l,hn,hb=>by
  simp only [yV,List.nodup_cons,yZ,not_exists,not_and] at hn;simp only [addP,zB];split <;> rename_i h
  ·rw [zmA c l _ λx hx e=>hn.1 x hx (e.trans h.symm)];have:=hb d (by simp);unfold ztJ;rw [Int.zero_add];exact zaK this.1 this.2
  ·exact zk4 c l hn.2 λx hx=>hb x (by simp [hx])
section
variable {κ:Type} [DecidableEq κ]
structure zv5 (m:GMap κ Bool) (l:List κ):Prop where
 tru:∀ e∈m.es,e.2.2=true
 mem:∀ k,k∈m.es.map (λe=>e.2.1)↔k∈l
theorem zll (k:κ):∀ (es:List (Nat×κ×Bool)),(∀ e∈es,e.2.2=true)→((zuR k es).map (·.2)).getD false=decide (k∈es.map (λe=>e.2.1))
 | [],_=>by simp [zuR]
 | e::es,h=>by
  simp only [zuR,yV,yI];by_cases hk:k=e.2.1
  ·simp [hk,h e (by simp)]
  ·rw [if_neg hk];have:=zll k es λx hx=>h x (by simp [hx])
   simp only [hk,false_or,← this,Option.map_map];cases zuR k es <;> rfl
theorem zpL (k:κ):∀ (es:List (Nat×κ×Bool)),zuR k es=none→k∉es.map (λe=>e.2.1)
 | [],_=>by simp
 | e::es,h=>by
  simp only [zuR] at h;split at h
  ·cases h
  ·rename_i hk;simp only [Option.map_eq_none_iff] at h;simp only [yV,yI,not_or];exact ⟨hk,zpL k es h⟩
theorem zlm (k:κ):∀ (es:List (Nat×κ×Bool)) (p:Nat×Bool),zuR k es=some p→k∈es.map (λe=>e.2.1)
 | [],_,h=>by simp [zuR] at h
 | e::es,p,h=>by
  simp only [zuR] at h;split at h
  ·rename_i hk;simp [hk]
  ·simp only [Option.map_eq_some_iff] at h;obtain ⟨q,h1,_⟩:=h;exact yX _ (zlm k es q h1)
theorem zv5.get {m:GMap κ Bool} {l:List κ} (h:zv5 m l) (k:κ):(m.get? k).getD false=decide (k∈l):=by
 unfold GMap.get?;rw [zll k m.es h.tru];exact decide_eq_decide.2 (h.mem k)
theorem zv5.empty:zv5 (GMap.empty:GMap κ Bool) []:=⟨λe he=>(by simp [GMap.empty] at he),λk=>by simp [GMap.empty]⟩
theorem zig (f:Nat×κ×Bool→Nat×κ×Bool) (hf:∀ e,(f e).2.1=e.2.1):∀ (es:List (Nat×κ×Bool)) (i:Nat),(es.modify i f).map (λe=>e.2.1)=es.map (λe=>e.2.1)
 | [],_=>by simp
 | e::es,0=>by simp [hf]
 | e::es,i+1=>by simp [zig f hf es i]
theorem zjO {p:Nat×κ×Bool→Prop} (f:Nat×κ×Bool→Nat×κ×Bool) (hf:∀ e,p (f e)):∀ (es:List (Nat×κ×Bool)) (i:Nat),(∀ e∈es,p e)→∀ e∈es.modify i f,p e
 | [],_,_=>by simp
 | e::es,0,h=>by
  intro x hx;simp only [List.modify_zero_cons,yI] at hx;rcases hx with rfl | hx
  ·exact hf e
  ·exact h x (by simp [hx])
 | e::es,i+1,h=>by
  intro x hx;simp only [List.modify_succ_cons,yI] at hx;rcases hx with rfl | hx
  ·exact h x (by simp)
  ·exact zjO f hf es i (λy hy=>h y (by simp [hy])) x hx
theorem zv5.put {m:GMap κ Bool} {l:List κ} (h:zv5 m l) (k:κ):zv5 (m.put k true) (l++[k]):=by
 unfold GMap.put;cases hk:zuR k m.es with
 | none=>
  simp only [];refine ⟨λe he=>?_,λx=>?_⟩
  ·simp only [yr,yG] at he;rcases he with he | rfl
   ·exact h.tru e he
   ·rfl
  ·simp only [uw,yV,List.map_nil,yr,yG,h.mem x]
 | some p=>
  obtain ⟨i,b⟩:=p;simp only [];have hkl:k∈l:=(h.mem k).1 (zlm k m.es _ hk);refine ⟨zjO (p:=λe=>e.2.2=true) _ (λe=>rfl) m.es i h.tru,λx=>?_⟩;rw [zig (λe:Nat×κ×Bool=>(e.1,e.2.1,true)) (λe=>rfl) m.es i,h.mem x];simp only [yr,yG];exact ⟨.inl,λhx=>hx.elim id λe=>by rw [e];exact hkl⟩
end
def ixP {α:Type} (p:α→Bool):List α→Nat→Int
 | [],_=>-1
 | x::l,i=>if p x=true then (i:Int) else ixP p l (i+1)
theorem zri {α:Type} (p):∀ (l:List α) (i:Nat),0≤ixP p l i↔l.any p=true
 | [],_=>by simp [ixP]
 | x::l,i=>by
  have ih:=zri p l (i+1);rw [ixP,uQ];by_cases h:p x=true
  ·rw [if_pos h,h];simp
  ·rw [if_neg h,ih];simp only [yO] at h;rw [h,ur]
theorem zgO {α:Type} (p:α→Bool) (l:List α) (i:Nat):decide (0≤ixP p l i)=l.any p:=by
 have:=zri p l i;cases h:l.any p with
 | true=>exact decide_eq_true (this.2 h)
 | false=>exact decide_eq_false λhc=>by rw [this.1 hc] at h;cases h
theorem zjp {n l f p} (hf:∀ x∈l,f x=some (p x)) (hl:l.length<4611686018427387904) (hn:l.length<n):zO n l f=some (ixP p l 0):=by
 have:=zM (body:=zO.l1 n l f) (len:=l.length) (st:=λi=>(i:Int)) (g:=λi=>some (ixP p (l.drop i) i)) (λrec i hi hr=>?_) (λrec=>?_) n 0 (yp _) (by omega)
 ·simpa [zO] using this
 ·simp only [zO.l1,zw hi,if_true,zb hi,ya,hf _ (ym hi),zd (i:=i) (by omega),hr];rw [zo hi];simp only [ixP];split <;> rfl
 ·simp [zO.l1,ixP]
theorem zca {n:Nat} {l:List Int} {f:Int→Option Bool} {p:Int→Bool} (hf:∀ x∈l,f x=some (p x)) (hl:l.length<4611686018427387904) (hn:l.length<n):zj n l f=some (l.any p):=by
 unfold zj;rw [zjp hf hl hn,ya,zgO]
def zcx (x:Int):Bool:=decide (1≤x)&&decide (x≤6)
def zuK (sizes:List Int) (c:Int):Bool:=decide (0≤c)&&decide (c<(sizes.length:Int))
theorem zm8 {α:Type} (p:α→Bool) (l:List α):(!l.any λx=>!p x)=l.all p:=by
 induction l with
 | nil=>rfl
 | cons x l ih=>simp only [uQ,uj,← ih];cases p x <;> simp
theorem zmf {n:Nat} {l:List Int} (hl:l.length<4611686018427387904) (hn:l.length<n):zf1 n l=some (l.all zcx):=by
 unfold zf1;rw [zca (p:=λx=>!zcx x) (λx _=>by simp [zf2,zeb,zcx]) hl hn,ya,zm8]
theorem zjt {n:Nat} {sizes cols:List Int} (hl:cols.length<4611686018427387904) (hn:cols.length<n):zd2 n sizes cols=some (decide (cols.length≤3)&&cols.all (zuK sizes)):=by
 unfold zd2;rw [zca (p:=λx=>!zuK sizes x) (λx _=>by
  simp only [zcv,zuK,yj,Bool.not_and];congr 1
  ·rw [← decide_not];exact decide_eq_decide.2 (by omega)
  ·rw [← decide_not];exact decide_eq_decide.2 (by omega)) hl hn]
 simp only [yo,yy,grd,if_true,yi,zm8,yj];congr 1;exact decide_eq_decide.2 (by omega)
theorem zhU {n l} (hl:l.length<4611686018427387904) (hn:l.length<n):zbd n l=some (l.all zcx):=by
 have:=zM (body:=zbd.l1 n l) (len:=l.length) (st:=λi=>(i:Int)) (g:=λi=>some ((l.drop i).all zcx)) (λrec i hi hr=>?_) (λrec=>?_) n 0 (yp _) (by omega)
 ·simpa [zbd] using this
 ·simp only [zbd.l1,zw hi,if_true,zb hi,ya,yo,yy,grd,yi,zd (i:=i) (by omega),hr];rw [zo hi];simp only [uj,zcx];by_cases h:1≤l[i]∧l[i]≤6
  ·rw [if_neg (by simp;omega)];simp [h.1,h.2]
  ·rw [if_pos (by simp;omega)];have:(decide (1≤l[i])&&decide (l[i]≤6))=false:=by
    simp only [uy,yH];omega
   rw [this,uh]
 ·simp [zbd.l1]
def zar (sizes:List Int):List Int→Int→Int
 | [],s=>s
 | c::l,s=>zar sizes l (ztZ s (sizes.getD c.toNat 0))
theorem zdO (sizes):∀ (l m:List Int) (s:Int),zar sizes (l++m) s=zar sizes m (zar sizes l s)
 | [],_,_=>rfl
 | _::l,m,s=>by simp only [ug,zar];exact zdO sizes l m _
theorem zf6 {sizes c} (h:zuK sizes c=true):idx sizes c=some (sizes.getD c.toNat 0):=by
 simp only [zuK,yd,yg] at h;obtain ⟨n,rfl⟩:=yW h.1;have:n<sizes.length:=by omega
 rw [zb this];simp [List.getD,this]
theorem zfv {n sizes cols} (hc:cols.all (zuK sizes)=true) (hl:cols.length<4611686018427387904) (hn:cols.length<n):zba n sizes cols=some (zar sizes cols 1):=by
 have:=zM (body:=zba.l1 n sizes cols) (len:=cols.length) (st:=λi=>(zar sizes (cols.take i) 1,(i:Int))) (g:=λ_=>some (zar sizes cols 1)) (λrec i hi hr=>?_) (λrec=>?_) n 0 (yp _) (by omega)
 ·simpa [zba,zar] using this
 ·rw [yA hi,zdO] at hr;simp only [zar] at hr;simp only [zba.l1,zw hi,if_true,zb hi,ya,zf6 (yq.1 hc _ (ym hi)),zd (i:=i) (by omega),hr]
 ·simp [zba.l1]
theorem zpi {n sizes cols} (hl:cols.length<4611686018427387904) (hn:cols.length<n):ztO (zai.l1 n sizes cols) n (1,0)=some (if cols.all (zuK sizes)=true then zar sizes cols 1 else 0):=by
 by_cases hc:cols.all (zuK sizes)=true
 ·rw [if_pos hc];have:=zM (body:=zai.l1 n sizes cols) (len:=cols.length) (st:=λi=>(zar sizes (cols.take i) 1,(i:Int))) (g:=λ_=>some (zar sizes cols 1)) (λrec i hi hr=>?_) (λrec=>?_) n 0 (yp _) (by omega)
  ·simpa [zar] using this
  ·rw [yA hi,zdO] at hr;simp only [zar] at hr;have hcol:=yq.1 hc _ (ym hi);have h2:=zf6 hcol;simp only [zuK,yd,yg] at hcol;have hif:((decide (cols[i]<0))||(decide ((sizes.length:Int)≤cols[i])))=false:=by
    simp only [uc,yH];omega
   simp only [zai.l1,zw hi,if_true,zb hi,ya,yo,yy,grd,yi,hif,ye,if_false,h2,zd (i:=i) (by omega),hr]
  ·simp [zai.l1]
 ·rw [if_neg hc];have:=zM (body:=zai.l1 n sizes cols) (len:=cols.length) (st:=λi=>(zar sizes (cols.take i) 1,(i:Int))) (g:=λi=>some (if (cols.drop i).all (zuK sizes)=true then zar sizes cols 1 else 0)) (λrec i hi hr=>?_) (λrec=>?_) n 0 (yp _) (by omega)
  ·simpa [zar,hc] using this
  ·rw [yA hi,zdO] at hr;simp only [zar] at hr;rw [zo hi,uj];by_cases hcol:zuK sizes cols[i]=true
   ·have h2:=zf6 hcol;rw [hcol,yE];simp only [zuK,yd,yg] at hcol;have hif:((decide (cols[i]<0))||(decide ((sizes.length:Int)≤cols[i])))=false:=by
     simp only [uc,yH];omega
    simp only [zai.l1,zw hi,if_true,zb hi,ya,yo,yy,grd,yi,hif,ye,if_false,h2,zd (i:=i) (by omega),hr]
   ·have hif:((decide (cols[i]<0))||(decide ((sizes.length:Int)≤cols[i])))=true:=by
     simp only [zuK,yd,yg] at hcol;simp only [yK,yg];omega
    simp only [yO] at hcol;rw [hcol,uh,if_neg (by simp)];simp only [zai.l1,zw hi,if_true,zb hi,ya,yo,yy,grd,yi,hif]
  ·simp [zai.l1]
theorem ze4 {n sizes cols} (hl:cols.length<4611686018427387904) (hn:cols.length<n) (hs:sizes.length<4611686018427387904) (hsn:sizes.length<n) :
  zai n sizes cols=some (if (decide (cols.length≤3)&&sizes.all zcx&&cols.all (zuK sizes))=true then zar sizes cols 1 else 0):=by
 unfold zai;rw [zhU hs hsn,zpi hl hn];simp only [yo,yy,grd,if_true,yi];by_cases h3:cols.length≤3
 ·cases h4:sizes.all zcx with
  | true=>rw [if_neg (by simp;omega)];simp [h3]
  | false=>rw [if_pos (by simp)];simp
 ·rw [if_pos (by simp;left;omega)];simp [h3]
theorem zdF {S R} {body} (μ:S→Nat) (I:S→Prop) (Q:S→Option R→Prop)
  (hb:∀ rec s,I s→(∀ s',I s'→μ s'<μ s→Q s' (rec s'))→Q s (body rec s)):∀ n s,I s→μ s<n→Q s (ztO body n s)
 | 0,_,_,h=>by omega
 | n+1,s,c,h=>hb _ s c λs' a b=>zdF μ I Q hb n s' a (by omega)
theorem zbn {σ S R:Type} {body} {len} {st:σ→Nat→S} {g:Nat→σ→Option R} (I:Nat→σ→Prop)
  (hb:∀ rec i s,i<len→I i s→(∀ s',I (i+1) s'→rec (st s' (i+1))=g (i+1) s')→body rec (st s i)=g i s) (he:∀ rec s,I len s→body rec (st s len)=g len s) :
  ∀ n i s,i≤len→len - i<n→I i s→ztO body n (st s i)=g i s
 | 0,_,_,_,h,_=>by omega
 | n+1,i,s,c,h,b=>by
  simp only [ztO];by_cases e:i=len
  ·grind
  ·exact hb _ i s (by omega) b λs' a=>zbn I hb he n (i+1) s' (by omega) (by omega) a
theorem zgU {S R} {body:(S→Option R)→S→Option R} {n} (h:0<n) (s):ztO body n s=body (ztO body (n - 1)) s:=by
 obtain ⟨m,rfl⟩:∃ m,n=m+1:=⟨n - 1,by omega⟩
 rfl
theorem zea {a b:Nat} (h:a+b<9223372036854775808):ztJ (a:Int) (b:Int)=((a+b:Nat):Int):=by
 grind [ztJ,zaK]
theorem zdi {l:List UInt8} {i} (h:i<l.length):sidx l (i:Int)=some ((l[i].toNat:Nat):Int):=by
 unfold sidx;grind
theorem zgH {α} {l:List α} {a b} (h1:a≤b) (h2:b≤l.length):cut l (a:Int) (b:Int)=some ((l.drop a).take (b - a)):=by
 unfold cut;grind
theorem zjy {α} {l:List α} {a} (h1:a≤l.length):cut l (a:Int) (l.length:Int)=some (l.drop a):=by
 rw [zgH h1 (yk _),List.take_of_length_le (by simp)]
theorem zsH {α} {l:List α}:cut l 0 (l.length:Int)=some l:=by
 have:=zjy (l:=l) (a:=0) (by omega);grind
theorem zlB {i k:Nat} (h:i<k):decide ((i:Int)<(k:Int))=true:=by grind
theorem zhL {i k:Nat} (h:k≤i):decide ((i:Int)<(k:Int))=false:=by grind
def runP (p:Int→Bool):List UInt8→Nat
 | []=>0
 | b::l=>if p (b.toNat:Nat)=true then runP p l+1 else 0
theorem zlZ (p):∀ l,runP p l≤l.length
 | []=>yk _
 | b::l=>by
  simp only [runP];split
  ·exact Nat.succ_le_succ (zlZ p l)
  ·omega
theorem zgQ {n} {l} {f p} (hf:∀ q,f q=some (p q)) (hl:l.length<4611686018427387904) (hn:l.length<n):zcP n l f=some ((runP p l:Nat):Int):=by
 have:=zM (body:=zcP.l1 n l f) (len:=l.length) (st:=λi=>i) (g:=λi=>some ((i+runP p (l.drop i)))) (λa i b c=>?_) (λa=>?_) n 0 (yp _) (by omega)
 ·grind [zcP]
 ·simp only [zcP.l1,zdi b,grd,zd (i:=i) (by omega)]
  grind [zo,runP]
 ·simp [zcP.l1,runP,grd]
def zbV (q:Int):Bool:=decide (97≤q)&&decide (q≤122)
def zkh (q:Int):Bool:=decide (48≤q)&&decide (q≤57)
def zvf (q:Int):Bool:=(zbV q||zkh q)||(q==95)
theorem zlx {n q}:zcO n q=some (zbV q):=rfl
theorem zmi {n q}:zbo n q=some (zkh q):=rfl
theorem zge {n q}:zaG n q=some (zbV q):=rfl
theorem zfm {n q}:za1 n q=some (zkh q):=rfl
def zdx (q:Int):Bool:=!(q==9||q==10||q==13||q==32||q==35)
theorem zef {q} (h:zbV q=true):zdx q=true:=by
 simp only [zbV] at h
 grind [zdx,Bool.or_eq_false_iff]
theorem znv {n} {l} (hl:l.length<1000000) (hn:1000000≤n) :
  ∃ k:Nat,zc4 n l=some (k:Int)∧k≤l.length∧(∀ h ,zdx (l[0].toNat:Nat)=true→k=0)∧(∀ h ,zdx (l[0].toNat:Nat)=false→0<k):=by
 have:=zdF (body:=zc4.l1 n l) (λs:Int=>l.length - s.toNat) (λs=>∃ i:Nat,s=i∧i≤l.length) (λs o=>∃ k:Nat,o=some (k:Int)∧k≤l.length∧s.toNat≤k∧∀ h:s.toNat<l.length,(zdx (l[s.toNat].toNat:Nat)=true→k=s.toNat)∧(zdx (l[s.toNat].toNat:Nat)=false→s.toNat<k))
  (λrec s hI hr=>by
   obtain ⟨i,rfl,hi⟩:=hI;by_cases hlt:i<l.length
   ·simp only [zc4.l1,zw hlt,if_true,zdi hlt,ya,zb8,yz];by_cases hw:((((((l[i].toNat:Nat):Int)==32)||(((l[i].toNat:Nat):Int)==9))||(((l[i].toNat:Nat):Int)==10))||(((l[i].toNat:Nat):Int)==13))=true
    ·rw [if_pos hw,zd (i:=i) (by omega)];obtain ⟨k,e,k1,k2,-⟩:=hr ((i+1:Nat):Int) ⟨i+1,rfl,by omega⟩ (by grind);simp only [yz] at k2;refine ⟨k,e,k1,by omega,λh=>⟨λhb=>?_,λhb=>by omega⟩⟩;exfalso;simp only [yK,beq_iff_eq] at hw
     grind [zdx,Bool.not_eq_true',Bool.or_eq_false_iff,beq_eq_false_iff_ne]
    ·rw [if_neg hw];by_cases hh:((l[i].toNat:Nat):Int)=35
     ·rw [if_pos (by simp [hh]),zjy hi,ya,zgQ (f:=λq=>zgS n q) (p:=λq=>q != 10) (λq=>rfl) (by rw [ua];omega) (by rw [ua];omega),ya];have hrun:1≤runP (λq=>q != 10) (l.drop i):=by
       rw [zo hlt,runP,hh];simp
      have hle:=zlZ (λq=>q != 10) (l.drop i);simp only [ua] at hle;rw [zea (by omega)];obtain ⟨k,e,k1,k2,-⟩:=hr ((i+runP (λq=>q != 10) (l.drop i):Nat):Int) ⟨_,rfl,by omega⟩ (by simp only [yz];omega);simp only [yz] at k2;refine ⟨k,e,k1,by omega,λh=>⟨λhb=>?_,λhb=>by omega⟩⟩;rw [hh] at hb;exact absurd hb (by decide)
     ·rw [if_neg (by simpa using hh)];refine ⟨i,rfl,hi,yk _,λh=>⟨λ_=>rfl,λhb=>?_⟩⟩;exfalso;simp only [yK,beq_iff_eq,not_or] at hw;simp only [zdx,Bool.not_eq_false',yK,beq_iff_eq] at hb;omega
   ·have:i=l.length:=by omega
    subst this;refine ⟨l.length,by simp [zc4.l1],yk _,by simp,λh=>by simp at h⟩) n 0 ⟨0,rfl,by omega⟩ (by simp;omega)
 grind [zc4]
theorem zgT {n} {l} (hn:1000000≤n):∃ k:Int,zbl n l=some k:=by
 have:=zdF (body:=zbl.l1 n l) (λs:Int=>5 - s.toNat) (λs=>∃ i:Nat,s=i∧i≤5) (λ_ o=>∃ k:Int,o=some k) (λrec s hI hr=>by
  obtain ⟨i,rfl,hi⟩:=hI;simp only [zbl.l1];generalize hL:([[61,61],[33,61],[60,61],[62,61],[46,46]]:List (List UInt8))=L;have hLl:L.length=5:=by grind
  by_cases hlt:i<L.length
  ·have hp:∃ b,zc7 n l L[i]=some b:=by
    simp only [zc7,zbt];by_cases h:L[i].length≤l.length
    ·have:cut l 0 (L[i].length:Int)=some ((l.drop 0).take (L[i].length - 0)):=zgH (a:=0) (by omega) (by omega)
     simp [this,grd]
    ·simp [h,grd]
   obtain ⟨b,hp⟩:=hp;have hd:decide ((i:Int)<(([[61,61],[33,61],[60,61],[62,61],[46,46]]:List (List Nat)).length:Int))=true:=by grind
   simp only [hd,if_true,zb hlt,ya,hp,zd (i:=i) (by omega)];split
   ·grind
   ·exact hr _ ⟨i+1,rfl,by omega⟩ (by grind)
  ·have hd:decide ((i:Int)<(([[61,61],[33,61],[60,61],[62,61],[46,46]]:List (List Nat)).length:Int))=false:=by simp;omega
   rw [hd,if_neg (by simp)];cases l with
   | nil=>simp [grd]
   | cons b l=>
    have h0:sidx (b::l) 0=some ((b.toNat:Nat):Int):=zdi (l:=b::l) (i:=0) (by simp)
    simp only [h0,zck,zbu,ya,yo,yy,grd,if_true,yi]
    grind) n 0 ⟨0,rfl,by omega⟩ (by grind)
 grind [zbl]
theorem zlw {n} {l} (hn:1000000≤n) (h:0<l.length):∃ b,zdq n l=some b:=by
 obtain ⟨k,c⟩:=zgT (n:=n) (l:=l) hn;have a:sidx l 0=some ((l[0].toNat)):=zdi (i:=0) h;simp [zdq,a,zcO,zbo,c,grd]
theorem zmj {n} {l} {k} (hl:l.length<1000000) (hn:1000000≤n) (h1:0<l.length):∃ e,ztO (zaz.l2 n l k) n 1=k (5,e):=by
 refine zdF (body:=zaz.l2 n l k) (λs =>l.length - s.toNat) (λs=>∃ i:Nat,s=i∧i≤l.length) (λ_ o=>∃ e,o=k (5,e)) (λh s d f=>?_) n 1 ⟨1,rfl,h1⟩ (by grind);obtain ⟨i,rfl,g⟩:=d;by_cases a:i<l.length
 ·obtain ⟨b,c⟩:=zlw (n:=n) (l:=l.drop i) hn (by grind);simp only [zaz.l2,zdi a,zb8,zjy g,c,yo,yy,grd,if_true,yi,zd (i:=i) (by omega)];split
  ·exact f _ ⟨i+1,rfl,by omega⟩ (by omega)
  grind
 ·have:i=l.length:=by omega
  subst this;exact ⟨l.length,by simp [zaz.l2,grd]⟩
def zxo (w:List UInt8):Bool:=(match w with | []=>false | b::_=>zbV (b.toNat:Nat))&&decide (runP zvf w=w.length)
theorem zj6 (w) (h):zxo w=(zbV (w[0].toNat:Nat)&&decide (runP zvf w=w.length)):=by
 cases w with
 | nil=>simp at h
 | cons b l=>rfl
theorem zpg {n} {w} {kw} (hl:w.length<1000000) (hn:1000000≤n) (h0:0<w.length) :
  ∃ t,zaz n w kw=some t∧(t.at_=0∧t.end_=(w.length:Int)∧t.kind=1↔zxo w=true∧(kw.get? w).getD false=false):=by
 obtain ⟨k,e,k1,k2,k3⟩:=znv (n:=n) (l:=w) hl hn;unfold zaz;rw [zgU (by omega)];have hz:ztJ 0 (k:Int)=(k:Int):=by have:=zea (a:=0) (b:=k) (by omega);grind
 simp only [zaz.l1,zsH,ya,e,hz,zjy k1,jn];by_cases hk:k=w.length
 ·subst hk;rw [if_pos (by simp)];refine ⟨_,rfl,?_⟩;simp only [];constructor
  ·grind
  ·rintro ⟨h,-⟩;exfalso;rw [zj6 w h0,yd] at h
   grind [zef]
 ·have hd:0<(w.drop k).length:=by grind
  rw [if_neg (by grind)];have hs:sidx (w.drop k) 0=some (((w.drop k)[0].toNat:Nat):Int):=zdi (i:=0) hd;simp only [hs,ya,zlx];rw [zj6 w h0];by_cases hlet:zbV (((w.drop k)[0].toNat:Nat):Int)=true
  ·rw [if_pos hlet,zgQ (p:=zvf) (λq=>by simp [zjM,zcO,zbo,grd,zvf,zbV,zkh]) (by simp;omega) (by simp;omega)];have hle:=zlZ zvf (w.drop k);have hc:=zgH (l:=w.drop k) (a:=0) (b:=runP zvf (w.drop k)) (by omega) hle;simp only [ya,Int.natCast_zero] at hc ⊢;rw [hc];simp only [ua] at hle;have ha:ztJ (k:Int) (runP zvf (w.drop k):Nat)=((k+runP zvf (w.drop k):Nat):Int):=zea (by omega)
   simp only [ya,ha,List.drop_zero,Nat.sub_zero];by_cases hk0:k=0
   ·subst hk0;simp only [List.drop_zero] at hlet ⊢;by_cases hrun:runP zvf w=w.length
    ·rw [hrun,List.take_of_length_le (yk _)];by_cases hkw:(kw.get? w).getD false=true
     ·rw [if_pos hkw];refine ⟨_,rfl,?_⟩;simp [hkw]
     ·rw [if_neg hkw];refine ⟨_,rfl,?_⟩;simp only [yO] at hkw;simp [hkw,hlet]
    ·split
     all_goals
      refine ⟨_,rfl,?_⟩;simp [hrun]
      try omega
   ·have hbl:zdx (w[0].toNat:Nat)=false:=by
     cases hb:zdx (w[0].toNat:Nat) with
     | false=>rfl
     | true=>exact absurd (k2 h0 hb) hk0
    have hnl:zbV (w[0].toNat:Nat)=false:=by
     cases hb:zbV (w[0].toNat:Nat) with
     | false=>rfl
     | true=>rw [zef hb] at hbl;cases hbl
    split
    all_goals
     refine ⟨_,rfl,?_⟩;simp [hnl,hk0]
  ·rw [if_neg hlet];have hno:k=0→zbV (w[0].toNat:Nat)=false:=by
    intro hk0;subst hk0;simp only [List.drop_zero,yO] at hlet;exact hlet
   have hno':zbV (w[0].toNat:Nat)=false:=by
    by_cases hk0:k=0
    ·exact hno hk0
    ·cases hb:zbV (w[0].toNat:Nat) with
     | false=>rfl
     | true=>exact absurd (k2 h0 (zef hb)) hk0
   simp only [zmi,ya,hno',uh,ye,false_and,iff_false];split
   ·rw [zgQ (p:=zkh) (λq=>rfl) (by simp;omega) (by simp;omega)];exact ⟨_,rfl,by simp⟩
   ·obtain ⟨v,hv⟩:=zgT (n:=n) (l:=w.drop k) hn;simp only [hv,ya];split
    ·exact ⟨_,rfl,by simp⟩
    ·obtain ⟨e,he⟩:=zmj (n:=n) (l:=w.drop k) (k:=λv=>some (⟨v.1,0,(k:Int),ztJ (k:Int) v.2⟩:Token)) (by simp;omega) hn hd;rw [he];exact ⟨_,rfl,by simp⟩
def kwL:List (List UInt8):=[[115,111,114,116],[114,101,108,97,116,105,111,110],[99,111,117,110,116,101,114],[115,101,116],[114,101,103,105,115,116,101,114],[105,110,118,97,114,105,97,110,116],[111,112,101,114,97,116,105,111,110],[107,101,121],[114,101,102,101,114,101,110,99,101],[116,111],[99,111,117,110,116],[97,99,121,99,108,105,99],[97,108,108],[115,117,109],[105,110],[97,100,100,119,105,110,115],[114,101,109,111,118,101,119,105,110,115],[108,97,115,116],[109,117,108,116,105],[104,105,100,101],[111,114,100,101,114,101,100],[114,101,113,117,105,114,101],[104,111,108,100],[105,110,115,101,114,116],[100,101,108,101,116,101],[97,100,100],[102,114,111,109],[112,117,116],[100,114,111,112],[97,115,115,105,103,110],[102,111,114],[119,104,101,114,101],[97,110,100],[111,114],[110,111,116]]
structure Fuel (n:Nat):Prop where
 big:4294967296≤n
 kw:∃ m,zbH n=some m∧zv5 m kwL
def zwp (w:List UInt8):Bool:=decide (w.length≤16)&&(zxo w&&!decide (w∈kwL))
theorem ziP {n} {w} (hF:Fuel n):zfK n w=some (zwp w):=by
 have p:=hF.big;unfold zfK zwp;by_cases d:w.length≤16
 ·have k:decide (w.length≤16)=true:=by grind
  unfold zeI;obtain ⟨m,f,g⟩:=hF.kw;cases i:w with
  | nil=>simp [grd,zxo]
  | cons b l=>
   rw [← i];have e:0<w.length:=by grind
   rw [if_neg (by grind),f,ya];obtain ⟨t,h,a⟩:=zpg (n:=n) (w:=w) (kw:=m) (by omega) (by omega) e;rw [g.get] at a;simp only [h,ya];by_cases o:t.at_=0∧t.end_=w.length∧t.kind=1
   ·grind [grd]
   ·have j:(zxo w&&!decide (w∈kwL))=false:=by
     grind
    rw [j];split
    ·simp [grd]
    ·rename_i c
     grind [grd]
 ·grind [grd]
theorem zpl {n} {t} {rec x} (hx:x≤t.length) (hl:t.length<1000000) (hn:1000000≤n) :
  ∃ y:Nat,x≤y∧y≤t.length∧ztO (zbj.l2 n t rec) n x=rec (y:Int)∧∀ h ,(t[x].toNat:Nat)=35→x<y:=by
 have:=zdF (body:=zbj.l2 n t rec) (λs:Int=>t.length - s.toNat) (λs=>∃ i:Nat,s=i∧i≤t.length) (λs o=>∃ y:Nat,s.toNat≤y∧y≤t.length∧o=rec (y:Int)∧∀ h:s.toNat<t.length,(t[s.toNat].toNat:Nat)=35→s.toNat<y) (λr s hI hr=>by
  obtain ⟨i,rfl,hi⟩:=hI;by_cases hlt:i<t.length
  ·simp only [zbj.l2,zw hlt,zdi hlt,yo,grd,if_true,yi,yE,zd (i:=i) (by omega),yz];by_cases h10:((((t[i].toNat:Nat):Int) != 10))=true
   ·obtain ⟨y,y1,y2,y3,-⟩:=hr ((i+1:Nat):Int) ⟨_,rfl,by omega⟩ (by omega)
    grind
   grind
  ·have:i=t.length:=by omega
   subst this;exact ⟨t.length,by simp,yk _,by simp [zbj.l2,grd],λh=>by simp at h⟩) n x ⟨x,rfl,hx⟩ (by omega)
 grind
theorem zio {n} {t:List UInt8} {a} (ha:a≤t.length) (hl:t.length<1000000) (hn:1000000≤n) :
  ∃ k:Nat,zbj n t a=some (k:Int)∧a≤k∧k≤t.length∧(∀ h ,zdx (t[k].toNat:Nat)=true)∧(∀ h ,zdx (t[a].toNat:Nat)=true→k=a):=by
 have:=zdF (body:=zbj.l1 n t) (λs:Int=>t.length - s.toNat) (λs=>∃ i:Nat,s=i∧i≤t.length)
  (λs o=>∃ k:Nat,o=some (k:Int)∧s.toNat≤k∧k≤t.length∧(∀ h:k<t.length,zdx (t[k].toNat:Nat)=true)∧(∀ h:s.toNat<t.length,zdx (t[s.toNat].toNat:Nat)=true→k=s.toNat)) (λr s hI hr=>by
  obtain ⟨i,rfl,hi⟩:=hI;by_cases hlt:i<t.length
  ·simp only [zbj.l1,zw hlt,zdi hlt,zaR,yo,yy,grd,if_true,yi,yE,ya,zd (i:=i) (by omega),yz];by_cases hb:zdx (t[i].toNat:Nat)=true
   ·rw [if_neg (by
     simp only [zdx,yB,uc,uq] at hb;simp_all)]
    grind
   ·rw [if_pos (by
     simp only [zdx,yB,uc,uq] at hb;simp only [yK,beq_iff_eq];omega)]
    by_cases hh:(t[i].toNat:Nat)=35
    ·rw [if_pos (by simp [hh])];obtain ⟨y,y1,y2,y3,y4⟩:=zpl (n:=n) (rec:=r) hi hl hn;have y5:=y4 hlt hh;rw [y3];obtain ⟨k,e,k1,k2,k3,-⟩:=hr (y:Int) ⟨y,rfl,y2⟩ (by simp only [yz];omega);simp only [yz] at k1;exact ⟨k,e,by omega,k2,k3,λ_ h=>absurd h hb⟩
    ·rw [if_neg (by simp;omega)];obtain ⟨k,e,k1,k2,k3,-⟩:=hr ((i+1:Nat):Int) ⟨_,rfl,by omega⟩ (by simp only [yz];omega);simp only [yz] at k1;exact ⟨k,e,by omega,k2,k3,λ_ h=>absurd h hb⟩
  ·have:i=t.length:=by omega
   subst this;exact ⟨t.length,by simp [zbj.l1,grd],by simp,yk _,λh=>absurd h (by omega),λh=>by simp at h⟩) n a ⟨a,rfl,ha⟩ (by simp;omega)
 grind [zbj]
theorem zi6 {n} {t:List UInt8} {a} (ha:a≤t.length) (hl:t.length<1000000) (hn:1000000≤n):∃ v:Nat,zbm n t a=some (v:Int)∧a+v≤t.length:=by
 unfold zbm;simp only [zgd,ya];generalize hL:([[61,61],[33,61],[60,61],[62,61],[46,46],[60],[62],[61],[43],[45],[42],[40],[41],[123],[125],[44],[58],[59]]:List (List UInt8))=L;have hLl:L.length=18:=by rw [← hL];rfl
 have hL2:∀ x∈L,x.length≤2:=by rw [← hL];decide
 refine zdF (body:=zbm.l1 n t a L) (λs:Int=>18 - s.toNat) (λs=>∃ i:Nat,s=i∧i≤18) (λs o=>∃ v:Nat,o=some (v:Int)∧a+v≤t.length) (λr s hI hr=>?_) n 0 ⟨0,rfl,by omega⟩ (by grind);obtain ⟨i,rfl,hi⟩:=hI;by_cases hlt:i<L.length
 ·have h2:=hL2 _ (ym hlt);simp only [zbm.l1,zw hlt,if_true,zb hlt,ya,yo,yi,yy,zd (i:=i) (by omega),zea (show a+L[i].length<9223372036854775808 by omega)];by_cases hle:a+L[i].length≤t.length
  ·simp only [zgH (l:=t) (a:=a) (b:=a+L[i].length) (by omega) hle,yo,yy,grd,if_true];split
   ·grind
   ·exact hr _ ⟨i+1,rfl,by omega⟩ (by grind)
  ·have hd:decide (((a+L[i].length:Nat):Int)≤(t.length:Int))=false:=by simp;omega
   simp only [hd,uE,uC,grd,if_true,uh,ye,if_false];exact hr _ ⟨i+1,rfl,by omega⟩ (by simp only [yz];omega)
 grind [zbm.l1]
theorem zjU {n} {L} {w} (hl:L.length<1000000) (hn:1000000≤n):zcT n L w=some (decide (w∈L)):=by
 have:=zM (body:=zcT.l1 n L w) (len:=L.length) (st:=λi=>i) (g:=λi=>some (decide (w∈L.drop i))) (λa i b c=>?_) (λa=>?_) n 0 (yp _) (by omega)
 ·grind [zcT]
 ·simp only [zcT.l1,zb b,zd (i:=i) (by omega)];rw [zo b]
  grind
 ·simp [zcT.l1]
theorem zha {n}:zfx n=some kwL:=rfl
theorem zkt {n} {t:List UInt8} {a} (ha:a<t.length) (hb:zdx (t[a].toNat:Nat)=true) (hl:t.length<1000000) (hn:1000000≤n) :
  ∃ (k:Int) (e:Nat),zau n t a=some (k,(e:Int))∧a<e∧e≤t.length∧(zbV (t[a].toNat:Nat)=true→e=a+runP zvf (t.drop a))∧(k=1↔zbV (t[a].toNat:Nat)=true∧(t.drop a).take (e - a)∉kwL):=by
 unfold zau;simp only [zdi ha,ya,zge,zfm];by_cases hlet:zbV ((t[a].toNat:Nat):Int)=true
 ·rw [if_pos hlet];have hlp:zbV (t[a].toNat:Nat)=true:=hlet;have hrun1:1≤runP zvf (t.drop a):=by
   rw [zo ha,runP,if_pos (by grind [zvf])];omega
  have hle:=zlZ zvf (t.drop a);simp only [ua] at hle;have:=zbn (body:=zau.l1 n t a) (len:=t.length) (st:=λ(_:Unit) i=>(i:Int)) (g:=λi _=>some (if decide ((t.drop a).take (i+runP zvf (t.drop i) - a)∈kwL)=true then (2,((i+runP zvf (t.drop i):Nat):Int)) else (1,((i+runP zvf (t.drop i):Nat):Int)))) (λi _=>a≤i) (λrec i _ hi hai hr=>?_) (λrec _ hai=>?_) n a () (by omega) (by omega) (yk _)
  ·rw [this];refine ⟨if decide ((t.drop a).take (a+runP zvf (t.drop a) - a)∈kwL)=true then 2 else 1,a+runP zvf (t.drop a),?_,by omega,by omega,λ_=>rfl,?_⟩
   ·grind
   grind
  ·have hr:=hr () (by omega);have hle':=zlZ zvf (t.drop i);simp only [ua] at hle';simp only [zau.l1,zw hi,zdi hi,zge,zfm,yo,yy,grd,if_true,yi,yE,zd (i:=i) (by omega),hr];rw [zo hi,runP];have hpe:(zbV ((t[i].toNat:Nat):Int)||zkh ((t[i].toNat:Nat):Int)||((t[i].toNat:Nat):Int)==95)=zvf ((t[i].toNat:Nat):Int):=rfl;rw [hpe];by_cases hp:zvf (t[i].toNat:Nat)=true
   ·rw [if_pos hp,if_pos hp,show i+(runP zvf (t.drop (i+1))+1)=i+1+runP zvf (t.drop (i+1)) by omega]
   ·rw [if_neg hp,if_neg hp];simp only [ut,zha,ya,zgH hai (Nat.le_of_lt hi)];rw [zjU (by decide) hn,ya];cases decide ((t.drop a).take (i - a)∈kwL) <;> rfl
  ·simp only [zau.l1,zaw,uE,uC,grd,if_true,uh,ye,if_false,zha,ya,zgH hai (yk _)];rw [zjU (by decide) hn,ya];simp only [List.drop_length,runP,ut];cases decide ((t.drop a).take (t.length - a)∈kwL) <;> rfl
 ·rw [if_neg hlet];have hlp:zbV (t[a].toNat:Nat)=false:=by simpa using hlet
  simp only [hlp,ye,false_implies,false_and,iff_false,true_and];by_cases hdig:zkh ((t[a].toNat:Nat):Int)=true
  ·rw [if_pos hdig];have:=zdF (body:=zau.l2 n t) (λs:Int=>t.length - s.toNat) (λs=>∃ i:Nat,s=i∧i≤t.length) (λs o=>∃ e:Nat,o=some (3,(e:Int))∧s.toNat≤e∧e≤t.length∧∀ h:s.toNat<t.length,zkh (t[s.toNat].toNat:Nat)=true→s.toNat<e) (λr s hI hr=>by
    obtain ⟨i,rfl,hi⟩:=hI;by_cases hlt:i<t.length
    ·simp only [zau.l2,zw hlt,zdi hlt,zfm,yo,yy,grd,if_true,yi,yE,zd (i:=i) (by omega),yz];split
     ·obtain ⟨e,e1,e2,e3,-⟩:=hr ((i+1:Nat):Int) ⟨_,rfl,by omega⟩ (by simp only [yz];omega);simp only [yz] at e2;exact ⟨e,e1,by omega,e3,λ_ _=>by omega⟩
     ·rename_i hno;exact ⟨i,rfl,yk _,hi,λ_ h=>absurd h hno⟩
    ·have:i=t.length:=by omega
     subst this;exact ⟨t.length,by simp [zau.l2,grd],by simp,yk _,λh=>by simp at h⟩) n a ⟨a,rfl,Nat.le_of_lt ha⟩ (by simp;omega)
   obtain ⟨e,e1,-,e3,e4⟩:=this;exact ⟨3,e,e1,e4 ha hdig,e3,by decide⟩
  ·rw [if_neg hdig];obtain ⟨v,hv,hv2⟩:=zi6 (n:=n) (t:=t) (a:=a) (Nat.le_of_lt ha) hl hn;rw [hv,ya];by_cases hv0:0<v
   ·rw [if_pos (by simpa using hv0),zea (by omega)];exact ⟨4,a+v,rfl,by omega,hv2,by decide⟩
   ·have hv0:v=0:=by omega
    subst hv0;rw [if_neg (by simp)];have:=zdF (body:=zau.l3 n t) (λs:Int=>t.length - s.toNat) (λs=>∃ i:Nat,s=i∧i≤t.length) (λs o=>∃ e:Nat,o=some (5,(e:Int))∧s.toNat≤e∧e≤t.length∧(s=a→a<e)) (λr s hI hr=>by
     obtain ⟨i,rfl,hi⟩:=hI;by_cases hlt:i<t.length
     ·obtain ⟨u,hu,-⟩:=zi6 (n:=n) (t:=t) (a:=i) hi hl hn;simp only [zau.l3,zw hlt,zdi hlt,zaR,zge,zfm,hu,yo,yy,grd,if_true,yi,yE,zd (i:=i) (by omega),yz];split
      ·obtain ⟨e,e1,e2,e3,-⟩:=hr ((i+1:Nat):Int) ⟨_,rfl,by omega⟩ (by simp only [yz];omega);simp only [yz] at e2;exact ⟨e,e1,by omega,e3,λh=>by omega⟩
      ·rename_i hno;refine ⟨i,rfl,yk _,hi,λh=>?_⟩;have hia:i=a:=by omega
       subst hia;exfalso;apply hno;rw [hv] at hu;simp only [yj,Int.natCast_inj] at hu;subst hu;simp only [zdx,yB,uc,uq] at hb;simp only [yd,bne_iff_ne,ne_eq,yB,uc,uq];simp only [yO] at hlet hdig;exact ⟨⟨⟨⟨by omega,by omega⟩,hlet⟩,hdig⟩,by simp⟩
     ·have:i=t.length:=by omega
      subst this;exact ⟨t.length,by simp [zau.l3,grd],by simp,yk _,λh=>by omega⟩) n a ⟨a,rfl,Nat.le_of_lt ha⟩ (by simp;omega)
    obtain ⟨e,e1,-,e3,e4⟩:=this;exact ⟨5,e,e1,e4 rfl,e3,by decide⟩
theorem zp {α} {b} {xs ys:List α} (h:(xs.length+ys.length)*b≤140737488355328):Go.Proofs.YtipkniadbkndfaaGreatDoor.app b xs ys=some (xs++ys):=by
 unfold Go.Proofs.YtipkniadbkndfaaGreatDoor.app;grind
theorem zlX {n} {t} (hl:t.length<1000000) (hn:1000000≤n):∀ (m) (b) (a:Nat),a≤t.length→b.length≤a→t.length - a<m→∃ r,r≠[]∧ztO (zc5.l1 n t) m (b,(a:Int))=some (b++r,0)
 | 0,_,_,_,_,h=>by omega
 | m+1,b,a,g,j,h=>by
  obtain ⟨k,e,l,o,d,-⟩:=zio (n:=n) g hl hn;simp only [ztO,zc5.l1,e,ya];by_cases c:k<t.length
  ·obtain ⟨q,z,f,p,i,-,-⟩:=zkt (n:=n) c (d c) hl hn;simp only [f,ya];rw [zp (by grind),ya];obtain ⟨r,-,s⟩:=zlX hl hn m (b++[(⟨q,a,k,z⟩)]) z i (by grind) (by omega)
   grind
  ·rw [zhL (by omega),if_neg (by simp),zp (by grind),ya]
   grind
theorem zpk {n} {w} (hl:w.length≤4096) (hn:1000000≤n):∃ k,zhw n w=some k∧(k=1↔zxo w=true∧w∉kwL):=by
 unfold zhw zc5;rw [if_neg (by grind),zgU (by omega)];obtain ⟨k,e,-,k2,k3,k4⟩:=zio (n:=n) (t:=w) (a:=0) (by omega) (by omega) hn;simp only [Int.natCast_zero] at e;simp only [zc5.l1,e,ya];by_cases hlt:k<w.length
 ·obtain ⟨q,z,hz,z1,z2,z3,z4⟩:=zkt (n:=n) hlt (k3 hlt) (by omega) hn;simp only [zw hlt,if_true,hz,ya,yU];rw [zp (by simp),ya];obtain ⟨r,r0,hr⟩:=zlX (n:=n) (t:=w) (by omega) hn (n - 1) [(⟨q,0,(k:Int),(z:Int)⟩:Token)] z z2 (by grind) (by omega);simp only [yU];rw [hr];have h0:idx ([(⟨q,0,(k:Int),(z:Int)⟩:Token)]++r) 0=some ⟨q,0,(k:Int),(z:Int)⟩:=by simp [idx]
  simp only [ya,h0,yo,yy,grd,if_true,yi];rw [zj6 w (by omega)];have hw0:k=0→z=w.length→(zbV (w[k].toNat:Nat)=true∧(w.drop k).take (z - k)∉kwL↔(zbV (w[0].toNat:Nat)&&decide (runP zvf w=w.length))=true∧w∉kwL):=by
   grind
  by_cases hc:((((((0:Int) != 0)||((([(⟨q,0,(k:Int),(z:Int)⟩:Token)]++r).length:Int) != 2))||((k:Int) != 0))||((z:Int) != (w.length:Int))))=true
  ·rw [if_pos hc];refine ⟨0,rfl,?_⟩;constructor
   ·grind
   ·rintro ⟨h1,h2⟩;exfalso;simp only [yd,yg] at h1;have hk0:k=0:=k4 (by omega) (zef h1.1);subst hk0;have hzw:=z3 h1.1;simp only [List.drop_zero] at hzw;have hzl:z=w.length:=by omega
    subst hzl;rw [zgU (by omega)] at hr;obtain ⟨k',e',p1,p2,-,-⟩:=zio (n:=n) (t:=w) (a:=w.length) (yk _) (by omega) hn;have:k'=w.length:=by omega
    subst this;simp only [zc5.l1,e',ya,zaw,ye,if_false] at hr;rw [zp (by simp),ya] at hr;simp only [yj,yv,and_true,List.append_cancel_left_eq] at hr;subst hr;simp at hc
  grind
 ·rw [zhL (by omega),if_neg (by simp),zp (by simp),ya];simp only [yU,ya];refine ⟨0,by simp [grd,idx],?_⟩;constructor
  ·intro h;exact absurd h (by decide)
  ·rintro ⟨h1,-⟩;exfalso;cases w with
   | nil=>simp [zxo] at h1
   | cons x l=>
    simp only [zxo,yd] at h1;have:=k4 (by simp) (zef h1.1);simp at hlt;omega
theorem zi2 {n} {w} (hl:w.length≤4096) (hn:1000000≤n):zfN n w=some (zwp w):=by
 unfold zfN zwp;obtain ⟨k,c,a⟩:=zpk (n:=n) hl hn;have b:decide ((w.length:Int)≤16)=decide (w.length≤16):=decide_eq_decide.2 (by omega)
 grind
theorem zv5.getS {m:GMap (List UInt8) Bool} {l:List (List UInt8)} (h:zv5 m l) (k:List UInt8):(m.get? k).getD false=decide (k∈l):=(h.get k).trans (decide_eq_decide.2 Iff.rfl)
def zvI:List (List UInt8)→List (List UInt8)→Bool
 | _,[]=>true
 | seen,s::l=>zwp s&&!decide (s∈seen)&&zvI (seen++[s]) l
theorem zfL {n} {l:List (List UInt8)} (hF:Fuel n) (hl:l.length<1000000):zap n l=some (zvI [] l):=by
 have hn:=hF.big;have:=zbn (body:=zap.l1 n l) (len:=l.length) (st:=λm i=>(m,(i:Int))) (g:=λi _=>some (zvI (l.take i) (l.drop i))) (λi m=>zv5 m (l.take i)) (λrec i m hi hm hr=>?_) (λrec m _=>?_) n 0 (GMap.empty) (yp _) (by omega) (by simpa using zv5.empty)
 ·simpa [zap] using this
 ·simp only [zap.l1,zw hi,if_true,zb hi,ya,ziP hF,hm.getS,zd (i:=i) (by omega)];rw [hr _ (by rw [yA hi];exact hm.put _),zo hi,zvI,yA hi];cases zwp l[i] <;> cases hd:decide (l[i]∈l.take i) <;> simp
 ·simp [zap.l1,zvI]
theorem zfO {n} {l:List (List UInt8)} (hn:1000000≤n) (hl:l.length<1000000) (hw:∀ w∈l,w.length≤4096):za0 n l=some (zvI [] l):=by
 have:=zM (body:=za0.l1 n l) (len:=l.length) (st:=λi=>(i:Int)) (g:=λi=>some (zvI (l.take i) (l.drop i))) (λrec i hi hr=>?_) (λrec=>?_) n 0 (yp _) (by omega)
 ·simpa [za0] using this
 ·have hc:=zgH (l:=l) (a:=0) (b:=i) (by omega) (Nat.le_of_lt hi)
  simp only [Int.natCast_zero,List.drop_zero,Nat.sub_zero] at hc;simp only [za0.l1,zw hi,if_true,zb hi,ya,zi2 (hw _ (ym hi)) hn,hc,yo,yi,yy,grd,zjU (show (l.take i).length<1000000 by simp;omega) hn,zd (i:=i) (by omega),hr];rw [zo hi,zvI,yA hi];cases zwp l[i] <;> cases hd:decide (l[i]∈l.take i) <;> simp
 ·simp [za0.l1,zvI]
theorem zqM {n l v} (hl:l.length<1000000) (hn:1000000≤n):z9 n l v=some (ixP (λx=>v==x) l 0):=by
 have:=zM (body:=z9.l1 n l v) (len:=l.length) (st:=λi=>(i:Int)) (g:=λi=>some (ixP (λx=>v==x) (l.drop i) i)) (λrec i hi hr=>?_) (λrec=>?_) n 0 (yp _) (by omega)
 ·simpa [z9] using this
 ·simp only [z9.l1,zw hi,if_true,zb hi,ya,zd (i:=i) (by omega),hr];rw [zo hi];simp only [ixP];split <;> rfl
 ·simp [z9.l1,ixP]
theorem zkd {n l} (hl:l.length<1000000) (hn:1000000≤n):zgA n l=some (l.all id):=by
 unfold zgA zbX;rw [zqM hl hn];simp only [ya,zgO,yj];rw [← zm8];congr 2;funext x;cases x <;> rfl
def b6:Nat→Int→Int
 | 0,A=>A
 | k+1,A=>b6 k (A*6)
theorem b6_le:∀ (k:Nat) (A:Int),1≤A→A≤b6 k A
 | 0,_,_=>Int.le_refl _
 | k+1,A,h=>Int.le_trans (by omega) (b6_le k (A*6) (by omega))
theorem zrs {a b A:Int} (h1:1≤a) (h2:a≤A) (h3:1≤b) (h4:b≤6):1≤a*b∧a*b≤A*6:=by
 have e1:1*1≤a*b:=Int.mul_le_mul h1 h3 (by omega) (by omega);have e2:a*b≤A*6:=Int.mul_le_mul h2 h4 (by omega) (by omega);omega
theorem zoX (sizes:List Int) (hs:sizes.all zcx=true):∀ (cols:List Int) (s A:Int),cols.all (zuK sizes)=true→1≤s→s≤A→b6 cols.length A≤1000000→1≤zar sizes cols s∧zar sizes cols s≤b6 cols.length A
 | [],s,A,_,h1,h2,_=>by simpa [zar,b6] using ⟨h1,h2⟩
 | c::l,s,A,hc,h1,h2,h3=>by
  simp only [uj,yd] at hc;have hcol:=hc.1;simp only [zuK,yd,yg] at hcol;obtain ⟨k,rfl⟩:=yW hcol.1;have hk:k<sizes.length:=by omega
  have hz:=yq.1 hs _ (ym hk);simp only [zcx,yd,yg] at hz;have hg:sizes.getD (k:Int).toNat 0=sizes[k]:=by simp [List.getD,hk]
  have hm:=zrs h1 h2 hz.1 hz.2;simp only [yR,b6] at h3 ⊢;have hb:=b6_le l.length (A*6) (by omega);simp only [zar,hg];unfold ztZ;rw [zaK (by omega) (by omega)];exact zoX sizes hs l _ _ hc.2 hm.1 hm.2 h3
theorem zhl {sizes cols} (hs:sizes.all zcx=true) (hc:cols.all (zuK sizes)=true) (h3:cols.length≤3):1≤zar sizes cols 1∧zar sizes cols 1≤216:=by
 have h:b6 cols.length 1≤216:=by
  match cols,h3 with
  | [],_=>decide
  | [_],_=>simp [b6]
  | [_,_],_=>simp [b6]
  | [_,_,_],_=>simp [b6]
  | _::_::_::_::_,h=>simp at h
 have:=zoX sizes hs cols 1 1 hc (by decide) (by decide) (by omega);omega
def zb9 (k:Int):Bool:=k==0||k==1
def zg4 (t:Table):Bool:=if (t.kind==1||t.kind==4||t.kind==5)=true then (decide (t.range.lo≤t.range.hi)&&decide (-9999≤t.range.lo))&&decide (t.range.hi≤9999) else decide (t.range=(⟨0,1⟩:Range))
def tabP (sizes:List Int) (t:Table):Bool:=zwp t.name&&(decide (0≤t.kind)&&decide (t.kind≤5))&&(decide (t.ztK.length≤3)&&t.ztK.all (zuK sizes))&&zg4 t
def layP (sizes:List Int):List (List UInt8)→Int→Int→List Table→Bool
 | _,a,b,[]=>decide (a≤128)&&decide (b≤64)
 | seen,a,b,t::l=>(tabP sizes t&&!decide (t.name∈seen))&&(if zb9 t.kind=true then t.first==a&&layP sizes (seen++[t.name]) (ztJ a (zar sizes t.ztK 1)) b l else t.first==b&&layP sizes (seen++[t.name]) a (ztJ b (zar sizes t.ztK 1)) l)
def zbv (sizes:List Int) (tables:List Table):Bool:=decide (sizes.length≤4)&&decide (tables.length≤12)&&sizes.all zcx&&layP sizes [] 0 0 tables
theorem zlb {n t}:zfc n t=some (zg4 t):=by
 unfold zfc zg4 jn;by_cases h1:t.kind=1
 ·simp [h1]
 ·by_cases h4:t.kind=4
  ·simp [h4]
  ·by_cases h5:t.kind=5
   ·simp [h5]
   ·simp [h1,h4,h5]
theorem zft {n sizes tables} (hF:Fuel n) (hs:sizes.length≤1000) (ht:tables.length≤1000) (hc:∀ t∈tables,t.ztK.length≤1000):zbN n sizes tables=some (zbv sizes tables):=by
 have hn:=hF.big;unfold zbN zbv;rw [zmf (by omega) (by omega),ya,zkd (by simp) (by omega),ya];simp only [uj,List.all_nil,id,ul];have e1:decide ((sizes.length:Int)≤4)=decide (sizes.length≤4):=decide_eq_decide.2 (by omega);have e2:decide ((tables.length:Int)≤12)=decide (tables.length≤12):=decide_eq_decide.2 (by omega);rw [e1,e2,← Bool.and_assoc];by_cases h:(decide (sizes.length≤4)&&decide (tables.length≤12)&&sizes.all zcx)=true
 ·rw [h,if_neg (by simp),yE];have:=zbn (body:=zbN.l1 n sizes tables) (len:=tables.length) (st:=λ(s:GMap (List UInt8) Bool×Int×Int) i=>(s.1,s.2.1,s.2.2,(i:Int))) (g:=λi s=>some (layP sizes ((tables.take i).map (·.name)) s.2.1 s.2.2 (tables.drop i))) (λi s=>zv5 s.1 ((tables.take i).map (·.name))) (λrec i s hi hm hr=>?_) (λrec s _=>?_) n 0 (GMap.empty,0,0) (yp _) (by omega) (by simpa using zv5.empty)
  ·simpa using this
  ·obtain ⟨m,a,b⟩:=s;simp only [] at hm;have hmem:=ym hi;have hcols:=hc _ hmem;simp only [zbN.l1,jn,zw hi,if_true,zb hi,ya,ziP hF,hm.getS,zeb,zjt (show tables[i].ztK.length<4611686018427387904 by omega) (show tables[i].ztK.length<n by omega),zlb,zb6,zd (i:=i) (by omega)];rw [zkd (by simp) (by omega),ya];simp only [uj,List.all_nil,id,ul];have hput:=hm.put tables[i].name;have htk:((tables.take (i+1)).map (·.name))=(tables.take i).map (·.name)++[tables[i].name]:=by rw [yA hi,uw];rfl
   rw [← htk] at hput;have hT:(zwp tables[i].name&&(!decide (tables[i].name∈(tables.take i).map (·.name))&&(decide (0≤tables[i].kind)&&decide (tables[i].kind≤5)&&(decide (tables[i].ztK.length≤3)&&tables[i].ztK.all (zuK sizes)&&zg4 tables[i]))))=(tabP sizes tables[i]&&!decide (tables[i].name∈(tables.take i).map (·.name))):=by
    unfold tabP;cases zwp tables[i].name <;> cases decide (tables[i].name∈(tables.take i).map (·.name)) <;> simp [Bool.and_assoc]
   rw [hT,zo hi,layP];by_cases hv:(tabP sizes tables[i]&&!decide (tables[i].name∈(tables.take i).map (·.name)))=true
   ·rw [hv,if_neg (by simp),yE];have hcol:tables[i].ztK.all (zuK sizes)=true:=by
     simp only [tabP,yd] at hv;exact hv.1.1.2.2
    simp only [zfv hcol (show tables[i].ztK.length<4611686018427387904 by omega) (show tables[i].ztK.length<n by omega),ya,← htk];unfold zb9;by_cases hk:(tables[i].kind==0||tables[i].kind==1)=true
    ·rw [if_pos hk,if_pos hk];by_cases hf:tables[i].first=a
     ·rw [if_neg (by simp [hf]),hr (m.put tables[i].name true,ztJ a (zar sizes tables[i].ztK 1),b) hput];simp [hf]
     ·rw [if_pos (by simp [hf])];simp [hf]
    ·rw [if_neg hk,if_neg hk];by_cases hf:tables[i].first=b
     ·rw [if_neg (by simp [hf]),hr (m.put tables[i].name true,a,ztJ b (zar sizes tables[i].ztK 1)) hput];simp [hf]
     ·rw [if_pos (by simp [hf])];simp [hf]
   ·simp only [yO] at hv;rw [hv,if_pos (by simp),uh]
  ·simp [zbN.l1,layP]
 ·simp only [yO] at h;rw [h,if_pos (by simp),uh]
theorem zfy {n sizes tables} (hn:1000000≤n) (hs:sizes.length≤1000) (ht:tables.length≤1000) (hc:∀ t∈tables,t.ztK.length≤1000∧t.name.length≤4096):zaB n sizes tables=some (zbv sizes tables):=by
 unfold zaB zbv;have e1:decide (4<(sizes.length:Int)) = !decide (sizes.length≤4):=by grind
 have e2:decide (12<(tables.length:Int)) = !decide (tables.length≤12):=by grind
 rw [zhU (by omega) (by omega),e1,e2];simp only [yo,yy,grd,if_true,yi];by_cases h:(decide (sizes.length≤4)&&decide (tables.length≤12)&&sizes.all zcx)=true
 ·rw [h,yE];simp only [yd] at h;obtain ⟨⟨h1,h2⟩,h3⟩:=h;rw [h1,h2,h3,if_neg (by simp)];have:=zbn (body:=zaB.l1 n sizes tables) (len:=tables.length) (st:=λ(s:Int×Int) i=>(s.1,s.2,(i:Int))) (g:=λi s=>some (layP sizes ((tables.take i).map (·.name)) s.1 s.2 (tables.drop i))) (λ_ _=>True) (λrec i s hi _ hr=>?_) (λrec s _=>?_) n 0 (0,0) (yp _) (by omega) trivial
  ·grind
  ·obtain ⟨a,b⟩:=s;have hmem:=ym hi;obtain ⟨hcols,hname⟩:=hc _ hmem;simp only [zaB.l1,jn,zw hi,if_true,zb hi,ya];generalize hK:(λ(v:Int×Int)=>rec (v.1,v.2,ztJ (i:Int) 1))=K;have inner:=zM (body:=zaB.l2 n sizes tables a b i K tables[i]) (len:=i) (st:=λk=>(k:Int)) (g:=λk=>if decide (tables[i].name∈((tables.take i).drop k).map (·.name))=true then some false else zaB.l2 n sizes tables a b i K tables[i] (λ_=>none) (i:Int)) (λrec' k hk hr'=>?_) (λrec'=>?_) n 0 (yp _) (by omega)
   ·rw [show ((0:Nat):Int)=0 from rfl] at inner;rw [inner,zo hi,layP,List.drop_zero];have htk:((tables.take (i+1)).map (·.name))=(tables.take i).map (·.name)++[tables[i].name]:=by grind [List.take_succ_eq_append_getElem]
    cases hseen:decide (tables[i].name∈(tables.take i).map (·.name)) with
    | true=>simp
    | false=>
     simp only [ye,if_false,uE,ul];have hnum:=ze4 (n:=n) (sizes:=sizes) (cols:=tables[i].ztK) (by omega) (by omega) (by omega) (by omega);rw [h3,ul] at hnum;simp only [zaB.l2,zhL (yk i),ye,if_false,hnum,ya,zi2 hname hn,zb4];unfold tabP;by_cases hcol:(decide (tables[i].ztK.length≤3)&&tables[i].ztK.all (zuK sizes))=true
     ·simp only [hcol,if_true,ul];have hcol':=hcol;simp only [yd,yg] at hcol';have hw:=zhl h3 hcol'.2 hcol'.1;have hw0:(zar sizes tables[i].ztK 1==0)=false:=by simp;omega
      rw [hw0,Bool.or_false];by_cases hnk:(zwp tables[i].name&&(decide (0≤tables[i].kind)&&decide (tables[i].kind≤5)))=true
      ·rw [hnk,yE];simp only [yd,yg] at hnk;rw [if_neg (by simp [hnk.1];omega)];by_cases hrg:zg4 tables[i]=true
       ·rw [hrg,yE];unfold zg4 at hrg;rw [if_neg (by
         split at hrg
         ·simp only [yd,yg] at hrg;simp only [yK,yg];omega
         ·simp only [yg] at hrg;rw [hrg];decide),if_neg (by
         split at hrg
         ·rename_i hk;simp only [yK,beq_iff_eq] at hk;simp only [yd,yK,beq_iff_eq];omega
         ·simp only [yg] at hrg;rw [hrg];simp)]
        unfold zb9;by_cases hk:(tables[i].kind==0||tables[i].kind==1)=true
        ·rw [if_pos hk,if_pos hk];by_cases hf:tables[i].first=a
         ·rw [if_neg (by simp [hf]),← hK];simp only [zd (i:=i) (by omega)];have:=hr (ztJ a (zar sizes tables[i].ztK 1),b) trivial;simp only [] at this;rw [this,htk];simp [hf]
         ·rw [if_pos (by simp [hf])];simp [hf]
        ·rw [if_neg hk,if_neg hk];by_cases hf:tables[i].first=b
         ·rw [if_neg (by simp [hf]),← hK];simp only [zd (i:=i) (by omega)];have:=hr (a,ztJ b (zar sizes tables[i].ztK 1)) trivial;simp only [] at this;rw [this,htk];simp [hf]
         ·rw [if_pos (by simp [hf])];simp [hf]
       ·simp only [yO] at hrg;rw [hrg,uh];unfold zg4 at hrg;split at hrg
        ·rename_i hk;rw [if_pos (by
          simp only [uy,yH] at hrg;simp only [yK,yg];omega)]
        ·rename_i hk;simp only [yK,beq_iff_eq,not_or] at hk;have hr01:¬ (tables[i].range.lo=0∧tables[i].range.hi=1):=by
          rintro ⟨q1,q2⟩;simp only [yH] at hrg;apply hrg;cases hrr:tables[i].range;rw [hrr] at q1 q2;simp only [] at q1 q2;rw [q1,q2]
         split
         ·rfl
         ·rw [if_pos (by
           simp only [yd,yK,beq_iff_eq,bne_iff_ne,ne_eq];omega)]
      ·simp only [yO] at hnk;rw [hnk,uh,uh];rw [if_pos (by
        simp only [uy,yH] at hnk;simp only [yK,yB,yg];rcases hnk with h | h | h
        ·exact .inl (.inl h)
        ·exact .inl (.inr (by omega))
        ·exact .inr (by omega))]
     ·simp only [yO] at hcol;simp only [hcol,Bool.and_false,uh,ye,if_false];rw [if_pos (by simp)]
   ·have hk':k<tables.length:=by omega
    simp only [zaB.l2,zlB hk,if_true,zb hk',ya,zd (i:=k) (by omega),hr'];have hk2:k<(tables.take i).length:=by simp;omega
    rw [zo hk2];simp only [List.getElem_take,yV,yI];by_cases hnm:tables[k].name=tables[i].name
    ·rw [if_pos (by simpa using hnm),if_pos (by simp [hnm])]
    ·rw [if_neg (by simpa using hnm)];have hnm':¬ tables[i].name=tables[k].name:=λe=>hnm e.symm
     simp only [hnm',false_or]
   ·rw [if_neg (by simp)];simp only [zaB.l2,zhL (yk i),ye,if_false]
  ·simp [zaB.l1,layP]
 grind
def zW (sizes:List Int) (s:Bool):List Table→List Range
 | []=>[]
 | t::l=>if (zb9 t.kind==s)=true then List.replicate (zar sizes t.ztK 1).toNat t.range++zW sizes s l else zW sizes s l
theorem ziL {sizes}:∀ {l} {seen} {a b},layP sizes seen a b l=true→∀ t∈l,tabP sizes t=true
 | [],_,_,_,_,_,c=>by grind
 | x::l,seen,a,b,h,t,c=>by
  simp only [layP,yd] at h;simp only [yI] at c;rcases c with rfl | c
  ·grind
  ·have d:=h.2;split at d
   ·simp only [yd] at d;exact ziL d.2 t c
   ·simp only [yd] at d;exact ziL d.2 t c
theorem zb7 {sizes tables} (h:zbv sizes tables=true):sizes.length≤4∧tables.length≤12∧sizes.all zcx=true∧∀ t∈tables,zwp t.name=true∧(0≤t.kind∧t.kind≤5)∧t.ztK.length≤3∧t.ztK.all (zuK sizes)=true∧1≤zar sizes t.ztK 1∧zar sizes t.ztK 1≤216:=by
 simp only [zbv,yd,yg] at h;obtain ⟨⟨⟨c,d⟩,b⟩,e⟩:=h;refine ⟨c,d,b,λt f=>?_⟩;have:=ziL e t f;simp only [tabP,yd,yg] at this;obtain ⟨⟨⟨g,i⟩,a⟩,-⟩:=this;exact ⟨g,i,a.1,a.2,zhl b a.2 a.1⟩
theorem zd0 {sizes s}:∀ {l},(∀ t∈l,1≤zar sizes t.ztK 1∧zar sizes t.ztK 1≤216)→(zW sizes s l).length≤l.length*216
 | [],_=>by simp [zW]
 | t::l,h=>by
  have b:=zd0 (s:=s) (l:=l) λx a=>h x (by simp [a])
  grind [zW]
theorem ztg {n}:∀ w:Fin 217,zeE n 1 ((w.1:Nat):Int)=some (0,((w.1:Nat):Int)):=by
 intro w;unfold zeE zeV;revert w;decide +kernel
theorem zqh:∀ w:Fin 217,wk .u64 ((w.1:Nat):Int)=((w.1:Nat):Int)∧wk .i64 ((w.1:Nat):Int)=((w.1:Nat):Int):=by decide +kernel
theorem zqQ {n x w} (h1:1≤w) (h2:w≤216) (hn:1000000≤n):zN n [x] w=some (List.replicate w.toNat x):=by
 obtain ⟨W,rfl⟩:=yW (show 0≤w by omega);have hW:W<217:=by omega
 have hwk:=zqh ⟨W,hW⟩;simp only [] at hwk;have h1k:wk .u64 (([x]:List Range).length:Int)=1:=(zqh ⟨1,by decide⟩).1;unfold zN;rw [if_neg (by simp),h1k,hwk.1,ztg ⟨W,hW⟩];simp only [ya];rw [if_neg (by grind),hwk.2];have hm:mkl 16 (W:Int) (⟨0,0⟩:Range)=some (List.replicate W ⟨0,0⟩):=by
  unfold mkl;grind
 rw [hm,ya];simp only [uz,uA,Nat.sub_zero,yz];rw [show min W 1=1 by omega];refine zdF (body:=zN.l1 n) (λs=>W - s.2.toNat) (λs=>∃ k:Nat,s.2=(k:Int)∧1≤k∧k≤W∧s.1.length=W∧s.1.take k=List.replicate k x) (λ_ o=>o=some (List.replicate W x)) (λrec s hI hr=>?_) n _ ⟨1,rfl,by omega,by omega,?_,?_⟩ (by simp;omega)
 ·obtain ⟨b,kk⟩:=s;obtain ⟨k,rfl,k1,k2,hb,hk⟩:=hI;simp only [] at hb hk;simp only [zN.l1];by_cases hlt:k<W
  ·have hcE:cut b (k:Int) (W:Int)=some (b.drop k):=by grind [zjy]
   have hc:=zgH (l:=b) (a:=0) (b:=k) (by omega) (by omega)
   simp only [Int.natCast_zero] at hc;simp only [hb,zlB hlt,if_true,hcE,hc,ya,yz,List.drop_zero,Nat.sub_zero,hk,uz];rw [zea (by omega)];refine hr (_,((k+min (W - k) k:Nat):Int)) ⟨k+min (W - k) k,rfl,by omega,by omega,?_,?_⟩ (by grind)
   ·simp only [];rw [zdC (by omega) (by omega),hb]
   ·simp only [zfe,hk,List.take_replicate,uz];rw [show min (W - k) k=min (W - k) k from rfl,← yM,List.replicate_append_replicate];rw [List.take_append_of_le_length (by simp)];simp
  grind
 ·rw [zdC (by omega) (by simp)];simp
 grind [zfe,List.take_append,List.take_of_length_le,min]
theorem zhS (sizes s):∀ (l m),zW sizes s (l++m)=zW sizes s l++zW sizes s m
 | [],_=>rfl
 | t::l,m=>by
  simp only [ug,zW,zhS sizes s l m]
  grind
theorem zg5 {sizes} {s} {l:List Table} {i} (hi):zW sizes s (l.take (i+1))=if (zb9 l[i].kind==s)=true then zW sizes s (l.take i)++List.replicate (zar sizes l[i].ztK 1).toNat l[i].range else zW sizes s (l.take i):=by
 grind [List.take_succ_eq_append_getElem,zhS,zW]
theorem zgy {n} {sizes} {tables} {s} (hF:Fuel n) (hs:sizes.length≤1000) (ht:tables.length≤1000) (hc:∀ t∈tables,t.ztK.length≤1000) :
  zbE n sizes tables s=some (if zbv sizes tables=true then zW sizes s tables else []):=by
 have o:=hF.big;unfold zbE;rw [zft hF hs ht hc,ya];cases f:zbv sizes tables with
 | false=>simp
 | true=>
  obtain ⟨p,k,m,e⟩:=zb7 f;have:=zM (body:=zbE.l1 n sizes tables s) (len:=tables.length) (st:=λi=>(zW sizes s (tables.take i),(i:Int))) (g:=λ_=>some (zW sizes s tables)) (λa i c b=>?_) (λa=>?_) n 0 (yp _) (by omega)
  ·grind [zW]
  ·have d:=zd0 (sizes:=sizes) (s:=s) (l:=tables.take i) λx h=>(e x (List.mem_of_mem_take h)).2.2.2.2
   rw [zg5 c] at b;simp only [zbE.l1,jn,zb c,ya,zb6,zd (i:=i) (by omega)];unfold zb9 at b;by_cases j:((tables[i].kind==0||tables[i].kind==1)==s)=true
   ·grind [zfv,zqQ,zp]
   grind
  ·simp [zbE.l1]
theorem ze3 {n} {sizes} {tables} {s} (hn:1000000≤n) (hs:sizes.length≤1000) (ht:tables.length≤1000) (hc:∀ t∈tables,t.ztK.length≤1000∧t.name.length≤4096) :
  zaH n sizes tables s=some (if zbv sizes tables=true then zW sizes s tables else []):=by
 unfold zaH;rw [zfy hn hs ht hc,ya];cases hL:zbv sizes tables with
 | false=>simp
 | true=>
  obtain ⟨l1,l2,l3,l4⟩:=zb7 hL;have:=zM (body:=zaH.l1 n sizes tables s) (len:=tables.length) (st:=λi=>(zW sizes s (tables.take i),(i:Int))) (g:=λ_=>some (zW sizes s tables)) (λrec i hi hr=>?_) (λrec=>?_) n 0 (yp _) (by omega)
  ·grind [zW]
  ·obtain ⟨-,-,c1,c2,c3,c4⟩:=l4 _ (ym hi);have hlen:=zd0 (sizes:=sizes) (s:=s) (l:=tables.take i) λx hx=>(l4 x (List.mem_of_mem_take hx)).2.2.2.2
   simp only [ub] at hlen;rw [zg5 hi] at hr;simp only [zaH.l1,zw hi,if_true];obtain ⟨W,hW⟩:=yW (show 0≤zar sizes tables[i].ztK 1 by omega);have hnum:=ze4 (n:=n) (sizes:=sizes) (cols:=tables[i].ztK) (by omega) (by omega) (by omega) (by omega);simp only [l3,c2,c1,decide_true,ul,if_true] at hnum;have inner:=zM (body:=zaH.l2 n sizes tables s i rec) (len:=if (zb9 tables[i].kind==s)=true then W else 0) (st:=λk=>(zW sizes s (tables.take i)++List.replicate k tables[i].range,(k:Int))) (g:=λ_=>some (zW sizes s tables)) (λrec' k hk hr'=>?_) (λrec'=>?_) n 0 (yp _) (by grind)
   ·grind
   ·split at hk
    ·rename_i hst;simp only [zb9] at hst;simp only [zaH.l2,zb hi,ya,zb4,hst,yo,yy,grd,if_true,yi,hnum,yE,hW,zlB hk,zd (i:=k) (by omega)];rw [zp (by simp only [yQ,uz,uA];omega),ya,yM,← List.replicate_succ',hr']
    ·omega
   ·by_cases hst:((tables[i].kind==0||tables[i].kind==1)==s)=true
    ·have hst':(zb9 tables[i].kind==s)=true:=hst;rw [if_pos hst'] at hr ⊢;simp only [zaH.l2,zb hi,ya,zb4,hst,yo,yy,grd,if_true,yi,hnum,yE,hW,zhL (yk W),ye,if_false,zd (i:=i) (by omega)];rw [hW] at hr;simpa using hr
    ·have hst':¬ (zb9 tables[i].kind==s)=true:=hst;rw [if_neg hst'] at hr ⊢;simp only [yO] at hst;simp only [zaH.l2,zb hi,ya,zb4,hst,uE,uC,grd,if_true,uh,ye,if_false,zd (i:=i) (by omega)];simpa using hr
  ·simp [zaH.l1]
def zbW (p:Int→Bool) (i:Nat):Nat→List Int
 | 0=>[]
 | m+1=>if p (i:Int)=true then (i:Int)::zbW p (i+1) m else zbW p (i+1) m
theorem zij (p):∀ (m i:Nat),(zbW p i m).length≤m
 | 0,_=>yk _
 | m+1,i=>by
  simp only [zbW];split
  ·simp only [yR];exact Nat.succ_le_succ (zij p m (i+1))
  ·exact Nat.le_succ_of_le (zij p m (i+1))
theorem zkq (p):∀ (m i:Nat),zbW p i (m+1)=if p ((i+m:Nat):Int)=true then zbW p i m++[((i+m:Nat):Int)] else zbW p i m
 | 0,i=>by simp [zbW]
 | m+1,i=>by
  have ih:=zkq p m (i+1);have e:i+1+m=i+(m+1):=by omega
  rw [e] at ih;rw [zbW,ih]
  conv=>rhs;simp only [zbW]
  split <;> split <;> simp
def zeA (l:List Change) (c:Constraint) (k:Int):Bool:=decide (0<zB l (ztJ c.first k))
theorem zdk {n:Nat} {a c} {K:Nat} (hK:ztZ c.size c.size=(K:Int)) (h1:a.effect.delta.length<4611686018427387904) (h2:a.effect.delta.length<n) (h3:K<17592186044416) (h4:K<n) :
  zz n a c=some (zbW (zeA a.effect.delta c) 0 K):=by
 have:=zM (body:=zz.l1 n a c) (len:=K) (st:=λi=>(zbW (zeA a.effect.delta c) 0 i,(i:Int))) (g:=λ_=>some (zbW (zeA a.effect.delta c) 0 K)) (λrec i hi hr=>?_) (λrec=>?_) n 0 (yp _) (by omega)
 ·simpa [zz,zbW] using this
 ·rw [zkq] at hr;have hlen:=zij (zeA a.effect.delta c) i 0;have hd:decide ((i:Int)<ztZ c.size c.size)=true:=by rw [hK];simp;omega
  have happ:Go.Proofs.YtipkniadbkndfaaGreatDoor.app 8 (zbW (zeA a.effect.delta c) 0 i) [(i:Int)]=some (zbW (zeA a.effect.delta c) 0 i++[(i:Int)]):=by
   unfold Go.Proofs.YtipkniadbkndfaaGreatDoor.app;rw [if_pos (by simp only [uA];omega)]
  simp only [zz.l1,hd,if_true,jn,zah _ h1 h2,ya,zd (i:=i) (by omega),happ];simp only [uk] at hr;by_cases hp:zeA a.effect.delta c (i:Int)=true
  ·rw [if_pos hp] at hr;unfold zeA at hp;rw [if_pos hp,hr]
  ·rw [if_neg hp] at hr;unfold zeA at hp;rw [if_neg hp,hr]
 ·have hd:decide ((K:Int)<ztZ c.size c.size)=false:=by rw [hK];simp
  simp [zz.l1,hd]
theorem zlW {n:Nat} {e c} {K:Nat} (hK:ztZ c.size c.size=(K:Int)) (h1:e.delta.length<4611686018427387904) (h2:e.delta.length<n) (h3:K<17592186044416) (h4:K<n)
  (hadd:∀ k,addP k e.delta 0=zB e.delta k):zbI n e c=some (decide (0<(zbW (zeA e.delta c) 0 K).length)):=by
 have:=zM (body:=zbI.l1 n e c) (len:=K) (st:=λi=>(i:Int)) (g:=λi=>some (decide (0<(zbW (zeA e.delta c) i (K - i)).length))) (λrec i hi hr=>?_) (λrec=>?_) n 0 (yp _) (by omega)
 ·simpa [zbI] using this
 ·have hd:decide ((i:Int)<ztZ c.size c.size)=true:=by rw [hK];simp;omega
  simp only [zbI.l1,hd,if_true,zfl _ h1 h2,ya,zd (i:=i) (by omega),hadd,hr];rw [show K - i=(K - (i+1))+1 by omega,zbW];by_cases hp:zeA e.delta c (i:Int)=true
  ·rw [if_pos hp];unfold zeA at hp;rw [if_pos hp];simp
  ·rw [if_neg hp];unfold zeA at hp;rw [if_neg hp]
 ·have hd:decide ((K:Int)<ztZ c.size c.size)=false:=by rw [hK];simp
  simp [zbI.l1,hd,zbW]
structure Good (n:Nat) (m:Model):Prop where
 acts:∀ a∈m.ztL,a.effect.delta.length<4611686018427387904∧a.effect.delta.length<n∧(∀ k,addP k a.effect.delta 0=zB a.effect.delta k)∧∀ r∈a.effect.hold,r.ztP.length<4611686018427387904∧r.ztP.length<n
 cons:∀ c∈m.constraints,(c.kind=0∨c.kind=1)∧c.row.ztP.length<4611686018427387904∧c.row.ztP.length<n∧∃ K:Nat,ztZ c.size c.size=(K:Int)∧K<17592186044416∧K<n
theorem ziz {f g} (h:∀ k,f k=g k):∀ (l:List Term) (s:Int),zcq f l s=zcq g l s
 | [],_=>rfl
 | t::l,s=>by simp only [zcq,h];exact ziz h l _
theorem zbb {α:Type} {l:List α} {i:Int} {x:α} (h:idx l i=some x):x∈l:=by
 obtain ⟨n,rfl,hn,rfl⟩:=idxS h;exact ym hn
theorem za7 {α:Type} {l:List α} {i:Int} (h0:0≤i) (h1:i<(l.length:Int)):∃ x,idx l i=some x:=by
 obtain ⟨n,rfl⟩:=yW h0;exact ⟨_,zb (by omega)⟩
def allR (p:Nat→Bool) (i:Nat):Nat→Bool
 | 0=>true
 | k+1=>p i&&allR p (i+1) k
theorem zkU {p}:∀ {k i},allR p i k=true↔∀ j,i≤j→j<i+k→p j=true
 | 0,i=>by grind [allR]
 | k+1,i=>by
  simp only [allR,yd,zkU (k:=k) (i:=i+1)]
  grind
theorem zj9 {p k}:allR p 0 k=true↔∀ j,j<k→p j=true:=by
 grind [zkU]
theorem zgV {S R} {body} {len n} {st:Nat→S} (p) (F T:Option R)
  (hb:∀ rec i,i<len→body rec (st i)=if p i=true then rec (st (i+1)) else F) (he:∀ rec,body rec (st len)=T) (hn:len<n):ztO body n (st 0)=if allR p 0 len=true then T else F:=by
 have:=zM (body:=body) (len:=len) (st:=st) (g:=λi=>if allR p i (len - i)=true then T else F) (λrec i b a=>?_) (λrec=>?_) n 0 (yp _) (by omega)
 ·grind
 ·rw [hb rec i b,show len - i=(len - (i+1))+1 by omega,allR,a]
  grind
 grind [allR]
theorem zeq {n l f p} (hf:∀ x∈l,f x=some (p x)) (hl:l.length<1000000) (hn:1000000≤n):zy n l f=some (ixP p l 0):=by
 have:=zM (body:=zy.l1 n l f) (len:=l.length) (st:=λi=>i) (g:=λi=>some (ixP p (l.drop i) i)) (λa i b c=>?_) (λa=>?_) n 0 (yp _) (by omega)
 ·grind [zy]
 ·simp only [zy.l1,zb b,zd (i:=i) (by omega)]
  grind [zo,ixP]
 ·simp [zy.l1,ixP]
theorem zdP {n l f p} (hf:∀ x∈l,f x=some (p x)) (hl:l.length<1000000) (hn:1000000≤n):zT n l f=some (l.any p):=by
 unfold zT;rw [zeq hf hl hn,ya,zgO]
theorem zfs {n l f p} (hf:∀ x∈l,f x=some (p x)) (hl:l.length<1000000) (hn:1000000≤n):zm n l f=some (ixP p l 0):=by
 have:=zM (body:=zm.l1 n l f) (len:=l.length) (st:=λi=>i) (g:=λi=>some (ixP p (l.drop i) i)) (λa i b c=>?_) (λa=>?_) n 0 (yp _) (by omega)
 ·grind [zm]
 ·simp only [zm.l1,zb b,zd (i:=i) (by omega)]
  grind [zo,ixP]
 ·simp [zm.l1,ixP]
theorem zcG {n l f p} (hf:∀ x∈l,f x=some (p x)) (hl:l.length<1000000) (hn:1000000≤n):zk n l f=some (l.any p):=by
 unfold zk;rw [zfs hf hl hn,ya,zgO]
theorem zeM {n l f p} (hf:∀ x∈l,f x=some (p x)) (hl:l.length<1000000) (hn:1000000≤n):zF n l f=some (ixP p l 0):=by
 have:=zM (body:=zF.l1 n l f) (len:=l.length) (st:=λi=>i) (g:=λi=>some (ixP p (l.drop i) i)) (λa i b c=>?_) (λa=>?_) n 0 (yp _) (by omega)
 ·grind [zF]
 ·simp only [zF.l1,zb b,zd (i:=i) (by omega)]
  grind [zo,ixP]
 ·simp [zF.l1,ixP]
theorem zd9 {n l f p} (hf:∀ x∈l,f x=some (p x)) (hl:l.length<1000000) (hn:1000000≤n):zay n l f=some (l.any p):=by
 unfold zay;rw [zeM hf hl hn,ya,zgO]
def zaQ (x most:Int):Bool:=decide (-most≤x)&&decide (x≤most)
theorem around3 {n x}:zaA n x 1000=some (zaQ x 1000):=rfl
theorem zx1 {n x}:zaA n x 1000000000=some (zaQ x 1000000000):=rfl
theorem around4 {n x}:zaA n x 9999=some (zaQ x 9999):=rfl
theorem between3 {n x}:zaP n x 1000=some (zaQ x 1000):=rfl
theorem zxE {n x}:zaP n x 1000000000=some (zaQ x 1000000000):=rfl
theorem between4 {n x}:zaP n x 9999=some (zaQ x 9999):=rfl
def rowP (K:Nat):Int→List Term→Bool
 | _,[]=>true
 | last,t::l=>(decide (last<t.cell)&&decide (t.cell<(K:Int))&&(t.ztV != 0)&&zaQ t.ztV 1000)&&rowP K t.cell l
def zuI (K:Nat) (r:Row):Bool:=rowP K (-1) r.ztP&&zaQ r.bound 1000000000
theorem zgh {i:Nat} (h0:0<i) (h:i<4611686018427387904):zt2 (i:Int) 1=((i - 1:Nat):Int):=by
 grind [zt2,zaK]
theorem zko {n} {j} {r} (hl:r.ztP.length<1000000) (hn:1000000≤n):zax n j r=some (zuI j.strict.length r):=by
 have:=zbn (body:=zax.l1 n j r) (len:=r.ztP.length) (st:=λs i=>(s,i)) (g:=λi s=>some (rowP j.strict.length s (r.ztP.drop i)&&zaQ r.bound 1000000000)) (λ_ _=>True) (λa i s b _ c=>?_) (λa s _=>?_) n 0 (-1) (yp _) (by omega) trivial
 ·grind [zax,zuI]
 ·simp only [zax.l1,zb b,around3,grd,zd (i:=i) (by omega)];rw [zo b,rowP]
  grind
 ·simp [zax.l1,zx1,rowP]
theorem zmT {n K:Nat} {r} (hl:r.ztP.length<1000000) (hn:1000000≤n):zcW n r (K:Int)=some (zuI K r):=by
 have:=zbn (body:=zcW.l1 n r K) (len:=r.ztP.length) (st:=λ(_) i=>i) (g:=λi s=>some (rowP K s (r.ztP.drop i)&&zaQ r.bound 1000000000)) (λi s=>-1≤s∧((i=0∧s = -1)∨(0<i∧∃ x,idx r.ztP (zt2 i 1)=some x∧x.cell=s))) (λb i s c e d=>?_) (λb s _=>?_) n 0 (-1) (yp _) (by omega) ⟨by omega,.inl ⟨rfl,rfl⟩⟩
 ·grind [zcW,zuI]
 ·have a:(decide (0<i)&&decide (r.ztP[i].cell≤((idx r.ztP (zt2 i 1)).getD default).cell))=(decide (0<i)&&decide (r.ztP[i].cell≤s))∧(!(decide (0<(i:Int)))||(idx r.ztP (zt2 i 1)).isSome)=true:=by
   grind
  simp only [zcW.l1,zw c,if_true,zb c,ya,between3,yo,yy,grd,a.2,zd (i:=i) (by omega)];rw [zo c,rowP];by_cases h:(decide (s<r.ztP[i].cell)&&decide (r.ztP[i].cell<K)&&(r.ztP[i].ztV != 0)&&zaQ r.ztP[i].ztV 1000)=true
  ·rw [h,yE];simp only [yd,yg] at h;rw [if_neg (by grind),d r.ztP[i].cell ⟨by omega,.inr ⟨by omega,r.ztP[i],by
    grind [zgh,zb],rfl⟩⟩]
  grind
 ·simp [zcW.l1,zxE,rowP]
def ziI (ztR:List Int) (c:Constraint) (t:Table):Bool:=(t.kind==0&&((t.ztK.length:Int)==2))&&(((idx t.ztK 0).getD default==(idx t.ztK 1).getD default)&&t.first==c.first&&((idx ztR ((idx t.ztK 0).getD default)).getD default==c.size))
def zhN (m:Model) (c:Constraint):Bool:=(((c.row.ztP.length:Int)==0)&&(c.row.bound==0))&&m.tables.any (ziI m.ztR c)
theorem zhq {ztR} {t:Table} (hc:t.ztK.all (zuK ztR)=true) (h2:(t.ztK.length:Int)=2):(∃ x,idx t.ztK 0=some x)∧(∃ x,idx t.ztK 1=some x)∧∃ x,idx ztR ((idx t.ztK 0).getD default)=some x:=by
 obtain ⟨x,b⟩:=za7 (l:=t.ztK) (i:=0) (by omega) (by omega);obtain ⟨y,a⟩:=za7 (l:=t.ztK) (i:=1) (by omega) (by omega)
 grind [zf6,zbb]
theorem zqu {n} {j} {c t} (hc:t.ztK.all (zuK j.model.ztR)=true):zbp n t c j=some (ziI j.model.ztR c t):=by
 unfold zbp ziI;by_cases b:(t.kind==0&&((t.ztK.length:Int)==2))=true
 ·have a:=b;simp only [yd,beq_iff_eq] at a;obtain ⟨⟨x,e⟩,⟨y,f⟩,z,d⟩:=zhq hc a.2
  grind [grd]
 ·grind [grd]
theorem zml {n} {j} {c} (hc:∀ t∈j.model.tables,t.ztK.all (zuK j.model.ztR)=true) (hl:j.model.tables.length<1000000) (hn:1000000≤n):zbM n j c=some (zhN j.model c):=by
 unfold zbM zhN;rw [zdP (p:=ziI j.model.ztR c) (λt a=>zqu (hc t a)) hl hn];simp [grd]
theorem zoA {n m c} (hc:∀ t∈m.tables,t.ztK.all (zuK m.ztR)=true) (hl:m.tables.length<1000000) (hn:1000000≤n):zct n m c=some (zhN m c):=by
 unfold zct zhN;by_cases h:(((c.row.ztP.length:Int)==0)&&(c.row.bound==0))=true
 ·rw [h,yE];simp only [yd,beq_iff_eq] at h;rw [if_neg (by grind)];have:=zM (body:=zct.l1 n m c) (len:=m.tables.length) (st:=λi=>(i:Int)) (g:=λi=>some ((m.tables.drop i).any (ziI m.ztR c))) (λrec i hi hr=>?_) (λrec=>?_) n 0 (yp _) (by omega)
  ·grind
  ·simp only [zct.l1,zw hi,if_true,zb hi,ya,zd (i:=i) (by omega),hr];rw [zo hi,uQ];have hcol:=hc _ (ym hi);by_cases h2:(m.tables[i].kind==0&&((m.tables[i].ztK.length:Int)==2))=true
   ·have h2':=h2;simp only [yd,beq_iff_eq] at h2';obtain ⟨⟨x,hx⟩,⟨y,hy⟩,z,hz⟩:=zhq hcol h2'.2;rw [hx] at hz;simp only [yi] at hz;simp only [h2,hx,hy,hz,grd,yo,yy,if_true,yi,yE,ziI]
    grind
   ·simp only [yO] at h2;simp [h2,grd,ziI]
  ·simp [zct.l1]
 grind
theorem znT {n a b} (hl:a.length<1000000) (hn:1000000≤n):zS n a b=some (decide (a=b)):=by
 unfold zS;by_cases h:a.length=b.length
 ·have:=zM (body:=zS.l1 n a b) (len:=a.length) (st:=λi=>i) (g:=λi=>some (decide (a.drop i=b.drop i))) (λd i f j=>?_) (λd=>?_) n 0 (yp _) (by omega)
  ·grind
  ·have c:i<b.length:=by omega
   simp only [zS.l1,zw f,if_true,zb f,zb c,ya,zd (i:=i) (by omega),j];rw [zo f,zo c];by_cases e:a[i]=b[i]
   ·simp only [e,decide_true,ui,ye,if_false,List.cons.injEq,true_and]
   ·simp only [e,decide_false,uE,if_true,List.cons.injEq,false_and]
  grind [zS.l1]
 ·have:¬ a=b:=λe=>h (by rw [e])
  grind
theorem znX {n a b} (hl:a.length<1000000) (hn:1000000≤n):zbe n a b=some (decide (a=b)):=by
 unfold zbe;by_cases h:a.length=b.length
 ·have:=zM (body:=zbe.l1 n a b) (len:=a.length) (st:=λi=>i) (g:=λi=>some (decide (a.drop i=b.drop i))) (λd i f j=>?_) (λd=>?_) n 0 (yp _) (by omega)
  ·grind
  ·have c:i<b.length:=by omega
   simp only [zbe.l1,zw f,if_true,zb f,zb c,ya,zd (i:=i) (by omega),j];rw [zo f,zo c];by_cases e:a[i]=b[i]
   ·simp only [e,decide_true,ui,ye,if_false,List.cons.injEq,true_and]
   ·simp only [e,decide_false,uE,if_true,List.cons.injEq,false_and]
  grind [zbe.l1]
 ·have:¬ a=b:=λe=>h (by rw [e])
  grind
theorem zrM {n r c f b} (hl:r.ztP.length<1000000) (hn:1000000≤n):zds n r c f b=some (decide (r=(⟨[⟨c,f⟩],b⟩:Row))):=by
 unfold zds;rw [znT hl hn,ya];congr 1;rw [Bool.eq_iff_iff];cases r;simp
theorem zmy {n a b} (hl:a.ztP.length<1000000) (hn:1000000≤n):zdI n a b=some (decide (a=b)):=by
 unfold zdI;rw [znX hl hn];simp only [yo,yy,grd,if_true];congr 1;cases a;cases b
 grind
end Go.Proofs.YtipkniadbkndfaaGreatDoor
