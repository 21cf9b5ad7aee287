/- The law holds for every input. No condition. -/
import Derived.Test.YtehefbidnkfciaaGreatDoorOr05
import Derived.Test.YtehefbidnkfciaaGreatDoorCards
import Derived.Test.YtehefbidnkfciaaGreatDoorTie
import Derived.JoinedCond
import Derived.Deep.DeepWitnessRowRef
import Derived.Lay
import Derived.ProofKit
set_option linter.unusedVariables false
set_option linter.unusedSectionVars false
set_option linter.unusedSimpArgs false
set_option maxHeartbeats 4000000
namespace Go.Proofs.YtehefbidnkfciaaGreatDoor
open Go Go.RowKit
def lensP (m:Model):Bool:=(((((((decide (8<(m.sorts.length:Int)))||(decide (6<(m.tables.length:Int))))||(decide (20<(m.families.length:Int))))||(decide (60<(m.constraints.length:Int))))||(decide (8<(m.operations.length:Int))))||(decide (30<(m.actions.length:Int))))||(decide (12<(m.hides.length:Int))))
def tabF (t:Table):Bool:=decide (t.name.length≤40)&&decide (t.columns.length≤12)
def opF (o:Operation):Bool:=decide (o.name.length≤40)&&decide (o.sorts.length≤6)
def actF (a:Action):Bool:=((decide (a.arguments.length≤6)&&decide (a.effect.delta.length≤20))&&(decide (a.effect.hold.length≤10)&&decide (a.effect.updates.length≤40)))&&a.effect.hold.all λr=>decide (r.terms.length≤20)
def boundedP (m:Model):Bool:=!lensP m&&(m.tables.all tabF&&(m.families.all (λs=>decide (s.length≤40))&&(m.constraints.all (λc=>decide (c.row.terms.length≤20))&&(m.operations.all opF&&m.actions.all actF))))
theorem not_lt_le {a b:Nat}:decide ((a:Int)<(b:Int)) = !decide (b≤a):=by rw [← decide_not];exact decide_eq_decide.2 (by omega)
theorem ref13_Bounded_eq {n:Nat} {m:Model} (hn:1000000≤n):ref13_Bounded n m=some (boundedP m):=by
 unfold ref13_Bounded boundedP;have hl:(((((((decide (8<(m.sorts.length:Int)))||(decide (6<(m.tables.length:Int))))||(decide (20<(m.families.length:Int))))||(decide (60<(m.constraints.length:Int))))||(decide (8<(m.operations.length:Int))))||(decide (30<(m.actions.length:Int))))||(decide (12<(m.hides.length:Int))))=lensP m:=rfl;rw [hl];cases hlen:lensP m with
 | true=>simp [grd]
 | false=>
  simp only [lensP,ud,yK] at hlen;obtain ⟨⟨⟨⟨⟨⟨b1,b2⟩,b3⟩,b4⟩,b5⟩,b6⟩,b7⟩:=hlen;have hfew:ref09_Few n m.sorts m.tables=some (m.tables.all tabF):=by
   have:=loopF_lall (body:=ref09_Few.l1 n m.sorts m.tables) (l:=m.tables) (n:=n) (st:=λi=>(i:Int)) tabF (some false) (some true) (λrec i hi=>?_) (λrec=>?_) (by omega)
   ·simp only [Int.natCast_zero] at this;unfold ref09_Few;rw [this];cases m.tables.all tabF <;> rfl
   ·simp only [ref09_Few.l1,lt_len hi,if_true,idx_nat hi,yb,yk,yy,grd,yi,add64_1 (i:=i) (by omega)];unfold tabF;by_cases h1:m.tables[i].name.length≤40
    ·by_cases h2:m.tables[i].columns.length≤12
     ·rw [if_neg (by simp;omega),if_pos (by simp [h1,h2])]
     ·rw [if_pos (by simp;omega),if_neg (by simp [h2])]
    ·rw [if_pos (by simp;omega),if_neg (by simp [h1])]
   ·simp [ref09_Few.l1];omega
  rw [hfew];simp only [yk,yy,grd,if_true,yi,uk,uz,yw];cases m.tables.all tabF with
  | false=>simp
  | true=>
   rw [if_neg (by simp),yw];have h4:loopF (ref13_Bounded.l4 n m) n 0=some (m.actions.all actF):=by
    have:=loopF_lall (body:=ref13_Bounded.l4 n m) (l:=m.actions) (n:=n) (st:=λi=>(i:Int)) actF (some false) (some true) (λrec i hi=>?_) (λrec=>?_) (by omega)
    ·simp only [Int.natCast_zero] at this;rw [this];cases m.actions.all actF <;> rfl
    ·simp only [ref13_Bounded.l4,lt_len hi,if_true,idx_nat hi,yb];unfold actF;by_cases hx:((decide (m.actions[i].arguments.length≤6)&&decide (m.actions[i].effect.delta.length≤20))&&(decide (m.actions[i].effect.hold.length≤10)&&decide (m.actions[i].effect.updates.length≤40)))=true
     ·rw [hx,yw];simp only [yc,yg] at hx;rw [if_neg (by simp;omega)];have:=loopF_lall (body:=ref13_Bounded.l5 n i rec m.actions[i]) (l:=m.actions[i].effect.hold) (n:=n) (st:=λk=>(k:Int)) (λr=>decide (r.terms.length≤20)) (some false) (rec ((i+1:Nat):Int)) (λrec' k hk=>?_) (λrec'=>?_) (by omega)
      ·simpa using this
      ·simp only [ref13_Bounded.l5,lt_len hk,if_true,idx_nat hk,yb,add64_1 (i:=k) (by omega)];by_cases h:m.actions[i].effect.hold[k].terms.length≤20
       ·rw [if_neg (by simp;omega),if_pos (by simp [h])]
       ·rw [if_pos (by simp;omega),if_neg (by simp [h])]
      ·simp only [ref13_Bounded.l5,ge_len,ym,if_false,add64_1 (i:=i) (by omega)]
     ·rw [if_pos (by
       simp only [yc,yg] at hx;simp only [yz,yg];omega)]
      simp only [yF] at hx;rw [hx,yZ,if_neg (by simp)]
    ·simp [ref13_Bounded.l4]
   have h3:loopF (ref13_Bounded.l3 n m) n 0=some (m.operations.all opF&&m.actions.all actF):=by
    have:=loopF_lall (body:=ref13_Bounded.l3 n m) (l:=m.operations) (n:=n) (st:=λi=>(i:Int)) opF (some false) (some (m.actions.all actF)) (λrec i hi=>?_) (λrec=>?_) (by omega)
    ·simp only [Int.natCast_zero] at this;rw [this];cases m.operations.all opF <;> rfl
    ·simp only [ref13_Bounded.l3,lt_len hi,if_true,idx_nat hi,yb,yk,yy,grd,yi,add64_1 (i:=i) (by omega)];unfold opF;by_cases h1:m.operations[i].name.length≤40
     ·by_cases h2:m.operations[i].sorts.length≤6
      ·rw [if_neg (by simp;omega),if_pos (by simp [h1,h2])]
      ·rw [if_pos (by simp;omega),if_neg (by simp [h2])]
     ·rw [if_pos (by simp;omega),if_neg (by simp [h1])]
    ·simp only [ref13_Bounded.l3,ge_len,ym,if_false,h4]
   have h2:loopF (ref13_Bounded.l2 n m) n 0=some (m.constraints.all (λc=>decide (c.row.terms.length≤20))&&(m.operations.all opF&&m.actions.all actF)):=by
    have:=loopF_lall (body:=ref13_Bounded.l2 n m) (l:=m.constraints) (n:=n) (st:=λi=>(i:Int)) (λc=>decide (c.row.terms.length≤20)) (some false) (some (m.operations.all opF&&m.actions.all actF)) (λrec i hi=>?_) (λrec=>?_) (by omega)
    ·simp only [Int.natCast_zero] at this;rw [this];cases m.constraints.all (λc=>decide (c.row.terms.length≤20)) <;> rfl
    ·simp only [ref13_Bounded.l2,lt_len hi,if_true,idx_nat hi,yb,add64_1 (i:=i) (by omega)];by_cases h:m.constraints[i].row.terms.length≤20
     ·rw [if_neg (by simp;omega),if_pos (by simp [h])]
     ·rw [if_pos (by simp;omega),if_neg (by simp [h])]
    ·simp only [ref13_Bounded.l2,ge_len,ym,if_false,h3]
   have:=loopF_lall (body:=ref13_Bounded.l1 n m) (l:=m.families) (n:=n) (st:=λi=>(i:Int)) (λs=>decide (s.length≤40)) (some false) (some (m.constraints.all (λc=>decide (c.row.terms.length≤20))&&(m.operations.all opF&&m.actions.all actF))) (λrec i hi=>?_) (λrec=>?_) (by omega)
   ·simp only [Int.natCast_zero] at this;rw [this];cases m.families.all (λs=>decide (s.length≤40)) <;> rfl
   ·simp only [ref13_Bounded.l1,lt_len hi,if_true,idx_nat hi,yb,add64_1 (i:=i) (by omega)];by_cases h:m.families[i].length≤40
    ·rw [if_neg (by simp;omega),if_pos (by simp [h])]
    ·rw [if_pos (by simp;omega),if_neg (by simp [h])]
   ·simp only [ref13_Bounded.l1,ge_len,ym,if_false,h2]
theorem boundedP_small {m:Model} (h:boundedP m=true):SmallM m:=by
 simp only [boundedP,lensP,tabF,opF,actF,yc,yG,ud,yK,yv,yg] at h;obtain ⟨⟨⟨⟨⟨⟨⟨b1,b2⟩,b3⟩,b4⟩,b5⟩,b6⟩,b7⟩,c1,c2,c3,c4,c5⟩:=h;exact ⟨by omega,by omega,c1,by omega,c2,by omega,c3,by omega,c4,by omega,λa ha=>by
  obtain ⟨⟨⟨p1,p2⟩,p3,p4⟩,p5⟩:=c5 a ha;exact ⟨p1,p2,p3,p4,p5⟩,by omega⟩
def prodP:Int→List Range→Bool
 | _,[]=>true
 | p,r::l=>!decide (4096<mul64 p (add64 (sub64 r.hi r.lo) 1))&&prodP (mul64 p (add64 (sub64 r.hi r.lo) 1)) l
def strictR (m:Model):List Range:=if layoutP m.sorts m.tables=true then rangesP m.sorts true m.tables else []
def fewP (m:Model):Bool:=((boundedP m&&decide (m.actions.length≤12))&&decide (m.constraints.length≤40))&&(m.actions.all (λa=>decide (a.effect.hold.length≤4))&&(decide ((strictR m).length≤12)&&prodP 1 (strictR m)))
theorem ref13_strict_eq {n:Nat} {m:Model} (hn:1000000≤n) (hS:SmallM m):ref13_strict n m=some (strictR m):=by
 have hs:=hS.sorts;have ht:=hS.tables;unfold ref13_strict;rw [ref09_Ranges_eq hn (by omega) (by omega) (λt h=>by have:=hS.tab t h;omega)];rfl
theorem strictR_len {m:Model} (hS:SmallM m):(strictR m).length≤2592:=by
 have ht:=hS.tables;unfold strictR;split
 ·rename_i hL;obtain ⟨l1,l2,l3,l4⟩:=layoutP_tab hL;have:=rangesP_len (sizes:=m.sorts) (s:=true) (l:=m.tables) λx hx=>(l4 x hx).2.2.2.2
  omega
 ·simp
theorem ref13_Few_eq {n:Nat} {m:Model} (hn:1000000≤n):ref13_Few n m=some (fewP m):=by
 unfold ref13_Few fewP;rw [ref13_Bounded_eq hn,yb];have e1:decide (12<(m.actions.length:Int)) = !decide (m.actions.length≤12):=not_lt_le (a:=12);have e2:decide (40<(m.constraints.length:Int)) = !decide (m.constraints.length≤40):=not_lt_le (a:=40);rw [e1,e2,← Bool.not_and,← Bool.not_and];cases hb:(boundedP m&&decide (m.actions.length≤12)&&decide (m.constraints.length≤40)) with
 | false=>simp
 | true=>
  simp only [yc,yg] at hb;have hS:=boundedP_small hb.1.1;have hsl:=strictR_len hS;have T:(if (decide (12<((strictR m).length:Int)))=true then some false else loopF (ref13_Few.l2 n (strictR m)) n (1,0))=some (decide ((strictR m).length≤12)&&prodP 1 (strictR m)):=by
   by_cases h:(strictR m).length≤12
   ·rw [if_neg (by simp;omega),decide_eq_true h,yw];refine loopF_I (body:=ref13_Few.l2 n (strictR m)) (len:=(strictR m).length) (st:=λ(p:Int) i=>(p,(i:Int))) (g:=λi p=>some (prodP p ((strictR m).drop i))) (λ_ _=>True) (λrec i p hi _ hr=>?_) (λrec p _=>?_) n 0 1 (yB _) (by omega) trivial
    ·simp only [ref13_Few.l2,lt_len hi,if_true,idx_nat hi,yb,add64_1 (i:=i) (by omega),hr _ trivial];rw [drop_cons hi,prodP];cases decide (4096<mul64 p (add64 (sub64 (strictR m)[i].hi (strictR m)[i].lo) 1)) <;> simp
    ·simp [ref13_Few.l2,prodP]
   ·rw [if_pos (by simp;omega),decide_eq_false h,yZ]
  have:=loopF_lall (body:=ref13_Few.l1 n m) (l:=m.actions) (n:=n) (st:=λi=>(i:Int)) (λa=>decide (a.effect.hold.length≤4)) (some false) (some (decide ((strictR m).length≤12)&&prodP 1 (strictR m))) (λrec i hi=>?_) (λrec=>?_) (by omega)
  ·simp only [Int.natCast_zero] at this;rw [if_neg (by simp),this];cases m.actions.all (λa=>decide (a.effect.hold.length≤4)) <;> simp
  ·simp only [ref13_Few.l1,lt_len hi,if_true,idx_nat hi,yb,add64_1 (i:=i) (by omega)];by_cases h:m.actions[i].effect.hold.length≤4
   ·rw [if_neg (by simp;omega),if_pos (by simp [h])]
   ·rw [if_pos (by simp;omega),if_neg (by simp [h])]
  ·simp only [ref13_Few.l1,ge_len,ym,if_false,ref13_strict_eq hn hS,yb,T]
theorem fewP_small {m:Model} (h:fewP m=true):SmallM m:=by
 simp only [fewP,yc] at h;exact boundedP_small h.1.1.1
structure ValidM (m:Model):Prop where
 lay:layoutP m.sorts m.tables=true
 fams:m.families.length≤24∧distP [] m.families=true
 cons:consP m (rangesP m.sorts true m.tables)=true
 ops:opsP m=true
 acts:actsP m (rangesP m.sorts true m.tables).length=true
 hid:hidesP m=true
theorem validP_iff {m}:validP m=true↔ValidM m:=by
 simp only [validP,yc,yg];exact ⟨λ⟨⟨a,b,c⟩,d,e,f,g⟩=>⟨a,⟨b,c⟩,d,e,f,g⟩,λ⟨a,⟨b,c⟩,d,e,f,g⟩=>⟨⟨a,b,c⟩,d,e,f,g⟩⟩
def stepT (s:Nat) (L:List (List Int)):List (List Int):=L.flatMap λl=>(List.range s).map λe:Nat=>l++[(e:Int)]
def tuplesF (sizes:List Int):List Int→List (List Int)→List (List Int)
 | [],L=>L
 | c::cols,L=>tuplesF sizes cols (stepT (sizeAt sizes c).toNat L)
def tuplesP (sizes cols:List Int):List (List Int):=tuplesF sizes cols [[]]
theorem tuplesF_append (sizes):∀ (a b:List Int) (L:List (List Int)),tuplesF sizes (a++b) L=tuplesF sizes b (tuplesF sizes a L)
 | [],_,_=>rfl
 | _::a,b,L=>by simp only [y9,tuplesF];exact tuplesF_append sizes a b _
theorem stepT_append (s A B):stepT s (A++B)=stepT s A++stepT s B:=by simp [stepT]
theorem stepT_len {s L}:(stepT s L).length=L.length*s:=by
 induction L with
 | nil=>simp [stepT]
 | cons l L ih=>
  have:stepT s (l::L)=stepT s [l]++stepT s L:=stepT_append s [l] L;rw [this,yX,ih];simp [stepT,ur,Nat.add_comm]
theorem stepT_mem {s L k} (h:∀ l∈L,l.length=k):∀ l∈stepT s L,l.length=k+1:=λl hl=>by
 simp only [stepT,List.mem_flatMap,yY] at hl;obtain ⟨x,hx,e,-,rfl⟩:=hl;simp [h x hx]
theorem stepT_snoc {s:Nat} {L:List (List Int)} {i:Nat} (hi:i<L.length):stepT s (L.take (i+1))=stepT s (L.take i)++(List.range s).map λe:Nat=>L[i]++[(e:Int)]:=by
 rw [yJ hi,stepT_append];congr 1;simp [stepT]
def placeP (i:Nat) (L:List (List Int)):List Place:=L.map λl=>⟨(i:Int),l⟩
def placesP (sizes:List Int) (s:Bool):List Table→Nat→List Place
 | [],_=>[]
 | t::l,i=>(if decide (t.kind≤1)=s then placeP i (tuplesP sizes t.columns) else [])++placesP sizes s l (i+1)
theorem placesP_append (sizes s):∀ (a b:List Table) (i:Nat),placesP sizes s (a++b) i=placesP sizes s a i++placesP sizes s b (i+a.length)
 | [],b,i=>by simp [placesP]
 | t::a,b,i=>by
  simp only [y9,placesP,placesP_append sizes s a b,yV,yU];rw [show i+1+a.length=i+(a.length+1) by omega]
theorem placesP_snoc {sizes:List Int} {s:Bool} {l:List Table} {i:Nat} (hi:i<l.length):placesP sizes s (l.take (i+1)) 0=placesP sizes s (l.take i) 0++(if decide (l[i].kind≤1)=s then placeP i (tuplesP sizes l[i].columns) else []):=by
 rw [yJ hi,placesP_append];congr 1;simp only [placesP,uw,yP,ui];rw [show min i l.length=i by omega]
theorem open_l4 {n:Nat} {x40:Int} {rec:((List (List Int))×Int)→Option ((Option Layout)×Bool)} {l:List Int} {s:Nat} {b:List (List Int)} {k:Nat} (hk:add64 x40 1=(k:Int)) (hs:s≤6) (hl:l.length≤100) (hb:b.length≤100000) (hn:1000000≤n) :
  loopF (symmetry_open.l4 n x40 rec l (s:Int)) n (b,0)=rec (b++(List.range s).map λe:Nat=>l++[(e:Int)],(k:Int)):=by
 have:=loopF_g (body:=symmetry_open.l4 n x40 rec l (s:Int)) (len:=s) (st:=λi=>(b++(List.range i).map λe:Nat=>l++[(e:Int)],(i:Int))) (g:=λ_=>rec (b++(List.range s).map λe:Nat=>l++[(e:Int)],(k:Int))) (λrec' i hi hr=>?_) (λrec'=>?_) n 0 (yB _) (by omega)
 ·simpa using this
 ·rw [List.range_succ,ub,← yU] at hr;simp only [symmetry_open.l4,lt_nat hi,if_true,add64_1 (i:=i) (by omega)];rw [app_some (by simp;omega),yb,app_some (by simp;omega),yb,app_some (by simp;omega),yb];exact hr
 ·simp only [symmetry_open.l4,ge_nat (yj s),ym,if_false,hk]
theorem open_l3 {n:Nat} {m} {L:List (List Int)} {x34 x36:Int} {rec:((List (List Int))×Int)→Option ((Option Layout)×Bool)} {s k:Nat} (hk:add64 x34 1=(k:Int)) (hx:idx m.sorts x36=some (s:Int)) (hs:s≤6) (hl:∀ l∈L,l.length≤100) (hL:L.length≤1000) (hn:1000000≤n) :
  loopF (symmetry_open.l3 n m L x34 rec x36) n ([],0)=rec (stepT s L,(k:Int)):=by
 have:=loopF_g (body:=symmetry_open.l3 n m L x34 rec x36) (len:=L.length) (st:=λi=>(stepT s (L.take i),(i:Int))) (g:=λ_=>rec (stepT s L,(k:Int))) (λrec' i hi hr=>?_) (λrec'=>?_) n 0 (yB _) (by omega)
 ·simpa [stepT] using this
 ·rw [stepT_snoc hi] at hr;simp only [symmetry_open.l3,lt_len hi,if_true,idx_nat hi,yb,hx];have hlen:(stepT s (L.take i)).length≤100000:=by
   rw [stepT_len,yP];have:min i L.length*s≤1000*6:=Nat.mul_le_mul (by omega) hs;omega
  rw [open_l4 (k:=i+1) (add64_1 (by omega)) hs (hl _ (yx hi)) hlen hn];exact hr
 ·simp only [symmetry_open.l3,ge_len,ym,if_false,hk,List.take_length]
theorem open_l5 {n:Nat} {i:Nat} {rec:((List Place)×(List Place)×Int)→Option ((Option Layout)×Bool)} {t:Table} {L:List (List Int)} {b1 b2:List Place} (hi:i<1000000) (hL:L.length≤1000) (h1:b1.length≤100000) (h2:b2.length≤100000) (hn:1000000≤n) :
  loopF (symmetry_open.l5 n (i:Int) rec t L) n (b1,b2,0)=rec (b1++(if decide (t.kind≤1)=true then placeP i L else []),b2++(if decide (t.kind≤1)=false then placeP i L else []),((i+1:Nat):Int)):=by
 cases hk:decide (t.kind≤1) with
 | true=>
  simp only [if_true,Bool.true_eq_false,if_false,uw];have:=loopF_g (body:=symmetry_open.l5 n (i:Int) rec t L) (len:=L.length) (st:=λk=>(b1++placeP i (L.take k),b2,(k:Int))) (g:=λ_=>rec (b1++placeP i L,b2,((i+1:Nat):Int))) (λrec' k hk' hr=>?_) (λrec'=>?_) n 0 (yB _) (by omega)
  ·simpa [placeP] using this
  ·simp only [placeP] at hr ⊢;rw [← map_take_snoc hk',← yU] at hr;simp only [symmetry_open.l5,jn,lt_len hk',if_true,idx_nat hk',yb,hk,add64_1 (i:=k) (by omega)];rw [app_some (by simp;omega),yb];exact hr
  ·simp only [symmetry_open.l5,ge_len,ym,if_false,List.take_length,add64_1 (i:=i) (by omega)]
 | false=>
  simp only [ym,if_true,if_false,uw];have:=loopF_g (body:=symmetry_open.l5 n (i:Int) rec t L) (len:=L.length) (st:=λk=>(b1,b2++placeP i (L.take k),(k:Int))) (g:=λ_=>rec (b1,b2++placeP i L,((i+1:Nat):Int))) (λrec' k hk' hr=>?_) (λrec'=>?_) n 0 (yB _) (by omega)
  ·simpa [placeP] using this
  ·simp only [placeP] at hr ⊢;rw [← map_take_snoc hk',← yU] at hr;simp only [symmetry_open.l5,jn,lt_len hk',if_true,idx_nat hk',yb,hk,ym,if_false,add64_1 (i:=k) (by omega)];rw [app_some (by simp;omega),yb];exact hr
  ·simp only [symmetry_open.l5,ge_len,ym,if_false,List.take_length,add64_1 (i:=i) (by omega)]
theorem tuplesF_bound {sizes} (hs:sizes.all sizeOK=true):∀ (cols:List Int) (L:List (List Int)) (A k:Nat),cols.all (colOK sizes)=true→L.length≤A→(∀ l∈L,l.length=k)→(tuplesF sizes cols L).length≤A*6 ^ cols.length∧∀ l∈tuplesF sizes cols L,l.length=k+cols.length
 | [],L,A,k,_,h1,h2=>by simpa [tuplesF] using ⟨h1,h2⟩
 | c::cols,L,A,k,hc,h1,h2=>by
  simp only [ul,yc] at hc;have hz:=sizeAt_ne hs hc.1;have hlen:(stepT (sizeAt sizes c).toNat L).length≤A*6:=by
   rw [stepT_len];exact Nat.mul_le_mul h1 (by omega)
  obtain ⟨p1,p2⟩:=tuplesF_bound hs cols (stepT (sizeAt sizes c).toNat L) (A*6) (k+1) hc.2 hlen (stepT_mem h2);simp only [tuplesF,yV];refine ⟨?_,λl hl=>?_⟩
  ·rw [Nat.pow_succ,Nat.mul_comm (6 ^ cols.length) 6,← Nat.mul_assoc];exact p1
  ·rw [p2 l hl];omega
theorem tuplesP_bound {sizes cols} (hs:sizes.all sizeOK=true) (hc:cols.all (colOK sizes)=true) (h3:cols.length≤3):(tuplesP sizes cols).length≤216∧∀ l∈tuplesP sizes cols,l.length=cols.length:=by
 obtain ⟨p1,p2⟩:=tuplesF_bound hs cols [[]] 1 0 hc (by simp) (by simp);refine ⟨uf p1 ?_,λl hl=>by simpa using p2 l hl⟩;have:6 ^ cols.length≤6 ^ 3:=Nat.pow_le_pow_right (by decide) h3;omega
theorem open_l2 {n:Nat} {m} {b1 b2:List Place} {i:Nat} {rec:((List Place)×(List Place)×Int)→Option ((Option Layout)×Bool)} {t:Table} (hs:m.sorts.all sizeOK=true) (hc:t.columns.all (colOK m.sorts)=true) (h3:t.columns.length≤3) (hi:i<1000000) (h1:b1.length≤100000) (h2:b2.length≤100000) (hn:1000000≤n) :
  loopF (symmetry_open.l2 n m b1 b2 (i:Int) rec t) n ([[]],0)=rec (b1++(if decide (t.kind≤1)=true then placeP i (tuplesP m.sorts t.columns) else []),b2++(if decide (t.kind≤1)=false then placeP i (tuplesP m.sorts t.columns) else []),((i+1:Nat):Int)):=by
 have hpre:∀ k,(t.columns.take k).all (colOK m.sorts)=true:=λk=>yv.2 λc hm=>yv.1 hc c (List.mem_of_mem_take hm)
 have:=loopF_g (body:=symmetry_open.l2 n m b1 b2 (i:Int) rec t) (len:=t.columns.length) (st:=λk=>(tuplesP m.sorts (t.columns.take k),(k:Int))) (g:=λ_=>rec (b1++(if decide (t.kind≤1)=true then placeP i (tuplesP m.sorts t.columns) else []),b2++(if decide (t.kind≤1)=false then placeP i (tuplesP m.sorts t.columns) else []),((i+1:Nat):Int))) (λrec' k hk hr=>?_) (λrec'=>?_) n 0 (yB _) (by omega)
 ·simpa [tuplesP,tuplesF] using this
 ·have hcol:=yv.1 hc _ (yx hk);have hz:=sizeAt_ne hs hcol;obtain ⟨p1,p2⟩:=tuplesP_bound hs (hpre k) (by simp;omega);have hsz:idx m.sorts t.columns[k]=some (((sizeAt m.sorts t.columns[k]).toNat:Nat):Int):=by
   rw [idx_col hcol];unfold sizeAt at hz ⊢;congr 1;omega
  simp only [symmetry_open.l2,lt_len hk,if_true,idx_nat hk,yb];rw [open_l3 (k:=k+1) (add64_1 (by omega)) hsz (by omega) (λl hl=>by rw [p2 l hl];simp;omega) (by omega) hn,← hr];congr 2;unfold tuplesP;rw [yJ hk,tuplesF_append];rfl
 ·obtain ⟨p1,-⟩:=tuplesP_bound hs hc h3;simp only [symmetry_open.l2,ge_len,ym,if_false,List.take_length];exact open_l5 hi (by omega) h1 h2 hn
theorem placesP_len {sizes s}:∀ {l:List Table} {i:Nat},(∀ t∈l,(tuplesP sizes t.columns).length≤216)→(placesP sizes s l i).length≤l.length*216
 | [],_,_=>by simp [placesP]
 | t::l,i,h=>by
  have ih:=placesP_len (s:=s) (l:=l) (i:=i+1) λx hx=>h x (by simp [hx])
  have ht:=h t (by simp);simp only [placesP,yX,yV];split
  ·simp only [placeP,yI];omega
  ·simp only [uB];omega
def layoutM (m:Model):Layout:=⟨m,placesP m.sorts true m.tables 0,placesP m.sorts false m.tables 0⟩
theorem symmetry_open_eq {n:Nat} {m} (hF:Fuel n) (hS:SmallM m):symmetry_open n m=some (if validP m=true then (some (layoutM m),true) else (none,false)):=by
 have hn:=hF.big;have htl:=hS.tables;unfold symmetry_open;rw [model_Valid_eq hF hS,yb];cases hv:validP m with
 | false=>simp
 | true=>
  have hV:=validP_iff.1 hv;obtain ⟨l1,l2,l3,l4⟩:=layoutP_tab hV.lay;have hb:∀ t∈m.tables,(tuplesP m.sorts t.columns).length≤216:=λt ht=>(tuplesP_bound l3 (l4 t ht).2.2.2.1 (l4 t ht).2.2.1).1
  rw [if_neg (by simp),if_pos rfl];have:=loopF_g (body:=symmetry_open.l1 n m) (len:=m.tables.length) (st:=λi=>(placesP m.sorts true (m.tables.take i) 0,placesP m.sorts false (m.tables.take i) 0,(i:Int))) (g:=λ_=>some (some (layoutM m),true)) (λrec i hi hr=>?_) (λrec=>?_) n 0 (yB _) (by omega)
  ·simpa [placesP] using this
  ·have hmem:=yx hi;obtain ⟨-,-,c1,c2,-⟩:=l4 _ hmem;have hA:=placesP_len (s:=true) (l:=m.tables.take i) (i:=0) λt ht=>hb t (List.mem_of_mem_take ht)
   have hB:=placesP_len (s:=false) (l:=m.tables.take i) (i:=0) λt ht=>hb t (List.mem_of_mem_take ht)
   simp only [yP] at hA hB;rw [placesP_snoc hi,placesP_snoc hi] at hr;simp only [symmetry_open.l1,lt_len hi,if_true,idx_nat hi,yb];rw [open_l2 l3 c2 c1 (by omega) (by omega) (by omega) (by omega)];exact hr
  ·simp [symmetry_open.l1,layoutM]
def questP (m:Model) (q:Question):Bool:=
 (((decide (0≤q.e)&&decide (q.e<(m.actions.length:Int)))&&(decide (0≤q.f)&&decide (q.f<(m.actions.length:Int))))&&decide (0≤q.target.index)) &&
 (if q.target.hold=true then decide (q.target.index<(((idx m.actions q.e).getD default).effect.hold.length:Int)) else decide (q.e≤q.f)&&decide (q.target.index<(m.constraints.length:Int)))
theorem quest_body {m q}:(if (((((decide (q.e<0))||(decide (q.f<0)))||(decide ((m.actions.length:Int)≤q.e)))||(decide ((m.actions.length:Int)≤q.f)))||(decide (q.target.index<0)))=true then some false
 else if q.target.hold=true then (idx m.actions q.e).bind λx=>some (decide (q.target.index<(x.effect.hold.length:Int))) else some ((decide (q.e≤q.f))&&(decide (q.target.index<(m.constraints.length:Int)))))=some (questP m q):=by
 unfold questP;by_cases h:((0≤q.e∧q.e<(m.actions.length:Int))∧(0≤q.f∧q.f<(m.actions.length:Int)))∧0≤q.target.index
 ·rw [if_neg (by simp;omega)];obtain ⟨a,ha⟩:=idx_some h.1.1.1 h.1.1.2;rw [ha];simp only [h,decide_true,Bool.and_self,yw,yb,yi];split <;> rfl
 ·rw [if_pos (by simp;omega)];have:(((decide (0≤q.e)&&decide (q.e<(m.actions.length:Int)))&&(decide (0≤q.f)&&decide (q.f<(m.actions.length:Int))))&&decide (0≤q.target.index))=false:=by
   rw [← yF];simp only [yc,yg];exact h
  rw [this,yZ]
theorem symmetry_Valid_eq {n m q} (hF:Fuel n) (hS:SmallM m):symmetry_Valid n m q=some (validP m&&questP m q):=by
 unfold symmetry_Valid;rw [symmetry_open_eq hF hS,yb];cases validP m with
 | false=>simp [grd]
 | true=>
  have:symmetry_layout_valid n (layoutM m) q=some (questP m q):=quest_body;simp [grd,this]
theorem ref16_Valid_eq {n m q} (hn:4294967296≤n) (hS:SmallM m):ref16_Valid n m q=some (validP m&&questP m q):=by
 unfold ref16_Valid;rw [ref13_Valid_eq hn hS,yb];cases validP m with
 | false=>simp
 | true=>
  simp only [ua,uk,yw];exact quest_body
theorem awake_spec:law16_awake 18446744073709551616=some true:=by decide +kernel
theorem keywords_spec:(lexer_keywords 18446744073709551616).map (λm=>m.es.map (λe=>e.2))=some (kwL.map λk=>(k,true)):=by decide +kernel
theorem fuel_N:Fuel 18446744073709551616:=by
 refine ⟨by decide,?_⟩;have h:=keywords_spec;cases hk:lexer_keywords 18446744073709551616 with
 | none=>rw [hk] at h;cases h
 | some m=>
  rw [hk] at h;simp only [yE,yf] at h;refine ⟨m,rfl,λe he=>?_,λk=>?_⟩
  ·have:e.2∈m.es.map (λe=>e.2):=List.mem_map_of_mem he;rw [h] at this;simp only [yY] at this;obtain ⟨x,-,hx⟩:=this;rw [← hx]
  ·have:m.es.map (λe=>e.2.1)=kwL:=by
    have e1:m.es.map (λe=>e.2.1)=(m.es.map (λe=>e.2)).map (·.1):=by rw [uy];rfl
    rw [e1,h,uy];exact List.map_id kwL
   rw [this]
theorem CompareI_eq {n:Nat} {a b:Int}:cmp_Compare_int n a b=some (if a<b then -1 else if b<a then 1 else 0):=by
 have hN:∀ x,cmp_isNaN_int n x=some false:=λx=>by simp [cmp_isNaN_int]
 unfold cmp_Compare_int
 simp only [hN,yb,ym,if_false,yg]
 split
 ·rfl
 ·split <;> rfl
theorem Or4_eq {n:Nat} (hn:10≤n) {a b c d:Int}:cmp_Or_int n [a,b,c,d]=some (if a≠0 then a else if b≠0 then b else if c≠0 then c else d):=by
 obtain ⟨k,rfl⟩:∃ k,n=k+5:=⟨n - 5,by omega⟩
 have e1:add64 0 1=1:=by decide
 have e2:add64 1 1=2:=by decide
 have e3:add64 2 1=3:=by decide
 have e4:add64 3 1=4:=by decide
 simp only [cmp_Or_int,loopF,cmp_Or_int.l1,idx,e1,e2,e3,e4]
 by_cases ha:a=0 <;> by_cases hb:b=0 <;> by_cases hc:c=0 <;> by_cases hd:d=0 <;> simp [ha,hb,hc,hd]
def lessQ (a b:Question):Bool:=
 if a.e≠b.e then decide (a.e<b.e) else if a.f≠b.f then decide (a.f<b.f) else if a.target.hold≠b.target.hold then !a.target.hold else decide (a.target.index<b.target.index)
def hI (q:Question):Int:=if q.target.hold=true then 1 else 0
def cI (a b:Int):Int:=if a<b then -1 else if b<a then 1 else 0
def compP (a b:Question):Int:=if cI a.e b.e≠0 then cI a.e b.e else if cI a.f b.f≠0 then cI a.f b.f else if cI (hI a) (hI b)≠0 then cI (hI a) (hI b) else cI a.target.index b.target.index
theorem comp1_eq {n:Nat} {q:Question}:symmetry_compare_1 n q=some (hI q):=by
 unfold symmetry_compare_1 hI
 split <;> rfl
theorem compare_eq {n:Nat} {a b:Question} (hn:10≤n):symmetry_compare n a b=some (compP a b):=by
 unfold symmetry_compare
 simp only [CompareI_eq,comp1_eq,yb,Or4_eq hn]
 rfl
theorem cI_zero {a b:Int}:cI a b=0↔a=b:=by
 unfold cI;split
 ·simp;omega
 ·split
  ·simp;omega
  ·simp;omega
theorem cI_neg {a b:Int}:cI a b<0↔a<b:=by
 unfold cI;split
 ·simp;omega
 ·split
  ·simp;omega
  ·simp;omega
def LexQ (a b:Question):Prop:=a.e<b.e∨(a.e=b.e∧(a.f<b.f∨(a.f=b.f∧(hI a<hI b∨(hI a=hI b∧a.target.index<b.target.index)))))
theorem lessQ_iff {a b:Question}:lessQ a b=true↔LexQ a b:=by
 unfold lessQ LexQ hI
 by_cases h1:a.e=b.e
 ·simp only [h1,ne_eq,not_true_eq_false,if_false,Int.lt_irrefl,false_or,true_and]
  by_cases h2:a.f=b.f
  ·simp only [h2,not_true_eq_false,if_false,Int.lt_irrefl,false_or,true_and]
   cases ha:a.target.hold <;> cases hb:b.target.hold <;> simp
  ·simp only [h2,not_false_eq_true,if_true,false_and,or_false,yg]
 ·simp only [h1,ne_eq,not_false_eq_true,if_true,false_and,or_false,yg]
theorem compP_iff {a b:Question}:compP a b<0↔LexQ a b:=by
 unfold compP LexQ
 by_cases h1:a.e=b.e
 ·have e1:cI a.e b.e=0:=cI_zero.2 h1
  simp only [e1,ne_eq,not_true_eq_false,if_false]
  by_cases h2:a.f=b.f
  ·have e2:cI a.f b.f=0:=cI_zero.2 h2
   simp only [e2,not_true_eq_false,if_false]
   by_cases h3:hI a=hI b
   ·have e3:cI (hI a) (hI b)=0:=cI_zero.2 h3
    simp only [e3,not_true_eq_false,if_false,cI_neg];omega
   ·have e3:cI (hI a) (hI b)≠0:=λh=>h3 (cI_zero.1 h)
    simp only [e3,not_false_eq_true,if_true,cI_neg];omega
  ·have e2:cI a.f b.f≠0:=λh=>h2 (cI_zero.1 h)
   simp only [e2,not_false_eq_true,if_true,cI_neg];omega
 ·have e1:cI a.e b.e≠0:=λh=>h1 (cI_zero.1 h)
  simp only [e1,ne_eq,not_false_eq_true,if_true,cI_neg];omega
theorem comp_less {a b:Question}:decide (compP a b<0)=lessQ a b:=by
 rw [Bool.eq_iff_iff,yg,compP_iff,lessQ_iff]
theorem Less_eq {n:Nat} {a b:Question} (hn:10≤n):symmetry_Less n a b=some (lessQ a b):=by
 unfold symmetry_Less
 simp only [compare_eq hn,yb,comp_less]
theorem rLess_eq {n:Nat} {a b:Question}:ref16_Less n a b=some (lessQ a b):=by
 unfold ref16_Less lessQ
 by_cases h1:a.e=b.e <;> by_cases h2:a.f=b.f <;> by_cases h3:a.target.hold=b.target.hold <;> simp [h1,h2,h3]
theorem less_irr (a:Question):lessQ a a=false:=by simp [lessQ]
theorem quest_ext {a b:Question} (h1:a.e=b.e) (h2:a.f=b.f) (h3:a.target.hold=b.target.hold) (h4:a.target.index=b.target.index):a=b:=by
 rcases a with ⟨_,_,⟨_,_⟩⟩;rcases b with ⟨_,_,⟨_,_⟩⟩
 simp only at h1 h2 h3 h4
 subst h1 h2 h3 h4;rfl
theorem hI_inj {a b:Question} (h:hI a=hI b):a.target.hold=b.target.hold:=by
 unfold hI at h
 cases ha:a.target.hold <;> cases hb:b.target.hold <;> simp [ha,hb] at h ⊢
theorem less_tot {a b:Question} (h:a≠b):lessQ a b = !lessQ b a:=by
 have hne:¬ (a.e=b.e∧a.f=b.f∧hI a=hI b∧a.target.index=b.target.index):=λ⟨h1,h2,h3,h4⟩=>h (quest_ext h1 h2 (hI_inj h3) h4)
 have key:LexQ a b↔¬ LexQ b a:=by unfold LexQ;omega
 cases h1:lessQ a b <;> cases h2:lessQ b a <;> simp
 ·have h1:¬ LexQ a b:=λh=>by rw [lessQ_iff.2 h] at h1;cases h1
  have h2:¬ LexQ b a:=λh=>by rw [lessQ_iff.2 h] at h2;cases h2
  exact h1 (key.2 h2)
 ·exact key.1 (lessQ_iff.1 h1) (lessQ_iff.1 h2)
theorem Order_law {m:Model} {a b:Question}:law16_SymmetryOrder 18446744073709551616 m a b=some true:=by
 unfold law16_SymmetryOrder
 have hn:10≤18446744073709551616:=by decide
 simp only [awake_spec,yb,ua,ym,if_false,Less_eq hn,rLess_eq,less_irr,yk,yi,yy,Bool.or_false,uG,yw,ref13_Few_eq (show 1000000≤18446744073709551616 by decide)]
 have hc:((lessQ a b&&lessQ b a)||((!decide (a=b))&&!lessQ a b)&&!lessQ b a)=false:=by
  by_cases h:a=b
  ·subst h;simp [less_irr]
  ·rw [less_tot h];cases lessQ b a <;> simp [h]
 cases hf:fewP m with
 | false=>simp [grd,hc]
 | true=>
  have hS:=fewP_small hf
  simp only [symmetry_Valid_eq fuel_N hS,ref16_Valid_eq (show 4294967296≤18446744073709551616 by decide) hS]
  simp [grd,hc]
theorem closed8:joinedFacts Tryz.pinned.checked.prog 3 Tryz.f3 (OpenSpec.ofChange Rows.symmetryOrderSpec).bare Rows.symmetryOrderRow=true:=by
 unfold joinedFacts
 simp only [yc]
 repeat' apply And.intro
 all_goals as_aux_lemma=>kernel_rfl
section
open Go.ChangeShapes Go.WideShapes Go.ChangeAt Go.RowKit
theorem own:ownKnob Tryz.prog.godebug=none:=by kernel_rfl
theorem laidOut:laidOutB Tryz.prog=true:=by kernel_rfl
set_option maxRecDepth 100000 in
theorem contract8 (H:Type) (enc:TypeId×Value→H) (W:World) (base:Nat) (args:Array Value) (ds gs:List (DataW H)) (before:List MemPlace)
  (hval:∀ (j:Nat) t v,Tryz.f3.params[j]? = some t→args[j]? = some v→Value.okWide Tryz.prog W .any base t v)
  (hW:DataW.Whole enc Tryz.prog Tryz.f3.params.toList Rows.symmetryOrderSpec.vars false W args.toList ds gs before) (hL:laidMetH Tryz.prog Rows.symmetryOrderRow.laid W) (hS:W.ShapedOpen Tryz.prog) :
  Calls Tryz.prog 3 args W λe W'=>∃ v,e = .returned v∧Rows.symmetryOrderSpec.post enc Tryz.prog Tryz.f3 false true false false W args v W':=by
 have hW':=hW
 obtain ⟨p,q,hA0,hV,rfl,hfz,hnd⟩:=hW
 have hA:DataW.TrodAll enc Tryz.prog W 0 (λ_=>true) true Tryz.f3.params.toList args.toList ds p:=hA0
 rw [Tryz.params3] at hA hval
 obtain ⟨v0,vs0,d0,ds0,p0,q0,hargs,rfl,rfl,h0,r0⟩:=trodAll_cons hA
 obtain ⟨v1,vs1,d1,ds1,p1,q1,rfl,rfl,rfl,h1,r1⟩:=trodAll_cons r0
 obtain ⟨v2,vs2,d2,ds2,p2,q2,rfl,rfl,rfl,h2,r2⟩:=trodAll_cons r1
 obtain ⟨rfl,rfl,rfl⟩:=trodAll_nil r2
 obtain rfl:args = #[v0,v1,v2]:=by cases args;simp_all
 obtain ⟨rfl,rfl⟩:=trodVars_none hV
 obtain ⟨a0,k0⟩:=dModel.of_arg (hval 0 _ v0 rfl rfl) h0
 obtain ⟨a1,k1⟩:=dQuest.of_arg (hval 1 _ v1 rfl rfl) h1
 obtain ⟨a2,k2⟩:=dQuest.of_arg (hval 2 _ v2 rfl rfl) h2
 have hrun:=(law16_SymmetryOrder_ok _ a0 a1 a2 true Order_law).run Noneof W #[v0,v1,v2] (λ_ h=>h.elim) (glob_ok hL hS) (by
  simp only [D.reps]
  exact ⟨v0,_,rfl,k0,v1,_,rfl,k1,v2,_,rfl,k2,rfl⟩)
 refine hrun.mono λe W' ⟨u,he,hf,hu⟩=>?_
 simp only [D.rep] at hu
 subst hu
 subst he
 refine ⟨_,rfl,post_kept hW' rfl rfl rfl laidOut (λt ht=>?_) hf (λ_ _ _=>trodAll_cons_mk (shut_bool Tryz.underlying4 _) trodAll_mk0)⟩
 rw [Tryz.params3] at ht
 have hall:([30,34,34].all λt=>Tryz.prog.readableRec t&&decide (t<Tryz.prog.types.size))=true:=by kernel_rfl
 have:=yv.1 hall t (by simpa using ht)
 simpa using this
theorem reads8 (os:Os) {H:Type} (enc:TypeId×Value→H):∃ places,DataW.whole enc Tryz.prog ((World.laidAll Tryz.prog os Rows.symmetryOrderRow.laid).forCall (λ_ _=>0) ⟨#[],#[.agg #[.slice none 0 0,.slice none 0 0,.slice none 0 0,.slice none 0 0,.slice none 0 0,.slice none 0 0,.slice none 0 0],.agg #[.int .i64 0,.int .i64 0,.bool false,.int .i64 0],.agg #[.int .i64 0,.int .i64 0,.bool false,.int .i64 0]],[]⟩).memory Tryz.f3.params.toList Rows.symmetryOrderSpec.vars false
  (#[.agg #[.slice none 0 0,.slice none 0 0,.slice none 0 0,.slice none 0 0,.slice none 0 0,.slice none 0 0,.slice none 0 0],.agg #[.int .i64 0,.int .i64 0,.bool false,.int .i64 0],.agg #[.int .i64 0,.int .i64 0,.bool false,.int .i64 0]]:Array Value).toList 8 =
  some ([.agg [.nil,.nil,.nil,.nil,.nil,.nil,.nil],.agg [.lit (.int .i64 0),.lit (.int .i64 0),.agg [.lit (.bool false),.lit (.int .i64 0)]],.agg [.lit (.int .i64 0),.lit (.int .i64 0),.agg [.lit (.bool false),.lit (.int .i64 0)]]],[],places):=
 ⟨[],by kernel_rfl⟩
set_option maxRecDepth 100000 in
theorem lifted8 (os:Os) (started:os.Started) (H:Type) (enc:TypeId×Value→H) (F:Stop.Interp) :
  ReturnsInHanded {} Tryz.checked os 3 .any ((OpenSpec.ofChange Rows.symmetryOrderSpec).preRow enc Tryz.prog Tryz.f3 Rows.symmetryOrderRow.domain false Rows.symmetryOrderRow.laid) (((OpenSpec.ofChange Rows.symmetryOrderSpec).at F).post enc Tryz.prog Tryz.f3 false true false false):=by
 obtain ⟨places,hx⟩:=reads8 os enc
 refine returnsInHanded_of_row (C:=Tryz.checked) (s:=OpenSpec.ofChange Rows.symmetryOrderSpec) own started (by kernel_rfl) Tryz.func3
  (witness_row_atRef (enc:=enc) (C:=Tryz.checked) false (World.laidAll Tryz.prog os Rows.symmetryOrderRow.laid) _ (World.laidAll_os _ _ _) (by kernel_rfl) (by kernel_rfl) (by kernel_rfl)
   (OpenSpec.preRow_of_cond 8 hx (by kernel_rfl) (λk hk=>by cases hk) (by kernel_rfl) (laidMet_laidAll _ (by kernel_rfl) (by kernel_rfl)))) ?_
 intro W base args ds gs before hval hW _ _ _ hL hS _
 exact contract8 H enc W base args ds gs before hval hW hL hS
theorem said8:Rows.SymmetryOrderSaid:=
 OpenClaim.holds_of_cond 3 Tryz.f3 rfl rfl rfl rfl rfl rfl rfl ⟨rfl,rfl,rfl,rfl,rfl⟩ rfl rfl rfl rfl rfl (by kernel_rfl) Tryz.func3 closed8
  (of_decide_eq_true (by kernel_rfl)) (by unfold Func.isWrapper;first | (rw [if_pos (by decide +kernel)];kernel_rfl) | (rw [if_neg (by decide +kernel)];exact ⟨rfl,rfl⟩))
  (λos started H enc _ F=>by rw [OpenClaim.pre_eq_preRow];exact lifted8 os started H enc F)
theorem plain8 (f:FuncId) (fn:Func) (hf:Tryz.pinned.checked.prog.funcNamed Rows.symmetryOrderRow.func=some f) (hfn:Tryz.pinned.checked.prog.funcs[f]? = some fn) :
  false=Tryz.pinned.checked.prog.looks []∧∀ (j:Nat) t,fn.params[j]? = some t→Tryz.pinned.checked.prog.wantsStandIn t=false:=by
 obtain rfl:f=3:=Option.some.inj ((show Tryz.prog.funcNamed Rows.symmetryOrderRow.func=some 3 by kernel_rfl).symm.trans hf) |>.symm
 obtain rfl:fn=Tryz.f3:=(Option.some.inj (Tryz.func3.symm.trans hfn)).symm
 refine ⟨by kernel_rfl,λj t ht=>?_⟩
 rw [Tryz.params3] at ht
 have hall:([30,34,34].all λu=>!Tryz.prog.wantsStandIn u)=true:=by kernel_rfl
 have:=yv.1 hall t (by simpa using Array.mem_of_getElem? ht)
 exact (show Tryz.prog.wantsStandIn t=false by simpa using this)
theorem symmetryOrder_holds:Rows.SymmetryOrderCardSaid:=
 Claim7.holds_tied_plain_at .later [] _ _ _ _ said8 (λ_ h=>by cases h) (by kernel_rfl) (λ_ h=>by cases h) symmetryOrder_row_tie rfl ⟨rfl,rfl⟩ (by kernel_rfl) rfl plain8 (by kernel_rfl)
end
end Go.Proofs.YtehefbidnkfciaaGreatDoor
