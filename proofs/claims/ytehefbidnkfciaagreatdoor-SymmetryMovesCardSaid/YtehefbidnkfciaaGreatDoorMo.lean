/- The law holds for every input. No condition. -/
import Derived.Test.YtehefbidnkfciaaGreatDoorMo05
import Derived.Test.YtehefbidnkfciaaGreatDoorCards
import Derived.Test.YtehefbidnkfciaaGreatDoorTie
import Derived.JoinedCond
import Derived.Deep.DeepWitnessRowRef
import Derived.Lay
import Derived.ProofKit
set_option linter.unusedVariables false
set_option linter.unusedSectionVars false
set_option linter.unusedSimpArgs false
set_option maxHeartbeats 4000000
namespace Go.Proofs.YtehefbidnkfciaaGreatDoor
open Go Go.RowKit
abbrev uJ:=@_root_.Nat.pow_le_pow_right
abbrev uL:=@_root_.Nat.mul_le_mul
theorem nodup_map_inj {α β:Type} {f:α→β}:∀ {l:List α},(l.map f).Nodup→∀ x∈l,∀ y∈l,f x=f y→x=y
 | [],_,x,hx,_,_,_=>by simp at hx
 | a::l,h,x,hx,y,hy,e=>by
  simp only [yL,List.nodup_cons,y7,not_exists,not_and] at h;simp only [yM] at hx hy;rcases hx with rfl | hx <;> rcases hy with rfl | hy
  ·rfl
  ·exact absurd e.symm (h.1 y hy)
  ·exact absurd e (h.1 x hx)
  ·exact nodup_map_inj h.2 x hx y hy e
theorem hidden_rounds {n:Nat} {j:Judge} {m:GMap Int Bool} (hn:1000000≤n) (hh:j.model.hides.length≤1000) (hok:∀ h∈j.model.hides,(0≤h.table∧h.table<(j.model.tables.length:Int)))
  (hw:WfM m) (hlen:m.es.length≤j.model.hides.length) (hk:∀ t,t∈keysOf m↔∃ h∈j.model.hides,h.table=t) :
  loopF (model_judge_hidden.l3 n j) n (m,0)=some (j.model.hides.all λh=>!leadsP j.model.hides j.model.tables.length h.to h.table):=by
 cases hac:(j.model.hides.all λh=>!leadsP j.model.hides j.model.tables.length h.to h.table) with
 | true=>
  have hac':∀ h∈j.model.hides,leadsP j.model.hides j.model.tables.length h.to h.table=false:=λh hm=>by
   have:=yt.1 hac h hm;simpa using this
  have hrange:∀ m':GMap Int Bool,(∀ t∈keysOf m',∃ h∈j.model.hides,h.table=t)→m'.es≠[]→∃ e∈m'.es,∀ h∈j.model.hides,¬ (h.table=e.2.1∧h.to∈keysOf m'):=λm' hm' hne=>by
   obtain ⟨t,ht,hs⟩:=sink_ex (hs:=j.model.hides) (T:=j.model.tables.length) (S:=keysOf m') (by simpa [keysOf] using hne) (λt ht=>by
    obtain ⟨h,hh,rfl⟩:=hm' t ht;exact hok h hh) hac'
   simp only [keysOf,y7] at ht;obtain ⟨e,he,rfl⟩:=ht;exact ⟨e,he,hs⟩
  refine loopF_I (body:=model_judge_hidden.l3 n j) (len:=j.model.hides.length) (st:=λm i=>(m,(i:Int))) (g:=λ_ _=>some true) (λi m=>WfM m∧m.es.length+i≤j.model.hides.length∧∀ t∈keysOf m,∃ h∈j.model.hides,h.table=t) (λrec i m hi hI hr=>?_) (λrec m hI=>?_) n 0 m (yx _) (by omega) ⟨hw,by omega,λt ht=>(hk t).1 ht⟩
  ·obtain ⟨h1,h2,h3⟩:=hI;simp only [model_judge_hidden.l3,lt_len hi,if_true];refine hidden_round (r:=true) (by omega) (by omega) (λm' seen=>(WfM m'∧m'.clock=m.clock∧∀ t∈keysOf m',∃ h∈j.model.hides,h.table=t)∧(m'.es.length+i+1≤j.model.hides.length∨(m'.es.length+i≤j.model.hides.length∧∃ e∈m'.left seen,∀ h∈j.model.hides,¬ (h.table=e.2.1∧h.to∈keysOf m')))) (λm' seen hJ=>⟨hJ.1.1,hJ.1.2.1⟩) (λm' seen hJ hl=>?_) (λm' seen e hJ he=>?_) ⟨⟨h1,rfl,h3⟩,?_⟩ (by omega)
   ·rw [add64_1 (by omega)];refine hr m' ⟨hJ.1.1,?_,hJ.1.2.2⟩;rcases hJ.2 with h | ⟨-,e,he,-⟩
    ·omega
    ·rw [hl] at he;cases he
   ·obtain ⟨⟨w1,w2,w3⟩,hd⟩:=hJ;have hem:e∈m'.es:=(List.mem_filter.1 he).1;obtain ⟨d1,d2,d3,d4,-⟩:=w1.del hem;cases hb:(j.model.hides.any λh=>h.table==e.2.1&&decide (h.to∈keysOf m')) with
    | true=>
     rw [if_pos rfl];refine ⟨⟨w1,w2,w3⟩,?_⟩;rcases hd with hd | ⟨hd,x,hx,hs⟩
     ·exact .inl hd
     ·refine .inr ⟨hd,x,?_,hs⟩;simp only [GMap.left,List.mem_filter] at hx ⊢;refine ⟨hx.1,?_⟩;have hne:x.1≠e.1:=λe1=>by
       have:x=e:=nodup_map_inj w1.nd x hx.1 e hem e1;subst this;simp only [uy,yc,beq_iff_eq,yf] at hb;obtain ⟨h,hh,q⟩:=hb;exact hs h hh q
      simp only [yI,List.contains_eq_mem,yH,yF,yJ,not_or] at hx ⊢;exact ⟨hx.2,hne⟩
    | false=>
     rw [if_neg (by simp)];refine ⟨⟨d1,by omega,λt ht=>?_⟩,.inl ?_⟩
     ·refine w3 t ?_;simp only [keysOf,y7] at ht ⊢;obtain ⟨x,hx,rfl⟩:=ht;exact ⟨x,d4.subset hx,rfl⟩
     ·rcases hd with hd | ⟨hd,-⟩ <;> omega
   ·by_cases hne:m.es=[]
    ·left;rw [hne];simp;omega
    ·right;refine ⟨h2,?_⟩;obtain ⟨e,he,hs⟩:=hrange m h3 hne;exact ⟨e,by simp [GMap.left,he],hs⟩
  ·have:m.es.length=0:=by omega
   simp [model_judge_hidden.l3,this]
 | false=>
  obtain ⟨h0,hm0,hl0⟩:∃ h∈j.model.hides,leadsP j.model.hides j.model.tables.length h.to h.table=true:=by
   simp only [List.all_eq_false] at hac;obtain ⟨h,hm,hx⟩:=hac;exact ⟨h,hm,by simpa using hx⟩
  have hclosed:∀ t,((∃ k,leadsP j.model.hides k h0.to t=true)∧∃ k,leadsP j.model.hides k t h0.table=true)→∃ h∈j.model.hides,h.table=t∧((∃ k,leadsP j.model.hides k h0.to h.to=true)∧∃ k,leadsP j.model.hides k h.to h0.table=true):=by
   rintro t ⟨⟨a,ha⟩,b,hb⟩;have hcase:t=h0.table∨∃ h∈j.model.hides,h.table=t∧∃ k,leadsP j.model.hides k h.to h0.table=true:=by
    cases b with
    | zero=>left;simpa [leadsP] using hb
    | succ b=>
     simp only [leadsP,yz,beq_iff_eq,uy,yc] at hb;rcases hb with hb | ⟨h,hm,e,hx⟩
     ·exact .inl hb
     ·exact .inr ⟨h,hm,e,b,hx⟩
   rcases hcase with rfl | ⟨h,hm,rfl,k,hx⟩
   ·exact ⟨h0,hm0,rfl,⟨0,leadsP_refl⟩,_,hl0⟩
   ·exact ⟨h,hm,rfl,⟨_,leadsP_snoc hm ha⟩,k,hx⟩
  generalize hC:(λt=>(∃ k,leadsP j.model.hides k h0.to t=true)∧∃ k,leadsP j.model.hides k t h0.table=true)=C at *;have hC':∀ t,C t→∃ h∈j.model.hides,h.table=t∧C h.to:=by
   intro t ht;rw [← hC] at ht ⊢;exact hclosed t ht
  have hCs:C h0.to:=by rw [← hC];exact ⟨⟨0,leadsP_refl⟩,_,hl0⟩
  refine loopF_I (body:=model_judge_hidden.l3 n j) (len:=j.model.hides.length) (st:=λm i=>(m,(i:Int))) (g:=λ_ _=>some false) (λi m=>WfM m∧m.es.length≤1000∧∀ t,C t→t∈keysOf m) (λrec i m hi hI hr=>?_) (λrec m hI=>?_) n 0 m (yx _) (by omega) ⟨hw,by omega,λt ht=>(hk t).2 (by
   obtain ⟨h,hh,e,-⟩:=hC' t ht;exact ⟨h,hh,e⟩)⟩
  ·obtain ⟨h1,h2,h3⟩:=hI;simp only [model_judge_hidden.l3,lt_len hi,if_true];refine hidden_round (r:=false) (by omega) (by omega) (λm' seen=>WfM m'∧m'.clock=m.clock∧m'.es.length≤1000∧∀ t,C t→t∈keysOf m') (λm' seen hJ=>⟨hJ.1,hJ.2.1⟩) (λm' seen hJ hl=>?_) (λm' seen e hJ he=>?_) ⟨h1,rfl,h2,h3⟩ (by omega)
   ·rw [add64_1 (by omega)];exact hr m' ⟨hJ.1,hJ.2.2⟩
   ·obtain ⟨w1,w2,w3,w4⟩:=hJ;have hem:e∈m'.es:=(List.mem_filter.1 he).1;obtain ⟨d1,d2,d3,-,d5⟩:=w1.del hem;cases hb:(j.model.hides.any λh=>h.table==e.2.1&&decide (h.to∈keysOf m')) with
    | true=>
     rw [if_pos rfl];exact ⟨w1,w2,w3,w4⟩
    | false=>
     rw [if_neg (by simp)];refine ⟨d1,by omega,by omega,λt ht=>d5 t (w4 t ht) λe1=>?_⟩;obtain ⟨h,hh,hht,hto⟩:=hC' t ht;have:=List.any_eq_false.1 hb h hh;apply this;simp only [yc,beq_iff_eq,yf];exact ⟨by omega,w4 _ hto⟩
  ·obtain ⟨-,-,h3⟩:=hI;have:=h3 _ hCs;have hne:m.es.length≠0:=λe=>by
    simp only [keysOf,List.length_eq_zero_iff.1 e,List.map_nil,List.not_mem_nil] at this
   simp only [model_judge_hidden.l3,ge_len,yi,if_false,yg,ud];omega
theorem model_hidden_eq {n m l} (hn:1000000≤n) (hS:SmallM m):model_judge_hidden n ⟨m,l⟩=some (hidesP m):=by
 have hhl:=hS.hides;have htl:=hS.tables;unfold model_judge_hidden hidesP;rw [if_neg (by simp;omega),decide_eq_true hhl,yA];have:=loopF_lall (body:=model_judge_hidden.l1 n ⟨m,l⟩) (l:=m.hides) (n:=n) (st:=λi=>(i:Int)) (hideP m) (some false) (loopF (model_judge_hidden.l2 n ⟨m,l⟩) n (GMap.empty,0)) (λrec i hi=>?_) (λrec=>?_) (by omega)
 ·simp only [Int.natCast_zero] at this;rw [this];cases hall:m.hides.all (hideP m) with
  | false=>simp
  | true=>
   rw [if_pos rfl,yA];have hok:∀ h∈m.hides,(0≤h.table∧h.table<(m.tables.length:Int)):=λh hm=>by
    have:=yt.1 hall h hm;simp only [hideP,yc,yf] at this;exact this.1.1.1
   refine loopF_I (body:=model_judge_hidden.l2 n ⟨m,l⟩) (len:=m.hides.length) (st:=λg i=>(g,(i:Int))) (g:=λ_ _=>some (m.hides.all λh=>!leadsP m.hides m.tables.length h.to h.table)) (λi g=>WfM g∧g.es.length≤i∧∀ t,t∈keysOf g↔∃ h∈m.hides.take i,h.table=t) (λrec i g hi hI hr=>?_) (λrec g hI=>?_) n 0 GMap.empty (yx _) (by omega) ⟨WfM.empty,by simp [GMap.empty],λt=>by simp [keysOf,GMap.empty]⟩
   ·obtain ⟨h1,h2,h3⟩:=hI;obtain ⟨p1,p2,p3⟩:=h1.put m.hides[i].table;simp only [model_judge_hidden.l2,lt_len hi,if_true,idx_nat hi,yb,add64_1 (i:=i) (by omega)];refine hr _ ⟨p1,by omega,λt=>?_⟩;rw [p3,h3,yC hi];simp only [yF,yJ];constructor
    ·rintro (⟨h,hm,e⟩ | e)
     ·exact ⟨h,.inl hm,e⟩
     ·exact ⟨_,.inr rfl,e.symm⟩
    ·rintro ⟨h,hm | rfl,e⟩
     ·exact .inl ⟨h,hm,e⟩
     ·exact .inr e.symm
   ·obtain ⟨h1,h2,h3⟩:=hI;simp only [model_judge_hidden.l2,ge_len,yi,if_false];exact hidden_rounds (j:=⟨m,l⟩) hn (by simp only [];omega) hok h1 h2 (λt=>by rw [h3,List.take_length])
 ·simp only [model_judge_hidden.l1,model_index,lt_len hi,if_true,idx_nat hi,yb,yk,yB,yh,add64_1 (i:=i) (by omega)];generalize m.hides[i]=h;by_cases hb:(((0≤h.table∧h.table<(m.tables.length:Int))∧(0≤h.to∧h.to<(m.tables.length:Int)))∧h.table≠h.to)
  ·simp only [grd,if_true];rw [if_neg (by simp [hb])];obtain ⟨t,u,ht,hu⟩:=hide_idx hb.1.1 hb.1.2;have hhp:hideP m h=(((t.kind==0)&&(u.kind==0))&&((decide (0≤h.column)&&decide (h.column<(t.columns.length:Int)))&&(((u.columns.length:Int)==1)&&((idx u.columns 0).getD default==(idx t.columns h.column).getD default)))):=by
    unfold hideP;rw [ht,hu];simp [hb]
   simp only [ht,hu,yb];rw [hhp];by_cases hk:(((t.kind==0)&&(u.kind==0))&&((decide (0≤h.column)&&decide (h.column<(t.columns.length:Int)))&&((u.columns.length:Int)==1)))=true
   ·have hk':=hk;simp only [yc,yf,beq_iff_eq] at hk';obtain ⟨⟨k1,k2⟩,⟨k3,k4⟩,k5⟩:=hk';obtain ⟨x,hx⟩:=idx_some (l:=u.columns) (i:=0) (by omega) (by omega);obtain ⟨y,hy⟩:=idx_some k3 k4;simp only [k1,k2,k3,k4,k5,hx,hy,yh,decide_true,beq_self_eq_true,uM,yk,yB,Bool.or_false,yA,Bool.and_self,y6,if_true];by_cases hxy:x=y
    ·simp [hxy]
    ·simp [hxy]
   ·have hf:(((((t.kind != 0)||(u.kind != 0))||(!(decide (0≤h.column)&&decide (h.column<(t.columns.length:Int)))))||((u.columns.length:Int) != 1)))=true:=by
     simp only [yc,yf,beq_iff_eq] at hk;simp only [yz,bne_iff_ne,yI,ub,yH];omega
    simp only [hf,uF,if_true];rw [← Bool.and_assoc (decide (0≤h.column)&&decide (h.column<(t.columns.length:Int))),← Bool.and_assoc];simp only [yD] at hk;rw [hk];rfl
  ·have hhp:hideP m h=false:=by
    unfold hideP;cases hx:(((decide (0≤h.table)&&decide (h.table<(m.tables.length:Int)))&&(decide (0≤h.to)&&decide (h.to<(m.tables.length:Int))))&&(h.table != h.to)) with
    | false=>rfl
    | true=>
     simp only [yc,yf,bne_iff_ne] at hx;exact absurd hx hb
   rw [hhp];simp only [grd,if_true];rw [if_pos (by
    simp only [yz,yI,ub,yH,beq_iff_eq];omega)]
   rfl
 ·simp [model_judge_hidden.l1]
def validP (m:Model):Bool:=(layoutP m.sorts m.tables&&(decide (m.families.length≤24)&&distP [] m.families))&&(consP m (rangesP m.sorts true m.tables)&&(opsP m&&(actsP m (rangesP m.sorts true m.tables).length&&hidesP m)))
theorem model_Valid_eq {n m} (hF:Fuel n) (hS:SmallM m):model_Valid n m=some (validP m):=by
 have hn:=hF.big;have hs:=hS.sorts;have ht:=hS.tables;have hf:=hS.families;have hcs:∀ t∈m.tables,t.columns.length≤1000:=λt h=>by have:=hS.tab t h;omega
 unfold model_Valid validP;rw [cells_Valid_eq hF (by omega) (by omega) hcs,model_distinct_eq hF (by omega)];simp only [yb,yk,yB,grd,if_true,yh];have e1:decide (24<(m.families.length:Int)) = !decide (m.families.length≤24):=by rw [← decide_not];exact decide_eq_decide.2 (by omega)
 rw [e1];cases hL:layoutP m.sorts m.tables with
 | false=>simp
 | true=>
  by_cases hd:(decide (m.families.length≤24)&&distP [] m.families)=true
  ·rw [hd];simp only [yc] at hd;rw [hd.1,hd.2,if_neg (by simp),cells_Ranges_eq hF (by omega) (by omega) hcs,hL];simp only [if_true,yb];obtain ⟨l1,l2,l3,l4⟩:=layoutP_tab hL;have hlen:=rangesP_len (sizes:=m.sorts) (s:=true) (l:=m.tables) λx hx=>(l4 x hx).2.2.2.2
   rw [model_constraints_eq hS (λt ht=>(l4 t ht).2.2.2.1) (by omega) (by omega),model_operations_eq hF hS,model_hidden_eq (by omega) hS];simp only [yb,yk,yh,yB,if_true];cases consP m (rangesP m.sorts true m.tables) with
   | false=>simp
   | true=>
    cases hO:opsP m with
    | false=>simp
    | true=>
     rw [model_actions_eq hF hS hO];simp
  ·have h2:(!true||!decide (m.families.length≤24)||!distP [] m.families)=true:=by
    simp only [yc,not_and,yD] at hd;cases h1:decide (m.families.length≤24) with
    | false=>rfl
    | true=>rw [hd h1];rfl
   rw [if_pos h2];simp only [yD] at hd;rw [hd];rfl
theorem ref13_Valid_eq {n m} (hn:4294967296≤n) (hS:SmallM m):ref13_Valid n m=some (validP m):=by
 have hs:=hS.sorts;have ht:=hS.tables;have hf:=hS.families;have hcs:∀ t∈m.tables,t.columns.length≤1000∧t.name.length≤4096:=λt h=>by have:=hS.tab t h;omega
 unfold ref13_Valid validP;rw [ref09_Valid_eq (by omega) (by omega) (by omega) hcs,ref13_distinct_eq (by omega) (by omega) (λw hw=>by have:=hS.fam w hw;omega)];simp only [yb,yk,yB,grd,if_true,yh];have e1:decide (24<(m.families.length:Int)) = !decide (m.families.length≤24):=by rw [← decide_not];exact decide_eq_decide.2 (by omega)
 rw [e1];cases hL:layoutP m.sorts m.tables with
 | false=>simp
 | true=>
  by_cases hd:(decide (m.families.length≤24)&&distP [] m.families)=true
  ·rw [hd];simp only [yc] at hd;rw [hd.1,hd.2,if_neg (by simp),ref13_constraints_eq hS hL (by omega),ref13_actions_eq (by omega) hS hL,ref13_hidden_eq hn hS];simp only [yb,yk,yh,yB,if_true,yA];simp only [Bool.and_assoc]
  ·have h2:(!true||!decide (m.families.length≤24)||!distP [] m.families)=true:=by
    simp only [yc,not_and,yD] at hd;cases h1:decide (m.families.length≤24) with
    | false=>rfl
    | true=>rw [hd h1];rfl
   rw [if_pos h2];simp only [yD] at hd;rw [hd];rfl
def lensP (m:Model):Bool:=(((((((decide (8<(m.sorts.length:Int)))||(decide (6<(m.tables.length:Int))))||(decide (20<(m.families.length:Int))))||(decide (60<(m.constraints.length:Int))))||(decide (8<(m.operations.length:Int))))||(decide (30<(m.actions.length:Int))))||(decide (12<(m.hides.length:Int))))
def tabF (t:Table):Bool:=decide (t.name.length≤40)&&decide (t.columns.length≤12)
def opF (o:Operation):Bool:=decide (o.name.length≤40)&&decide (o.sorts.length≤6)
def actF (a:Action):Bool:=((decide (a.arguments.length≤6)&&decide (a.effect.delta.length≤20))&&(decide (a.effect.hold.length≤10)&&decide (a.effect.updates.length≤40)))&&a.effect.hold.all λr=>decide (r.terms.length≤20)
def boundedP (m:Model):Bool:=!lensP m&&(m.tables.all tabF&&(m.families.all (λs=>decide (s.length≤40))&&(m.constraints.all (λc=>decide (c.row.terms.length≤20))&&(m.operations.all opF&&m.actions.all actF))))
theorem not_lt_le {a b:Nat}:decide ((a:Int)<(b:Int)) = !decide (b≤a):=by rw [← decide_not];exact decide_eq_decide.2 (by omega)
theorem ref13_Bounded_eq {n:Nat} {m:Model} (hn:1000000≤n):ref13_Bounded n m=some (boundedP m):=by
 unfold ref13_Bounded boundedP;have hl:(((((((decide (8<(m.sorts.length:Int)))||(decide (6<(m.tables.length:Int))))||(decide (20<(m.families.length:Int))))||(decide (60<(m.constraints.length:Int))))||(decide (8<(m.operations.length:Int))))||(decide (30<(m.actions.length:Int))))||(decide (12<(m.hides.length:Int))))=lensP m:=rfl;rw [hl];cases hlen:lensP m with
 | true=>simp [grd]
 | false=>
  simp only [lensP,uj,yH] at hlen;obtain ⟨⟨⟨⟨⟨⟨b1,b2⟩,b3⟩,b4⟩,b5⟩,b6⟩,b7⟩:=hlen;have hfew:ref09_Few n m.sorts m.tables=some (m.tables.all tabF):=by
   have:=loopF_lall (body:=ref09_Few.l1 n m.sorts m.tables) (l:=m.tables) (n:=n) (st:=λi=>(i:Int)) tabF (some false) (some true) (λrec i hi=>?_) (λrec=>?_) (by omega)
   ·simp only [Int.natCast_zero] at this;unfold ref09_Few;rw [this];cases m.tables.all tabF <;> rfl
   ·simp only [ref09_Few.l1,lt_len hi,if_true,idx_nat hi,yb,yk,yB,grd,yh,add64_1 (i:=i) (by omega)];unfold tabF;by_cases h1:m.tables[i].name.length≤40
    ·by_cases h2:m.tables[i].columns.length≤12
     ·rw [if_neg (by simp;omega),if_pos (by simp [h1,h2])]
     ·rw [if_pos (by simp;omega),if_neg (by simp [h2])]
    ·rw [if_pos (by simp;omega),if_neg (by simp [h1])]
   ·simp [ref09_Few.l1];omega
  rw [hfew];simp only [yk,yB,grd,if_true,yh,ug,ul,yA];cases m.tables.all tabF with
  | false=>simp
  | true=>
   rw [if_neg (by simp),yA];have h4:loopF (ref13_Bounded.l4 n m) n 0=some (m.actions.all actF):=by
    have:=loopF_lall (body:=ref13_Bounded.l4 n m) (l:=m.actions) (n:=n) (st:=λi=>(i:Int)) actF (some false) (some true) (λrec i hi=>?_) (λrec=>?_) (by omega)
    ·simp only [Int.natCast_zero] at this;rw [this];cases m.actions.all actF <;> rfl
    ·simp only [ref13_Bounded.l4,lt_len hi,if_true,idx_nat hi,yb];unfold actF;by_cases hx:((decide (m.actions[i].arguments.length≤6)&&decide (m.actions[i].effect.delta.length≤20))&&(decide (m.actions[i].effect.hold.length≤10)&&decide (m.actions[i].effect.updates.length≤40)))=true
     ·rw [hx,yA];simp only [yc,yf] at hx;rw [if_neg (by simp;omega)];have:=loopF_lall (body:=ref13_Bounded.l5 n i rec m.actions[i]) (l:=m.actions[i].effect.hold) (n:=n) (st:=λk=>(k:Int)) (λr=>decide (r.terms.length≤20)) (some false) (rec ((i+1:Nat):Int)) (λrec' k hk=>?_) (λrec'=>?_) (by omega)
      ·simpa using this
      ·simp only [ref13_Bounded.l5,lt_len hk,if_true,idx_nat hk,yb,add64_1 (i:=k) (by omega)];by_cases h:m.actions[i].effect.hold[k].terms.length≤20
       ·rw [if_neg (by simp;omega),if_pos (by simp [h])]
       ·rw [if_pos (by simp;omega),if_neg (by simp [h])]
      ·simp only [ref13_Bounded.l5,ge_len,yi,if_false,add64_1 (i:=i) (by omega)]
     ·rw [if_pos (by
       simp only [yc,yf] at hx;simp only [yz,yf];omega)]
      simp only [yD] at hx;rw [hx,yZ,if_neg (by simp)]
    ·simp [ref13_Bounded.l4]
   have h3:loopF (ref13_Bounded.l3 n m) n 0=some (m.operations.all opF&&m.actions.all actF):=by
    have:=loopF_lall (body:=ref13_Bounded.l3 n m) (l:=m.operations) (n:=n) (st:=λi=>(i:Int)) opF (some false) (some (m.actions.all actF)) (λrec i hi=>?_) (λrec=>?_) (by omega)
    ·simp only [Int.natCast_zero] at this;rw [this];cases m.operations.all opF <;> rfl
    ·simp only [ref13_Bounded.l3,lt_len hi,if_true,idx_nat hi,yb,yk,yB,grd,yh,add64_1 (i:=i) (by omega)];unfold opF;by_cases h1:m.operations[i].name.length≤40
     ·by_cases h2:m.operations[i].sorts.length≤6
      ·rw [if_neg (by simp;omega),if_pos (by simp [h1,h2])]
      ·rw [if_pos (by simp;omega),if_neg (by simp [h2])]
     ·rw [if_pos (by simp;omega),if_neg (by simp [h1])]
    ·simp only [ref13_Bounded.l3,ge_len,yi,if_false,h4]
   have h2:loopF (ref13_Bounded.l2 n m) n 0=some (m.constraints.all (λc=>decide (c.row.terms.length≤20))&&(m.operations.all opF&&m.actions.all actF)):=by
    have:=loopF_lall (body:=ref13_Bounded.l2 n m) (l:=m.constraints) (n:=n) (st:=λi=>(i:Int)) (λc=>decide (c.row.terms.length≤20)) (some false) (some (m.operations.all opF&&m.actions.all actF)) (λrec i hi=>?_) (λrec=>?_) (by omega)
    ·simp only [Int.natCast_zero] at this;rw [this];cases m.constraints.all (λc=>decide (c.row.terms.length≤20)) <;> rfl
    ·simp only [ref13_Bounded.l2,lt_len hi,if_true,idx_nat hi,yb,add64_1 (i:=i) (by omega)];by_cases h:m.constraints[i].row.terms.length≤20
     ·rw [if_neg (by simp;omega),if_pos (by simp [h])]
     ·rw [if_pos (by simp;omega),if_neg (by simp [h])]
    ·simp only [ref13_Bounded.l2,ge_len,yi,if_false,h3]
   have:=loopF_lall (body:=ref13_Bounded.l1 n m) (l:=m.families) (n:=n) (st:=λi=>(i:Int)) (λs=>decide (s.length≤40)) (some false) (some (m.constraints.all (λc=>decide (c.row.terms.length≤20))&&(m.operations.all opF&&m.actions.all actF))) (λrec i hi=>?_) (λrec=>?_) (by omega)
   ·simp only [Int.natCast_zero] at this;rw [this];cases m.families.all (λs=>decide (s.length≤40)) <;> rfl
   ·simp only [ref13_Bounded.l1,lt_len hi,if_true,idx_nat hi,yb,add64_1 (i:=i) (by omega)];by_cases h:m.families[i].length≤40
    ·rw [if_neg (by simp;omega),if_pos (by simp [h])]
    ·rw [if_pos (by simp;omega),if_neg (by simp [h])]
   ·simp only [ref13_Bounded.l1,ge_len,yi,if_false,h2]
theorem boundedP_small {m:Model} (h:boundedP m=true):SmallM m:=by
 simp only [boundedP,lensP,tabF,opF,actF,yc,yI,uj,yH,yt,yf] at h;obtain ⟨⟨⟨⟨⟨⟨⟨b1,b2⟩,b3⟩,b4⟩,b5⟩,b6⟩,b7⟩,c1,c2,c3,c4,c5⟩:=h;exact ⟨by omega,by omega,c1,by omega,c2,by omega,c3,by omega,c4,by omega,λa ha=>by
  obtain ⟨⟨⟨p1,p2⟩,p3,p4⟩,p5⟩:=c5 a ha;exact ⟨p1,p2,p3,p4,p5⟩,by omega⟩
def prodP:Int→List Range→Bool
 | _,[]=>true
 | p,r::l=>!decide (4096<mul64 p (add64 (sub64 r.hi r.lo) 1))&&prodP (mul64 p (add64 (sub64 r.hi r.lo) 1)) l
def strictR (m:Model):List Range:=if layoutP m.sorts m.tables=true then rangesP m.sorts true m.tables else []
def fewP (m:Model):Bool:=((boundedP m&&decide (m.actions.length≤12))&&decide (m.constraints.length≤40))&&(m.actions.all (λa=>decide (a.effect.hold.length≤4))&&(decide ((strictR m).length≤12)&&prodP 1 (strictR m)))
theorem ref13_strict_eq {n:Nat} {m:Model} (hn:1000000≤n) (hS:SmallM m):ref13_strict n m=some (strictR m):=by
 have hs:=hS.sorts;have ht:=hS.tables;unfold ref13_strict;rw [ref09_Ranges_eq hn (by omega) (by omega) (λt h=>by have:=hS.tab t h;omega)];rfl
theorem strictR_len {m:Model} (hS:SmallM m):(strictR m).length≤2592:=by
 have ht:=hS.tables;unfold strictR;split
 ·rename_i hL;obtain ⟨l1,l2,l3,l4⟩:=layoutP_tab hL;have:=rangesP_len (sizes:=m.sorts) (s:=true) (l:=m.tables) λx hx=>(l4 x hx).2.2.2.2
  omega
 ·simp
theorem ref13_Few_eq {n:Nat} {m:Model} (hn:1000000≤n):ref13_Few n m=some (fewP m):=by
 unfold ref13_Few fewP;rw [ref13_Bounded_eq hn,yb];have e1:decide (12<(m.actions.length:Int)) = !decide (m.actions.length≤12):=not_lt_le (a:=12);have e2:decide (40<(m.constraints.length:Int)) = !decide (m.constraints.length≤40):=not_lt_le (a:=40);rw [e1,e2,← Bool.not_and,← Bool.not_and];cases hb:(boundedP m&&decide (m.actions.length≤12)&&decide (m.constraints.length≤40)) with
 | false=>simp
 | true=>
  simp only [yc,yf] at hb;have hS:=boundedP_small hb.1.1;have hsl:=strictR_len hS;have T:(if (decide (12<((strictR m).length:Int)))=true then some false else loopF (ref13_Few.l2 n (strictR m)) n (1,0))=some (decide ((strictR m).length≤12)&&prodP 1 (strictR m)):=by
   by_cases h:(strictR m).length≤12
   ·rw [if_neg (by simp;omega),decide_eq_true h,yA];refine loopF_I (body:=ref13_Few.l2 n (strictR m)) (len:=(strictR m).length) (st:=λ(p:Int) i=>(p,(i:Int))) (g:=λi p=>some (prodP p ((strictR m).drop i))) (λ_ _=>True) (λrec i p hi _ hr=>?_) (λrec p _=>?_) n 0 1 (yx _) (by omega) trivial
    ·simp only [ref13_Few.l2,lt_len hi,if_true,idx_nat hi,yb,add64_1 (i:=i) (by omega),hr _ trivial];rw [drop_cons hi,prodP];cases decide (4096<mul64 p (add64 (sub64 (strictR m)[i].hi (strictR m)[i].lo) 1)) <;> simp
    ·simp [ref13_Few.l2,prodP]
   ·rw [if_pos (by simp;omega),decide_eq_false h,yZ]
  have:=loopF_lall (body:=ref13_Few.l1 n m) (l:=m.actions) (n:=n) (st:=λi=>(i:Int)) (λa=>decide (a.effect.hold.length≤4)) (some false) (some (decide ((strictR m).length≤12)&&prodP 1 (strictR m))) (λrec i hi=>?_) (λrec=>?_) (by omega)
  ·simp only [Int.natCast_zero] at this;rw [if_neg (by simp),this];cases m.actions.all (λa=>decide (a.effect.hold.length≤4)) <;> simp
  ·simp only [ref13_Few.l1,lt_len hi,if_true,idx_nat hi,yb,add64_1 (i:=i) (by omega)];by_cases h:m.actions[i].effect.hold.length≤4
   ·rw [if_neg (by simp;omega),if_pos (by simp [h])]
   ·rw [if_pos (by simp;omega),if_neg (by simp [h])]
  ·simp only [ref13_Few.l1,ge_len,yi,if_false,ref13_strict_eq hn hS,yb,T]
theorem fewP_small {m:Model} (h:fewP m=true):SmallM m:=by
 simp only [fewP,yc] at h;exact boundedP_small h.1.1.1
structure ValidM (m:Model):Prop where
 lay:layoutP m.sorts m.tables=true
 fams:m.families.length≤24∧distP [] m.families=true
 cons:consP m (rangesP m.sorts true m.tables)=true
 ops:opsP m=true
 acts:actsP m (rangesP m.sorts true m.tables).length=true
 hid:hidesP m=true
theorem validP_iff {m}:validP m=true↔ValidM m:=by
 simp only [validP,yc,yf];exact ⟨λ⟨⟨a,b,c⟩,d,e,f,g⟩=>⟨a,⟨b,c⟩,d,e,f,g⟩,λ⟨a,⟨b,c⟩,d,e,f,g⟩=>⟨⟨a,b,c⟩,d,e,f,g⟩⟩
def stepT (s:Nat) (L:List (List Int)):List (List Int):=L.flatMap λl=>(List.range s).map λe:Nat=>l++[(e:Int)]
def tuplesF (sizes:List Int):List Int→List (List Int)→List (List Int)
 | [],L=>L
 | c::cols,L=>tuplesF sizes cols (stepT (sizeAt sizes c).toNat L)
def tuplesP (sizes cols:List Int):List (List Int):=tuplesF sizes cols [[]]
theorem tuplesF_append (sizes):∀ (a b:List Int) (L:List (List Int)),tuplesF sizes (a++b) L=tuplesF sizes b (tuplesF sizes a L)
 | [],_,_=>rfl
 | _::a,b,L=>by simp only [y9,tuplesF];exact tuplesF_append sizes a b _
theorem stepT_append (s A B):stepT s (A++B)=stepT s A++stepT s B:=by simp [stepT]
theorem stepT_len {s L}:(stepT s L).length=L.length*s:=by
 induction L with
 | nil=>simp [stepT]
 | cons l L ih=>
  have:stepT s (l::L)=stepT s [l]++stepT s L:=stepT_append s [l] L;rw [this,yO,ih];simp [stepT,ux,Nat.add_comm]
theorem stepT_mem {s L k} (h:∀ l∈L,l.length=k):∀ l∈stepT s L,l.length=k+1:=λl hl=>by
 simp only [stepT,List.mem_flatMap,y7] at hl;obtain ⟨x,hx,e,-,rfl⟩:=hl;simp [h x hx]
theorem stepT_snoc {s:Nat} {L:List (List Int)} {i:Nat} (hi:i<L.length):stepT s (L.take (i+1))=stepT s (L.take i)++(List.range s).map λe:Nat=>L[i]++[(e:Int)]:=by
 rw [yC hi,stepT_append];congr 1;simp [stepT]
def placeP (i:Nat) (L:List (List Int)):List Place:=L.map λl=>⟨(i:Int),l⟩
def placesP (sizes:List Int) (s:Bool):List Table→Nat→List Place
 | [],_=>[]
 | t::l,i=>(if decide (t.kind≤1)=s then placeP i (tuplesP sizes t.columns) else [])++placesP sizes s l (i+1)
theorem placesP_append (sizes s):∀ (a b:List Table) (i:Nat),placesP sizes s (a++b) i=placesP sizes s a i++placesP sizes s b (i+a.length)
 | [],b,i=>by simp [placesP]
 | t::a,b,i=>by
  simp only [y9,placesP,placesP_append sizes s a b,yP,yU];rw [show i+1+a.length=i+(a.length+1) by omega]
theorem placesP_snoc {sizes:List Int} {s:Bool} {l:List Table} {i:Nat} (hi:i<l.length):placesP sizes s (l.take (i+1)) 0=placesP sizes s (l.take i) 0++(if decide (l[i].kind≤1)=s then placeP i (tuplesP sizes l[i].columns) else []):=by
 rw [yC hi,placesP_append];congr 1;simp only [placesP,ut,yQ,uk];rw [show min i l.length=i by omega]
theorem open_l4 {n:Nat} {x40:Int} {rec:((List (List Int))×Int)→Option ((Option Layout)×Bool)} {l:List Int} {s:Nat} {b:List (List Int)} {k:Nat} (hk:add64 x40 1=(k:Int)) (hs:s≤6) (hl:l.length≤100) (hb:b.length≤100000) (hn:1000000≤n) :
  loopF (symmetry_open.l4 n x40 rec l (s:Int)) n (b,0)=rec (b++(List.range s).map λe:Nat=>l++[(e:Int)],(k:Int)):=by
 have:=loopF_g (body:=symmetry_open.l4 n x40 rec l (s:Int)) (len:=s) (st:=λi=>(b++(List.range i).map λe:Nat=>l++[(e:Int)],(i:Int))) (g:=λ_=>rec (b++(List.range s).map λe:Nat=>l++[(e:Int)],(k:Int))) (λrec' i hi hr=>?_) (λrec'=>?_) n 0 (yx _) (by omega)
 ·simpa using this
 ·rw [List.range_succ,ua,← yU] at hr;simp only [symmetry_open.l4,lt_nat hi,if_true,add64_1 (i:=i) (by omega)];rw [app_some (by simp;omega),yb,app_some (by simp;omega),yb,app_some (by simp;omega),yb];exact hr
 ·simp only [symmetry_open.l4,ge_nat (ym s),yi,if_false,hk]
theorem open_l3 {n:Nat} {m} {L:List (List Int)} {x34 x36:Int} {rec:((List (List Int))×Int)→Option ((Option Layout)×Bool)} {s k:Nat} (hk:add64 x34 1=(k:Int)) (hx:idx m.sorts x36=some (s:Int)) (hs:s≤6) (hl:∀ l∈L,l.length≤100) (hL:L.length≤1000) (hn:1000000≤n) :
  loopF (symmetry_open.l3 n m L x34 rec x36) n ([],0)=rec (stepT s L,(k:Int)):=by
 have:=loopF_g (body:=symmetry_open.l3 n m L x34 rec x36) (len:=L.length) (st:=λi=>(stepT s (L.take i),(i:Int))) (g:=λ_=>rec (stepT s L,(k:Int))) (λrec' i hi hr=>?_) (λrec'=>?_) n 0 (yx _) (by omega)
 ·simpa [stepT] using this
 ·rw [stepT_snoc hi] at hr;simp only [symmetry_open.l3,lt_len hi,if_true,idx_nat hi,yb,hx];have hlen:(stepT s (L.take i)).length≤100000:=by
   rw [stepT_len,yQ];have:min i L.length*s≤1000*6:=uL (by omega) hs;omega
  rw [open_l4 (k:=i+1) (add64_1 (by omega)) hs (hl _ (yw hi)) hlen hn];exact hr
 ·simp only [symmetry_open.l3,ge_len,yi,if_false,hk,List.take_length]
theorem open_l5 {n:Nat} {i:Nat} {rec:((List Place)×(List Place)×Int)→Option ((Option Layout)×Bool)} {t:Table} {L:List (List Int)} {b1 b2:List Place} (hi:i<1000000) (hL:L.length≤1000) (h1:b1.length≤100000) (h2:b2.length≤100000) (hn:1000000≤n) :
  loopF (symmetry_open.l5 n (i:Int) rec t L) n (b1,b2,0)=rec (b1++(if decide (t.kind≤1)=true then placeP i L else []),b2++(if decide (t.kind≤1)=false then placeP i L else []),((i+1:Nat):Int)):=by
 cases hk:decide (t.kind≤1) with
 | true=>
  simp only [if_true,Bool.true_eq_false,if_false,ut];have:=loopF_g (body:=symmetry_open.l5 n (i:Int) rec t L) (len:=L.length) (st:=λk=>(b1++placeP i (L.take k),b2,(k:Int))) (g:=λ_=>rec (b1++placeP i L,b2,((i+1:Nat):Int))) (λrec' k hk' hr=>?_) (λrec'=>?_) n 0 (yx _) (by omega)
  ·simpa [placeP] using this
  ·simp only [placeP] at hr ⊢;rw [← map_take_snoc hk',← yU] at hr;simp only [symmetry_open.l5,jn,lt_len hk',if_true,idx_nat hk',yb,hk,add64_1 (i:=k) (by omega)];rw [app_some (by simp;omega),yb];exact hr
  ·simp only [symmetry_open.l5,ge_len,yi,if_false,List.take_length,add64_1 (i:=i) (by omega)]
 | false=>
  simp only [yi,if_true,if_false,ut];have:=loopF_g (body:=symmetry_open.l5 n (i:Int) rec t L) (len:=L.length) (st:=λk=>(b1,b2++placeP i (L.take k),(k:Int))) (g:=λ_=>rec (b1,b2++placeP i L,((i+1:Nat):Int))) (λrec' k hk' hr=>?_) (λrec'=>?_) n 0 (yx _) (by omega)
  ·simpa [placeP] using this
  ·simp only [placeP] at hr ⊢;rw [← map_take_snoc hk',← yU] at hr;simp only [symmetry_open.l5,jn,lt_len hk',if_true,idx_nat hk',yb,hk,yi,if_false,add64_1 (i:=k) (by omega)];rw [app_some (by simp;omega),yb];exact hr
  ·simp only [symmetry_open.l5,ge_len,yi,if_false,List.take_length,add64_1 (i:=i) (by omega)]
theorem tuplesF_bound {sizes} (hs:sizes.all sizeOK=true):∀ (cols:List Int) (L:List (List Int)) (A k:Nat),cols.all (colOK sizes)=true→L.length≤A→(∀ l∈L,l.length=k)→(tuplesF sizes cols L).length≤A*6 ^ cols.length∧∀ l∈tuplesF sizes cols L,l.length=k+cols.length
 | [],L,A,k,_,h1,h2=>by simpa [tuplesF] using ⟨h1,h2⟩
 | c::cols,L,A,k,hc,h1,h2=>by
  simp only [um,yc] at hc;have hz:=sizeAt_ne hs hc.1;have hlen:(stepT (sizeAt sizes c).toNat L).length≤A*6:=by
   rw [stepT_len];exact uL h1 (by omega)
  obtain ⟨p1,p2⟩:=tuplesF_bound hs cols (stepT (sizeAt sizes c).toNat L) (A*6) (k+1) hc.2 hlen (stepT_mem h2);simp only [tuplesF,yP];refine ⟨?_,λl hl=>?_⟩
  ·rw [Nat.pow_succ,Nat.mul_comm (6 ^ cols.length) 6,← Nat.mul_assoc];exact p1
  ·rw [p2 l hl];omega
theorem tuplesP_bound {sizes cols} (hs:sizes.all sizeOK=true) (hc:cols.all (colOK sizes)=true) (h3:cols.length≤3):(tuplesP sizes cols).length≤216∧∀ l∈tuplesP sizes cols,l.length=cols.length:=by
 obtain ⟨p1,p2⟩:=tuplesF_bound hs cols [[]] 1 0 hc (by simp) (by simp);refine ⟨uf p1 ?_,λl hl=>by simpa using p2 l hl⟩;have:6 ^ cols.length≤6 ^ 3:=uJ (by decide) h3;omega
theorem open_l2 {n:Nat} {m} {b1 b2:List Place} {i:Nat} {rec:((List Place)×(List Place)×Int)→Option ((Option Layout)×Bool)} {t:Table} (hs:m.sorts.all sizeOK=true) (hc:t.columns.all (colOK m.sorts)=true) (h3:t.columns.length≤3) (hi:i<1000000) (h1:b1.length≤100000) (h2:b2.length≤100000) (hn:1000000≤n) :
  loopF (symmetry_open.l2 n m b1 b2 (i:Int) rec t) n ([[]],0)=rec (b1++(if decide (t.kind≤1)=true then placeP i (tuplesP m.sorts t.columns) else []),b2++(if decide (t.kind≤1)=false then placeP i (tuplesP m.sorts t.columns) else []),((i+1:Nat):Int)):=by
 have hpre:∀ k,(t.columns.take k).all (colOK m.sorts)=true:=λk=>yt.2 λc hm=>yt.1 hc c (List.mem_of_mem_take hm)
 have:=loopF_g (body:=symmetry_open.l2 n m b1 b2 (i:Int) rec t) (len:=t.columns.length) (st:=λk=>(tuplesP m.sorts (t.columns.take k),(k:Int))) (g:=λ_=>rec (b1++(if decide (t.kind≤1)=true then placeP i (tuplesP m.sorts t.columns) else []),b2++(if decide (t.kind≤1)=false then placeP i (tuplesP m.sorts t.columns) else []),((i+1:Nat):Int))) (λrec' k hk hr=>?_) (λrec'=>?_) n 0 (yx _) (by omega)
 ·simpa [tuplesP,tuplesF] using this
 ·have hcol:=yt.1 hc _ (yw hk);have hz:=sizeAt_ne hs hcol;obtain ⟨p1,p2⟩:=tuplesP_bound hs (hpre k) (by simp;omega);have hsz:idx m.sorts t.columns[k]=some (((sizeAt m.sorts t.columns[k]).toNat:Nat):Int):=by
   rw [idx_col hcol];unfold sizeAt at hz ⊢;congr 1;omega
  simp only [symmetry_open.l2,lt_len hk,if_true,idx_nat hk,yb];rw [open_l3 (k:=k+1) (add64_1 (by omega)) hsz (by omega) (λl hl=>by rw [p2 l hl];simp;omega) (by omega) hn,← hr];congr 2;unfold tuplesP;rw [yC hk,tuplesF_append];rfl
 ·obtain ⟨p1,-⟩:=tuplesP_bound hs hc h3;simp only [symmetry_open.l2,ge_len,yi,if_false,List.take_length];exact open_l5 hi (by omega) h1 h2 hn
theorem placesP_len {sizes s}:∀ {l:List Table} {i:Nat},(∀ t∈l,(tuplesP sizes t.columns).length≤216)→(placesP sizes s l i).length≤l.length*216
 | [],_,_=>by simp [placesP]
 | t::l,i,h=>by
  have ih:=placesP_len (s:=s) (l:=l) (i:=i+1) λx hx=>h x (by simp [hx])
  have ht:=h t (by simp);simp only [placesP,yO,yP];split
  ·simp only [placeP,yK];omega
  ·simp only [uD];omega
def layoutM (m:Model):Layout:=⟨m,placesP m.sorts true m.tables 0,placesP m.sorts false m.tables 0⟩
theorem symmetry_open_eq {n:Nat} {m} (hF:Fuel n) (hS:SmallM m):symmetry_open n m=some (if validP m=true then (some (layoutM m),true) else (none,false)):=by
 have hn:=hF.big;have htl:=hS.tables;unfold symmetry_open;rw [model_Valid_eq hF hS,yb];cases hv:validP m with
 | false=>simp
 | true=>
  have hV:=validP_iff.1 hv;obtain ⟨l1,l2,l3,l4⟩:=layoutP_tab hV.lay;have hb:∀ t∈m.tables,(tuplesP m.sorts t.columns).length≤216:=λt ht=>(tuplesP_bound l3 (l4 t ht).2.2.2.1 (l4 t ht).2.2.1).1
  rw [if_neg (by simp),if_pos rfl];have:=loopF_g (body:=symmetry_open.l1 n m) (len:=m.tables.length) (st:=λi=>(placesP m.sorts true (m.tables.take i) 0,placesP m.sorts false (m.tables.take i) 0,(i:Int))) (g:=λ_=>some (some (layoutM m),true)) (λrec i hi hr=>?_) (λrec=>?_) n 0 (yx _) (by omega)
  ·simpa [placesP] using this
  ·have hmem:=yw hi;obtain ⟨-,-,c1,c2,-⟩:=l4 _ hmem;have hA:=placesP_len (s:=true) (l:=m.tables.take i) (i:=0) λt ht=>hb t (List.mem_of_mem_take ht)
   have hB:=placesP_len (s:=false) (l:=m.tables.take i) (i:=0) λt ht=>hb t (List.mem_of_mem_take ht)
   simp only [yQ] at hA hB;rw [placesP_snoc hi,placesP_snoc hi] at hr;simp only [symmetry_open.l1,lt_len hi,if_true,idx_nat hi,yb];rw [open_l2 l3 c2 c1 (by omega) (by omega) (by omega) (by omega)];exact hr
  ·simp [symmetry_open.l1,layoutM]
def questP (m:Model) (q:Question):Bool:=
 (((decide (0≤q.e)&&decide (q.e<(m.actions.length:Int)))&&(decide (0≤q.f)&&decide (q.f<(m.actions.length:Int))))&&decide (0≤q.target.index)) &&
 (if q.target.hold=true then decide (q.target.index<(((idx m.actions q.e).getD default).effect.hold.length:Int)) else decide (q.e≤q.f)&&decide (q.target.index<(m.constraints.length:Int)))
theorem awake_spec:law16_awake 18446744073709551616=some true:=by decide +kernel
theorem keywords_spec:(lexer_keywords 18446744073709551616).map (λm=>m.es.map (λe=>e.2))=some (kwL.map λk=>(k,true)):=by decide +kernel
theorem fuel_N:Fuel 18446744073709551616:=by
 refine ⟨by decide,?_⟩;have h:=keywords_spec;cases hk:lexer_keywords 18446744073709551616 with
 | none=>rw [hk] at h;cases h
 | some m=>
  rw [hk] at h;simp only [yG,yg] at h;refine ⟨m,rfl,λe he=>?_,λk=>?_⟩
  ·have:e.2∈m.es.map (λe=>e.2):=List.mem_map_of_mem he;rw [h] at this;simp only [y7] at this;obtain ⟨x,-,hx⟩:=this;rw [← hx]
  ·have:m.es.map (λe=>e.2.1)=kwL:=by
    have e1:m.es.map (λe=>e.2.1)=(m.es.map (λe=>e.2)).map (·.1):=by rw [uw];rfl
    rw [e1,h,uw];exact List.map_id kwL
   rw [this]
def inBox:List Range→List Int→Bool
 | r::rs,x::xs=>(decide (r.lo≤x)&&decide (x≤r.hi))&&inBox rs xs
 | [],[]=>true
 | _,_=>false
def termOK (k:Nat) (t:Term):Prop:=0≤t.cell∧t.cell<(k:Int)∧-1000≤t.factor∧t.factor≤1000
theorem getD_idx {s:List Int} {c:Int} (h0:0≤c) (h1:c<(s.length:Int)):idx s c=some (s.getD c.toNat 0):=by
 obtain ⟨k,rfl⟩:=yS h0;have:k<s.length:=by omega
 rw [idx_nat this];simp [List.getD,this]
structure GraphIn (c:Constraint) (s:List Int) (size:Nat):Prop where
 sz:c.size=(size:Int)
 pos:1≤size
 six:size≤6
 first:0≤c.first
 fits:c.first+(size*size:Nat)≤(s.length:Int)
 len:s.length≤1000
inductive ConIn (c:Constraint) (k:Nat):Prop
 | row:c.kind=0→(∀ t∈c.row.terms,termOK k t)→c.row.terms.length≤1000→(-4000000000≤c.row.bound∧c.row.bound≤4000000000)→ConIn c k
 | graph (size:Nat):c.kind=1→c.size=(size:Int)→1≤size→size≤6→0≤c.first→c.first+(size*size:Nat)≤(k:Int)→ConIn c k

def boxM (m:Model):List Range:=rangesP m.sorts true m.tables
theorem ref16_Cells_eq {n m t} (hc:t.columns.all (colOK m.sorts)=true) (hl:t.columns.length≤1000) (hn:1000000≤n):ref16_Cells n m t=some (widthP m.sorts t.columns 1):=by
 have:=loopF_g (body:=ref16_Cells.l1 n m t) (len:=t.columns.length) (st:=λi=>(widthP m.sorts (t.columns.take i) 1,(i:Int))) (g:=λ_=>some (widthP m.sorts t.columns 1)) (λrec i hi hr=>?_) (λrec=>?_) n 0 (yx _) (by omega)
 ·simpa [ref16_Cells,widthP] using this
 ·rw [yC hi,widthP_append] at hr;simp only [widthP] at hr;simp only [ref16_Cells.l1,lt_len hi,if_true,idx_nat hi,yb,idx_col (yt.1 hc _ (yw hi)),add64_1 (i:=i) (by omega),hr]
 ·simp [ref16_Cells.l1]
theorem ref16_Total_eq {n m} (hL:layoutP m.sorts m.tables=true) (hn:1000000≤n):ref16_Total n m=some ((boxM m).length:Int):=by
 obtain ⟨l1,l2,l3,l4⟩:=layoutP_tab hL;unfold ref16_Total;have:=loopF_g (body:=ref16_Total.l1 n m) (len:=m.tables.length) (st:=λi=>(((rangesP m.sorts true (m.tables.take i)).length:Int),(i:Int))) (g:=λ_=>some ((boxM m).length:Int)) (λrec i hi hr=>?_) (λrec=>?_) n 0 (yx _) (by omega)
 ·simpa [rangesP] using this
 ·obtain ⟨-,-,c1,c2,c3,c4⟩:=l4 _ (yw hi);have hlen:=rangesP_len (sizes:=m.sorts) (s:=true) (l:=m.tables.take i) λx hx=>(l4 x (List.mem_of_mem_take hx)).2.2.2.2
  simp only [yQ] at hlen;rw [rangesP_snoc hi] at hr;have hcell:=ref16_Cells_eq (n:=n) (m:=m) (t:=m.tables[i]) c2 (by omega) hn;simp only [ref16_Total.l1,jn,lt_len hi,if_true,idx_nat hi,yb,ref16_Strict,hcell,add64_1 (i:=i) (by omega)];by_cases hst:(m.tables[i].kind==0||m.tables[i].kind==1)=true
  ·have hst':(strictP m.tables[i].kind==true)=true:=by simpa [strictP] using hst
   rw [if_pos hst'] at hr;rw [if_pos hst];have e:add64 ((rangesP m.sorts true (m.tables.take i)).length:Int) (widthP m.sorts m.tables[i].columns 1)=((rangesP m.sorts true (m.tables.take i)++List.replicate (widthP m.sorts m.tables[i].columns 1).toNat m.tables[i].range).length:Int):=by
    unfold add64;rw [w64_id (by omega) (by omega),yO,yX];omega
   rw [e];exact hr
  ·have hst':¬ (strictP m.tables[i].kind==true)=true:=by simpa [strictP] using hst
   rw [if_neg hst'] at hr;rw [if_neg hst];exact hr
 ·simp [ref16_Total.l1,boxM]
structure StateOK (m:Model) (s:List Int):Prop where
 len:s.length=(boxM m).length
 small:∀ x∈s,-9999≤x∧x≤9999


theorem sortO_of {α:Type} {f:α→α→Option Int} {c:α→α→Int} {l:List α} (h1:∀ x∈l,∀ y∈l,f x y=some (c x y)) (irr:∀ x,¬ c x x<0) (tr:∀ x y z,c x y<0→c y z<0→c x z<0) (nt:∀ x y z,¬ c x y<0→¬ c y z<0→¬ c x z<0) (hl:l.length<4611686018427387904) :
  sortO f l=some (sortF (λx y=>(f x y).getD 0) l)∧swoB (λx y=>(f x y).getD 0) l=true:=by
 have hs:swoB (λx y=>(f x y).getD 0) l=true:=by
  unfold swoB;rw [yt];intro x hx;rw [yc,yt];refine ⟨by simpa [h1 x hx x hx] using irr x,λy hy=>?_⟩;rw [yt];intro z hz;simp only [h1 x hx y hy,h1 y hy z hz,h1 x hx z hz,yh,yc,yz,yI,ub,yf,yH];have a1:=tr x y z;have a2:=nt x y z;constructor
  ·by_cases p:c x y<0
   ·by_cases q:c y z<0
    ·exact .inr (a1 p q)
    ·exact .inl (.inr q)
   ·exact .inl (.inl p)
  ·by_cases p:c x y<0
   ·exact .inl (.inl p)
   ·by_cases q:c y z<0
    ·exact .inl (.inr q)
    ·exact .inr (a2 p q)
 refine ⟨?_,hs⟩;unfold sortO;rw [if_pos];simp only [yc,yt,yf];exact ⟨⟨λx hx y hy=>by rw [h1 x hx y hy];rfl,hs⟩,hl⟩
theorem add64_sm {x y} (h1 : -9223372036854775808≤x+y) (h2:x+y≤9223372036854775807):add64 x y=x+y:=w64_id h1 h2
theorem mul64_sm {x y} (h1 : -9223372036854775808≤x*y) (h2:x*y≤9223372036854775807):mul64 x y=x*y:=w64_id h1 h2
theorem sub64_sm {x y} (h1 : -9223372036854775808≤x - y) (h2:x - y≤9223372036854775807):sub64 x y=x - y:=w64_id h1 h2


structure ConOK (K:Nat) (c:Constraint):Prop where
 kind:c.kind=0∨c.kind=1
 len:c.row.terms.length≤1000
 sz:c.kind=1→∃ s:Nat,c.size=(s:Int)∧1≤s∧s≤6∧0≤c.first∧c.first+((s*s:Nat):Int)≤(K:Int)
structure ActOK (a:Action):Prop where
 delta:a.effect.delta.length≤20
 hold:a.effect.hold.length≤10
 terms:∀ r∈a.effect.hold,r.terms.length≤1000


inductive Weaker:List Row→List Row→Prop
 | nil:Weaker [] []
 | cons {r s:Row} {R S:List Row}:r.terms=s.terms→r.bound≤s.bound→Weaker R S→Weaker (r::R) (s::S)


section
variable (E:Nat→Nat→Bool) (K:Nat)
end
theorem perm_uniq {α:Type} {R:α→α→Prop} (hanti:∀ a b,R a b→R b a→a=b):∀ {l m:List α},l.Perm m→l.Pairwise R→m.Pairwise R→l=m
 | [],m,h,_,_=>by simpa using h.length_eq.symm
 | a::l,[],h,_,_=>by simpa using h.length_eq
 | a::l,b::m,h,h1,h2=>by
  have e:a=b:=by
   rw [ur] at h1 h2;have ha:=h.mem_iff.1 (List.mem_cons_self (a:=a) (l:=l));have hb:=h.mem_iff.2 (List.mem_cons_self (a:=b) (l:=m));rcases yM.1 ha with ha | ha
   ·exact ha
   ·rcases yM.1 hb with hb | hb
    ·exact hb.symm
    ·exact hanti _ _ (h1.1 b hb) (h2.1 a ha)
  subst e;rw [perm_uniq hanti ((List.perm_cons a).1 h) (ur.1 h1).2 (ur.1 h2).2]
def ones (K:Nat):List (List Int):=(List.range K).map λ(i:Nat)=>[(i:Int)]
structure PathL (K:Nat) (l:List Int):Prop where
 nd:l.Nodup
 pos:1≤l.length
 mem:∀ x∈l,0≤x∧x<(K:Int)

structure SameA (a:Action):Prop where
 add:∀ c,addP c a.effect.delta 0=addedP a.effect.delta c
 len:a.effect.delta.length≤20
section
variable {n:Nat} {c:Constraint} {a b:Action} {K:Nat} (ha:SameA a) (hb:SameA b) (h6:K≤6) (hn:1000000≤n)
include ha hb h6 hn
end


section
variable {E:Nat→Nat→Bool} {K:Nat}
structure Walk (E:Nat→Nat→Bool) (K p:Nat) (f:Nat→Nat):Prop where
 per:∀ i,f (i+p)=f i
 lt:∀ i,f i<K
 edge:∀ i,E (f i) (f (i+1))=true
end
theorem sto_at {α:Type} {l:List α} {i:Nat} {x:α} (h:i<l.length):sto l (i:Int) x=some (l.set i x):=by
 unfold sto;simp [h]


section
variable {c:Constraint} {K:Nat} {box:List Range} {s:List Int} {da db:List Change}
end
structure Scene (n:Nat) (m:Model) (q:Question) (a b:Action) (s:List Int):Prop where
 small:SmallM m
 valid:ValidM m
 quest:questP m q=true
 ha:idx m.actions q.e=some a
 hb:idx m.actions q.f=some b
 box:inBox (boxM m) s=true
 len:(boxM m).length≤100
 fuel:4294967296≤n
section
variable {n:Nat} {m:Model} {q:Question} {rows:List Int} {a b:Action} {s:List Int}
end

def elemP (s:Swap) (x:Int):Int:=if x=s.a then s.b else if x=s.b then s.a else x
theorem element_eq {n s x}:ref16_element n s x=some (elemP s x):=by
 unfold ref16_element elemP;simp only [beq_iff_eq];by_cases h:x=s.a
 ·rw [if_pos h,if_pos h]
 ·rw [if_neg h,if_neg h];by_cases h2:x=s.b
  ·rw [if_pos h2,if_pos h2]
  ·rw [if_neg h2,if_neg h2]
structure SwapOK (sizes:List Int) (s:Swap):Prop where
 sort:colOK sizes s.sort=true
 a:0≤s.a
 ab:s.a<s.b
 b:s.b<sizes.getD s.sort.toNat 0
def nK (sizes:List Int) (c:Int):Nat:=(sizes.getD c.toNat 0).toNat
def colS (s:Swap) (c:Int) (x:Nat):Nat:=if c=s.sort then (elemP s (x:Int)).toNat else x
theorem nK_ok {sizes:List Int} (hs:sizes.all sizeOK=true) {c} (hc:colOK sizes c=true):((nK sizes c:Nat):Int)=sizes.getD c.toNat 0∧1≤nK sizes c∧nK sizes c≤6:=by
 have:=yt.1 hs _ (idx_mem (idx_col hc));simp only [sizeOK,yc,yf] at this;unfold nK;omega
section
variable {sizes:List Int} {s:Swap} (h:SwapOK sizes s)
include h
theorem elem_nat (x:Nat):((elemP s (x:Int)).toNat:Int)=elemP s (x:Int):=by
 have h1:=h.a;have h2:=h.ab;unfold elemP;split
 ·omega
 ·split <;> omega
theorem colS_lt {c:Int} {x:Nat} (hx:x<nK sizes c):colS s c x<nK sizes c:=by
 have h1:=h.a;have h2:=h.ab;have h3:=h.b;unfold colS;by_cases e:c=s.sort
 ·rw [if_pos e];subst e;unfold nK elemP at *;split
  ·omega
  ·split <;> omega
 ·rw [if_neg e];exact hx
theorem colS_inv {c:Int} {x:Nat}:colS s c (colS s c x)=x:=by
 have h1:=h.a;have h2:=h.ab;unfold colS;by_cases e:c=s.sort
 ·rw [if_pos e,if_pos e,elem_nat h];unfold elemP;by_cases e1:(x:Int)=s.a
  ·rw [if_pos e1,if_neg (by omega),if_pos rfl];omega
  ·rw [if_neg e1];by_cases e2:(x:Int)=s.b
   ·rw [if_pos e2,if_pos rfl];omega
   ·rw [if_neg e2,if_neg e1,if_neg e2];omega
 ·rw [if_neg e,if_neg e]
end
def digP (sizes:List Int) (s:Swap):List Int→Nat→Nat
 | [],_=>0
 | c::cs,r=>colS s c (r % nK sizes c)+nK sizes c*digP sizes s cs (r / nK sizes c)
def wN (sizes:List Int):List Int→Nat
 | []=>1
 | c::cs=>nK sizes c*wN sizes cs
theorem wN_append (sizes:List Int):∀ l m:List Int,wN sizes (l++m)=wN sizes l*wN sizes m
 | [],m=>by simp [wN]
 | c::l,m=>by simp only [y9,wN,wN_append sizes l m,Nat.mul_assoc]
theorem dig_pos {sizes:List Int} {c:Int} {cs:List Int} {r:Nat} (hr:r<wN sizes (c::cs)):0<nK sizes c∧r / nK sizes c<wN sizes cs:=by
 have h0:0<nK sizes c:=by
  rcases Nat.eq_zero_or_pos (nK sizes c) with e | e
  ·rw [wN,e] at hr;simp at hr
  ·exact e
 exact ⟨h0,Nat.div_lt_of_lt_mul hr⟩
theorem dig_lt {sizes:List Int} {s:Swap} (h:SwapOK sizes s):∀ (cs:List Int) (r:Nat),r<wN sizes cs→digP sizes s cs r<wN sizes cs
 | [],r,hr=>by simp [digP,wN]
 | c::cs,r,hr=>by
  obtain ⟨h0,h1⟩:=dig_pos hr;have h2:=colS_lt h (Nat.mod_lt r h0);have h3:=Nat.mul_le_mul_left (nK sizes c) (dig_lt h cs _ h1);rw [Nat.mul_succ] at h3;simp only [digP,wN];omega
theorem dig_inv {sizes:List Int} {s:Swap} (h:SwapOK sizes s):∀ (cs:List Int) (r:Nat),r<wN sizes cs→digP sizes s cs (digP sizes s cs r)=r
 | [],r,hr=>by simp [digP,wN] at hr ⊢;omega
 | c::cs,r,hr=>by
  obtain ⟨h0,h1⟩:=dig_pos hr;have h2:=colS_lt h (Nat.mod_lt r h0);simp only [digP];rw [Nat.add_mul_mod_self_left,Nat.mod_eq_of_lt h2,Nat.add_mul_div_left _ _ h0,Nat.div_eq_of_lt h2,uk,colS_inv h,dig_inv h cs _ h1];exact Nat.mod_add_div r _
theorem width_w {sizes:List Int} (hs:sizes.all sizeOK=true):∀ (cols:List Int) (x:Nat),cols.all (colOK sizes)=true→x*6 ^ cols.length≤1000000→widthP sizes cols (x:Int)=((x*wN sizes cols.reverse:Nat):Int)
 | [],x,_,_=>by simp [widthP,wN]
 | c::cols,x,hc,hx=>by
  simp only [um,yc] at hc;obtain ⟨k1,k2,k3⟩:=nK_ok hs hc.1;rw [yP,Nat.pow_succ] at hx;have hp:1≤6 ^ cols.length:=Nat.one_le_pow _ _ (by decide);have h1:x*nK sizes c*6 ^ cols.length≤1000000:=by
   refine uf ?_ hx;rw [Nat.mul_assoc];refine Nat.mul_le_mul_left _ ?_;rw [Nat.mul_comm];exact Nat.mul_le_mul_left _ k3
  have h2:x*nK sizes c≤1000000:=uf (Nat.le_mul_of_pos_right _ hp) h1;have e:mul64 (x:Int) (sizes.getD c.toNat 0)=((x*nK sizes c:Nat):Int):=by
   rw [← k1,mul64_sm (by rw [← uh];omega) (by rw [← uh];omega),uh]
  rw [widthP,e,width_w hs cols _ hc.2 h1,List.reverse_cons,wN_append];simp only [wN,Nat.mul_one];rw [Nat.mul_assoc,Nat.mul_comm (nK sizes c)]
theorem width_3 {sizes:List Int} (hs:sizes.all sizeOK=true) {cols:List Int} (hc:cols.all (colOK sizes)=true) (h3:cols.length≤3):widthP sizes cols 1=((wN sizes cols.reverse:Nat):Int)∧1≤wN sizes cols.reverse∧wN sizes cols.reverse≤216:=by
 have hp:6 ^ cols.length≤6 ^ 3:=uJ (by decide) h3;have e:=width_w hs cols 1 hc (by omega);rw [Nat.one_mul] at e;have:=widthP_bound hs hc h3;refine ⟨e,?_,?_⟩ <;> (rw [show ((1:Nat):Int)=1 from rfl] at e;omega)
theorem rem64_nat {r k:Nat} (h0:0<k) (hr:r≤1000000):rem64 (r:Int) (k:Int)=some ((r % k:Nat):Int):=by
 unfold rem64;rw [if_neg (by omega),Int.tmod_eq_emod_of_nonneg (by omega)];congr 1
theorem quo64_nat {r k:Nat} (h0:0<k) (hr:r≤1000000):quo64 (r:Int) (k:Int)=some ((r / k:Nat):Int):=by
 have:=Nat.div_le_self r k;have e:((r:Int) / (k:Int))=((r / k:Nat):Int):=by simp
 unfold quo64;rw [if_neg (by omega),Int.tdiv_eq_ediv_of_nonneg (by omega),e];generalize r / k=q at this;rw [w64_id (by omega) (by omega)]
theorem move_dig {n m s t} {rest:Nat} (h:SwapOK m.sorts s) (hs:m.sorts.all sizeOK=true) (hc:t.columns.all (colOK m.sorts)=true) (h3:t.columns.length≤3) (hr:rest<wN m.sorts t.columns.reverse) (hn:1000000≤n) :
  loopF (ref16_move.l2 n m s t) n ((rest:Int),0,1,sub64 (t.columns.length:Int) 1)=some (add64 t.first ((digP m.sorts s t.columns.reverse rest:Nat):Int)):=by
 have hw:=(width_3 hs hc h3).2.2;have hd:=dig_lt h _ _ hr;have hlen:t.columns.reverse.length=t.columns.length:=List.length_reverse;have:=loopF_I (body:=ref16_move.l2 n m s t) (len:=t.columns.length) (st:=λ(x:Nat×Nat×Nat) i=>((x.1:Int),(x.2.1:Int),(x.2.2:Int),(t.columns.length:Int) - 1 - (i:Int))) (g:=λ_ _=>some (add64 t.first ((digP m.sorts s t.columns.reverse rest:Nat):Int)))
  (λi x=>x.2.1+x.2.2*digP m.sorts s (t.columns.reverse.drop i) x.1=digP m.sorts s t.columns.reverse rest∧x.1<wN m.sorts (t.columns.reverse.drop i)∧x.1≤216∧x.2.2≤6 ^ i) (λrec i x hi hI hrec=>?_) (λrec x hI=>?_) n 0 (rest,0,1) (yx _) (by omega) ⟨by simp,hr,by omega,by simp⟩
 ·have e:sub64 (t.columns.length:Int) 1=(t.columns.length:Int) - 1 - ((0:Nat):Int):=by rw [sub64_sm (by omega) (by omega)];omega
  rw [e];exact this
 ·obtain ⟨r,out,unit⟩:=x;obtain ⟨I1,I2,I3,I4⟩:=hI;simp only at I1 I2 I3 I4;have hi':i<t.columns.reverse.length:=by omega
  rw [drop_cons hi'] at I1 I2;obtain ⟨c,hcdef⟩:∃ c,c=t.columns.reverse[i]:=⟨_,rfl⟩
  rw [← hcdef] at I1 I2;have hidx:idx t.columns ((t.columns.length:Int) - 1 - (i:Int))=some c:=by
   have e:(t.columns.length:Int) - 1 - (i:Int)=((t.columns.length - 1 - i:Nat):Int):=by omega
   rw [e,idx_nat (by omega),hcdef,List.getElem_reverse]
  have hcol:=yt.1 hc c (idx_mem hidx);obtain ⟨k1,k2,k3⟩:=nK_ok hs hcol;obtain ⟨p0,p1⟩:=dig_pos I2;simp only [digP] at I1;have hp6:6 ^ i≤6 ^ 2:=uJ (by decide) (by omega);have hcs:=colS_lt h (Nat.mod_lt r p0);have hge:decide ((0:Int)≤(t.columns.length:Int) - 1 - (i:Int))=true:=by simp;omega
  have hm1:unit*colS s c (r % nK m.sorts c)≤216:=by
   rw [Nat.mul_add] at I1;omega
  have hm2:unit*nK m.sorts c≤36*6:=uL (by omega) k3;have hlast:sub64 ((t.columns.length:Int) - 1 - (i:Int)) 1=(t.columns.length:Int) - 1 - ((i+1:Nat):Int):=by rw [sub64_sm (by omega) (by omega)];omega
  have ecol:(if (c==s.sort)=true then (ref16_element n s ((r % nK m.sorts c:Nat):Int)) else some ((r % nK m.sorts c:Nat):Int))=some ((colS s c (r % nK m.sorts c):Nat):Int):=by
   unfold colS;by_cases e:c=s.sort
   ·rw [if_pos (by simpa using e),if_pos e,element_eq,elem_nat h]
   ·rw [if_neg (by simpa using e),if_neg e]
  have hnext:=hrec (r / nK m.sorts c,out+unit*colS s c (r % nK m.sorts c),unit*nK m.sorts c) ⟨by rw [← I1];simp only [];rw [Nat.mul_add,Nat.mul_assoc,Nat.add_assoc],p1,by have:=Nat.div_le_self r (nK m.sorts c);simp only [];omega,by
   rw [Nat.pow_succ];exact uL I4 k3⟩
  simp only [ref16_move.l2,hge,if_true,hidx,yb,idx_col hcol,← k1,rem64_nat p0 (show r≤1000000 by omega),jn,quo64_nat p0 (show r≤1000000 by omega),hlast];have hfin:∀ y:Nat,y=colS s c (r % nK m.sorts c)→rec (((r / nK m.sorts c:Nat):Int),add64 (out:Int) (mul64 (y:Int) (unit:Int)),mul64 (unit:Int) (nK m.sorts c:Int),(t.columns.length:Int) - 1 - ((i+1:Nat):Int))=some (add64 t.first ((digP m.sorts s t.columns.reverse rest:Nat):Int)):=λy hy=>by
   subst hy;have e1:mul64 ((colS s c (r % nK m.sorts c):Nat):Int) (unit:Int)=((unit*colS s c (r % nK m.sorts c):Nat):Int):=by
    rw [mul64_sm (by rw [← uh,Nat.mul_comm];omega) (by rw [← uh,Nat.mul_comm];omega),← uh,Nat.mul_comm]
   have e2:mul64 (unit:Int) (nK m.sorts c:Int)=((unit*nK m.sorts c:Nat):Int):=by
    rw [mul64_sm (by rw [← uh];omega) (by rw [← uh];omega),← uh]
   rw [e1,e2,add64_nat (by omega)];exact hnext
  by_cases e:(c==s.sort)=true
  ·rw [if_pos e] at ecol;rw [if_pos e,ecol,yb];exact hfin _ rfl
  ·rw [if_neg e] at ecol;rw [if_neg e];have:=Option.some.inj ecol;exact hfin _ (by omega)
 ·obtain ⟨r,out,unit⟩:=x;obtain ⟨I1,-⟩:=hI;simp only [ref16_move.l2];rw [if_neg (by simp;omega)];rw [← hlen,List.drop_length] at I1;simp only [digP,Nat.mul_zero,uo] at I1;rw [I1]
def mvT (sizes:List Int) (s:Swap) (strict:Bool):List Table→Int→Int
 | [],_=>-1
 | t::l,c=>if (strictP t.kind==strict&&(decide (t.first≤c)&&decide (c<t.first+widthP sizes t.columns 1)))=true then t.first+((digP sizes s t.columns.reverse (c - t.first).toNat:Nat):Int) else mvT sizes s strict l c
theorem tab_ok {sizes:List Int} {t:Table} (h:tabP sizes t=true):t.columns.length≤3∧t.columns.all (colOK sizes)=true:=by
 simp only [tabP,yc,yf] at h;exact h.1.2
theorem lay_first {sizes:List Int} (hs:sizes.all sizeOK=true):∀ {l:List Table} {seen:List (List UInt8)} {a b:Int},layP sizes seen a b l=true→0≤a→0≤b→a+216*(l.length:Int)≤1000000→b+216*(l.length:Int)≤1000000 →
  ∀ t∈l,0≤t.first∧t.first≤1000000∧(if strictP t.kind=true then a else b)≤t.first
 | [],_,_,_,_,_,_,_,_,t,ht=>by simp at ht
 | x::l,seen,a,b,h,ha,hb,h1,h2,t,ht=>by
  have hw:=width_3 hs (tab_ok (layP_tab h x (by simp))).2 (tab_ok (layP_tab h x (by simp))).1;simp only [layP,yc] at h;have h3:=h.2;simp only [yP] at h1 h2;have hcast:((l.length+1:Nat):Int)=(l.length:Int)+1:=by omega
  rw [hcast] at h1 h2;by_cases hx:strictP x.kind=true
  ·rw [if_pos hx] at h3;simp only [yc,beq_iff_eq] at h3;rw [add64_sm (by omega) (by omega)] at h3;rcases yM.1 ht with rfl | ht
   ·rw [if_pos hx];omega
   ·have:=lay_first hs h3.2 (by omega) hb (by omega) (by omega) t ht;by_cases e2:strictP t.kind=true
    ·rw [if_pos e2] at this ⊢;omega
    ·rw [if_neg e2] at this ⊢;omega
  ·rw [if_neg hx] at h3;simp only [yc,beq_iff_eq] at h3;rw [add64_sm (by omega) (by omega)] at h3;rcases yM.1 ht with rfl | ht
   ·rw [if_neg hx];omega
   ·have:=lay_first hs h3.2 ha (by omega) (by omega) (by omega) t ht;by_cases e2:strictP t.kind=true
    ·rw [if_pos e2] at this ⊢;omega
    ·rw [if_neg e2] at this ⊢;omega
theorem lay_big {m:Model} (hL:layoutP m.sorts m.tables=true):m.sorts.all sizeOK=true∧layP m.sorts [] 0 0 m.tables=true∧m.tables.length≤12:=by
 obtain ⟨-,l2,l3,-⟩:=layoutP_tab hL;simp only [layoutP,yc] at hL;exact ⟨l3,hL.2,l2⟩
def mvS (sizes:List Int) (s:Swap) (strict:Bool):List Table→Int→Int
 | [],_=>-1
 | t::l,c=>if (strictP t.kind==strict&&(decide (0≤sub64 c t.first)&&decide (sub64 c t.first<widthP sizes t.columns 1)))=true then t.first+((digP sizes s t.columns.reverse (sub64 c t.first).toNat:Nat):Int) else mvS sizes s strict l c
theorem mvS_eq {sizes:List Int} {s:Swap} {strict:Bool} {c:Int} (hc : -1000000≤c∧c≤1000000):∀ {l:List Table},(∀ t∈l,0≤t.first∧t.first≤1000000)→mvS sizes s strict l c=mvT sizes s strict l c
 | [],_=>rfl
 | t::l,h=>by
  have ht:=h t (by simp);have e:sub64 c t.first=c - t.first:=sub64_sm (by omega) (by omega)
  have e1:(decide (0≤c - t.first)&&decide (c - t.first<widthP sizes t.columns 1))=(decide (t.first≤c)&&decide (c<t.first+widthP sizes t.columns 1)):=by
   rw [Bool.eq_iff_iff];simp only [yc,yf];omega
  rw [mvS,mvT,e,e1,mvS_eq hc λu hu=>h u (by simp [hu])]
theorem moveS_eq {m s n c strict} (h:SwapOK m.sorts s) (hL:layoutP m.sorts m.tables=true) (hn:1000000≤n):ref16_move n m s c strict=some (mvS m.sorts s strict m.tables c):=by
 obtain ⟨hs,hlay,hl⟩:=lay_big hL;have:=loopF_g (body:=ref16_move.l1 n m s c strict) (len:=m.tables.length) (st:=λi=>(i:Int)) (g:=λi=>some (mvS m.sorts s strict (m.tables.drop i) c)) (λrec i hi hr=>?_) (λrec=>?_) n 0 (yx _) (by omega)
 ·simpa [ref16_move] using this
 ·have ht:=yw hi;obtain ⟨f1,f2,-⟩:=lay_first hs hlay (Int.le_refl _) (Int.le_refl _) (by omega) (by omega) _ ht;obtain ⟨t1,t2⟩:=tab_ok (layP_tab hlay _ ht);obtain ⟨w1,w2,w3⟩:=width_3 hs t2 t1;have hst:ref16_Strict n m.tables[i].kind=some (strictP m.tables[i].kind):=rfl;rw [drop_cons hi,mvS];simp only [ref16_move.l1,lt_len hi,if_true,idx_nat hi,yb,hst,ref16_Cells_eq t2 (by omega) hn,yk,yB,grd,yh,add64_1 (i:=i) (by omega)];generalize hd:sub64 c m.tables[i].first=d
  by_cases hcond:(strictP m.tables[i].kind==strict&&(decide (0≤d)&&decide (d<widthP m.sorts m.tables[i].columns 1)))=true
  ·rw [if_pos hcond];simp only [yc,beq_iff_eq,yf] at hcond;obtain ⟨c1,c2,c3⟩:=hcond;rw [if_neg (by simp [c1];omega)];obtain ⟨rest,rfl⟩:=yS c2;have hlt:rest<wN m.sorts m.tables[i].columns.reverse:=by omega
   have hd:=dig_lt h _ _ hlt;rw [move_dig h hs t2 t1 hlt hn,yy,add64_sm (by omega) (by omega)]
  ·rw [if_neg hcond,if_pos,hr];simp only [yc,beq_iff_eq,yf,not_and,Int.not_lt] at hcond;by_cases e1:strictP m.tables[i].kind=strict
   ·by_cases e2:0≤d
    ·have:=hcond e1 e2;simp only [yz,yf];exact .inr (by omega)
    ·simp only [yz,yf];exact .inl (.inr (by omega))
   ·simp [e1]
 ·simp [ref16_move.l1,mvS]
theorem move_eq {m s n c strict} (h:SwapOK m.sorts s) (hL:layoutP m.sorts m.tables=true) (hc : -1000000≤c∧c≤1000000) (hn:1000000≤n):ref16_move n m s c strict=some (mvT m.sorts s strict m.tables c):=by
 obtain ⟨hs,hlay,hl⟩:=lay_big hL;rw [moveS_eq h hL hn,mvS_eq hc λt ht=>by
  have:=lay_first hs hlay (Int.le_refl _) (Int.le_refl _) (by omega) (by omega) t ht;exact ⟨this.1,this.2.1⟩]
section
variable {sizes:List Int} {s:Swap} (h:SwapOK sizes s) (hs:sizes.all sizeOK=true)
include h hs
theorem mvT_main (strict:Bool):∀ {l:List Table} {seen:List (List UInt8)} {a b:Int},layP sizes seen a b l=true→0≤a→0≤b→a+216*(l.length:Int)≤1000000→b+216*(l.length:Int)≤1000000 →
  ∀ c,(if strict=true then a else b)≤c→c<(if strict=true then a else b)+((rangesP sizes strict l).length:Int) →
   ((if strict=true then a else b)≤mvT sizes s strict l c∧mvT sizes s strict l c<(if strict=true then a else b)+((rangesP sizes strict l).length:Int))∧mvT sizes s strict l (mvT sizes s strict l c)=c ∧
   (rangesP sizes strict l)[(mvT sizes s strict l c - (if strict=true then a else b)).toNat]? = (rangesP sizes strict l)[(c - (if strict=true then a else b)).toNat]?
 | [],_,_,_,_,_,_,_,_,c,h1,h2=>by simp [rangesP] at h2;omega
 | t::l,seen,a,b,hl,ha,hb,la,lb,c,h1,h2=>by
  obtain ⟨t1,t2⟩:=tab_ok (layP_tab hl t (by simp));obtain ⟨w1,w2,w3⟩:=width_3 hs t2 t1;simp only [layP,yc] at hl;have h3:=hl.2;simp only [yP] at la lb;have hcast:((l.length+1:Nat):Int)=(l.length:Int)+1:=by omega
  rw [hcast] at la lb;obtain ⟨w,hw⟩:∃ w,w=wN sizes t.columns.reverse:=⟨_,rfl⟩
  by_cases hk:strictP t.kind=strict
  ·have hfirst:t.first=if strict=true then a else b:=by
    rw [← hk];split at h3 <;> rename_i e
    ·simp only [yc,beq_iff_eq] at h3;rw [if_pos e];exact h3.1
    ·simp only [yc,beq_iff_eq] at h3;rw [if_neg e];exact h3.1
   have hnext:∃ seen' a' b',layP sizes seen' a' b' l=true∧(if strict=true then a' else b')=t.first+(w:Int)∧0≤a'∧0≤b'∧a'+216*(l.length:Int)≤1000000∧b'+216*(l.length:Int)≤1000000:=by
    rw [hfirst];split at h3 <;> rename_i e
    ·simp only [yc,beq_iff_eq] at h3;rw [w1,add64_sm (by omega) (by omega)] at h3;rw [← hk,if_pos e];exact ⟨_,_,_,h3.2,by rw [if_pos e,hw],by omega,hb,by omega,by omega⟩
    ·simp only [yc,beq_iff_eq] at h3;rw [w1,add64_sm (by omega) (by omega)] at h3;rw [← hk,if_neg e];exact ⟨_,_,_,h3.2,by rw [if_neg e,hw],ha,by omega,by omega,by omega⟩
   obtain ⟨seen',a',b',n1,n2,n3,n4,n5,n6⟩:=hnext;have hr:rangesP sizes strict (t::l)=List.replicate w t.range++rangesP sizes strict l:=by
    rw [rangesP,if_pos (by simp [hk]),w1,hw,yy]
   rw [← hfirst] at h1 h2 ⊢;rw [hr,yO,yX] at h2;rw [hr];have hcond:∀ x,(strictP t.kind==strict&&(decide (t.first≤x)&&decide (x<t.first+widthP sizes t.columns 1)))=decide (t.first≤x∧x<t.first+(w:Int)):=λx=>by
    rw [hk,w1,← hw,Bool.eq_iff_iff];simp
   by_cases hc:c<t.first+(w:Int)
   ·obtain ⟨r,hrr⟩:=yS (show 0≤c - t.first by omega);have hrw:r<wN sizes t.columns.reverse:=by omega
    have hd:=dig_lt h _ _ hrw;have hm:mvT sizes s strict (t::l) c=t.first+((digP sizes s t.columns.reverse r:Nat):Int):=by
     rw [mvT,hcond,if_pos (by simp only [yf];omega),hrr,yy]
    have hm2:mvT sizes s strict (t::l) (t.first+((digP sizes s t.columns.reverse r:Nat):Int))=c:=by
     rw [mvT,hcond,if_pos (by simp only [yf];omega)];have e:(t.first+((digP sizes s t.columns.reverse r:Nat):Int) - t.first).toNat=digP sizes s t.columns.reverse r:=by omega
     rw [e,dig_inv h _ _ hrw];omega
    rw [hm,hm2];refine ⟨⟨by omega,by rw [yO,yX];omega⟩,rfl,?_⟩;rw [ye (by rw [yX];omega),ye (by rw [yX];omega),List.getElem?_replicate,List.getElem?_replicate,if_pos (by omega),if_pos (by omega)]
   ·have hskip:∀ x,t.first+(w:Int)≤x→mvT sizes s strict (t::l) x=mvT sizes s strict l x:=λx hx=>by
     rw [mvT,hcond,if_neg (by simp only [yf];omega)]
    obtain ⟨i1,i2,i3⟩:=mvT_main strict n1 n3 n4 n5 n6 c (by rw [n2];omega) (by rw [n2];omega);rw [n2] at i1 i3;rw [hskip c (by omega),hskip _ i1.1];refine ⟨⟨by omega,by rw [yO,yX];omega⟩,i2,?_⟩;rw [yn (by rw [yX];omega),yn (by rw [yX];omega),yX];have e1:(mvT sizes s strict l c - t.first).toNat - w=(mvT sizes s strict l c - (t.first+(w:Int))).toNat:=by omega
    have e2:(c - t.first).toNat - w=(c - (t.first+(w:Int))).toNat:=by omega
    rw [e1,e2,i3]
  ·have hnext:∃ seen' a' b',layP sizes seen' a' b' l=true∧(if strict=true then a' else b')=(if strict=true then a else b)∧0≤a'∧0≤b'∧a'+216*(l.length:Int)≤1000000∧b'+216*(l.length:Int)≤1000000:=by
    split at h3 <;> rename_i e
    ·simp only [yc,beq_iff_eq] at h3;rw [w1,add64_sm (by omega) (by omega)] at h3;have hf:strict=false:=by cases strict <;> simp_all
     subst hf;exact ⟨_,_,_,h3.2,by simp,by omega,hb,by omega,by omega⟩
    ·simp only [yc,beq_iff_eq] at h3;rw [w1,add64_sm (by omega) (by omega)] at h3;have hf:strict=true:=by cases strict <;> simp_all
     subst hf;exact ⟨_,_,_,h3.2,by simp,ha,by omega,by omega,by omega⟩
   obtain ⟨seen',a',b',n1,n2,n3,n4,n5,n6⟩:=hnext;have hr:rangesP sizes strict (t::l)=rangesP sizes strict l:=by
    rw [rangesP,if_neg (by simpa using hk)]
   have hskip:∀ x,mvT sizes s strict (t::l) x=mvT sizes s strict l x:=λx=>by
    rw [mvT,if_neg (by simp [hk])]
   rw [hr,← n2] at h2 ⊢;rw [← n2] at h1;rw [hskip,hskip];exact mvT_main strict n1 n3 n4 n5 n6 c h1 h2
theorem mvT_at (strict:Bool):∀ {l:List Table} {seen:List (List UInt8)} {a b:Int},layP sizes seen a b l=true→0≤a→0≤b→a+216*(l.length:Int)≤1000000→b+216*(l.length:Int)≤1000000 →
  ∀ t∈l,strictP t.kind=strict→∀ c,t.first≤c→c<t.first+widthP sizes t.columns 1→mvT sizes s strict l c=t.first+((digP sizes s t.columns.reverse (c - t.first).toNat:Nat):Int)
 | [],_,_,_,_,_,_,_,_,t,ht,_,c,_,_=>by simp at ht
 | x::l,seen,a,b,hl,ha,hb,la,lb,t,ht,hk,c,h1,h2=>by
  rw [mvT];rcases yM.1 ht with rfl | ht'
  ·rw [if_pos (by rw [hk];simp [h1,h2])]
  ·obtain ⟨t1,t2⟩:=tab_ok (layP_tab hl x (by simp));obtain ⟨w1,w2,w3⟩:=width_3 hs t2 t1;simp only [layP,yc] at hl;have h3:=hl.2;simp only [yP] at la lb;have hcast:((l.length+1:Nat):Int)=(l.length:Int)+1:=by omega
   rw [hcast] at la lb;split at h3 <;> rename_i e
   ·simp only [yc,beq_iff_eq] at h3;rw [w1,add64_sm (by omega) (by omega)] at h3;have:=(lay_first hs h3.2 (by omega) hb (by omega) (by omega) t ht').2.2;rw [if_neg]
    ·exact mvT_at strict h3.2 (by omega) hb (by omega) (by omega) t ht' hk c h1 h2
    ·simp only [yc,beq_iff_eq,yf];rintro ⟨e1,e2,e3⟩;rw [hk,← e1,if_pos e] at this;omega
   ·simp only [yc,beq_iff_eq] at h3;rw [w1,add64_sm (by omega) (by omega)] at h3;have:=(lay_first hs h3.2 ha (by omega) (by omega) (by omega) t ht').2.2;rw [if_neg]
    ·exact mvT_at strict h3.2 ha (by omega) (by omega) (by omega) t ht' hk c h1 h2
    ·simp only [yc,beq_iff_eq,yf];rintro ⟨e1,e2,e3⟩;rw [hk,← e1,if_neg e] at this;omega
end
def mvC (m:Model) (s:Swap) (c:Int):Int:=mvT m.sorts s true m.tables c
theorem mvC_ok {m s} (h:SwapOK m.sorts s) (hL:layoutP m.sorts m.tables=true) {c:Int} (h0:0≤c) (h1:c<((boxM m).length:Int)):(0≤mvC m s c∧mvC m s c<((boxM m).length:Int))∧mvC m s (mvC m s c)=c∧(boxM m)[(mvC m s c).toNat]? = (boxM m)[c.toNat]?:=by
 obtain ⟨hs,hlay,hl⟩:=lay_big hL;have:=mvT_main h hs true hlay (Int.le_refl _) (Int.le_refl _) (by omega) (by omega) c (by simpa using h0) (by simpa [boxM] using h1);simpa [mvC,boxM] using this
structure Swp (m:Model) (s:Swap):Prop where
 ok:SwapOK m.sorts s
 lay:layoutP m.sorts m.tables=true
theorem Swp.cell {m s} (h:Swp m s) {c:Int} (h0:0≤c) (h1:c<((boxM m).length:Int)):(0≤mvC m s c∧mvC m s c<((boxM m).length:Int))∧mvC m s (mvC m s c)=c∧(boxM m)[(mvC m s c).toNat]? = (boxM m)[c.toNat]?:=mvC_ok h.ok h.lay h0 h1
theorem Swp.move {m s n} (h:Swp m s) {c:Int} (hc : -1000000≤c∧c≤1000000) (hn:1000000≤n):ref16_move n m s c true=some (mvC m s c):=move_eq h.ok h.lay hc hn
def stP (m:Model) (s:Swap) (x:List Int):List Int:=(List.range x.length).map λi:Nat=>x.getD (mvC m s (i:Int)).toNat 0
theorem stP_len {m s x}:(stP m s x).length=x.length:=by simp [stP]
def insT (t:Term):List Term→List Term
 | []=>[t]
 | u::l=>if t.cell<u.cell then t::u::l else u::insT t l
def mvt (m:Model) (s:Swap) (t:Term):Term:=⟨mvC m s t.cell,t.factor⟩
def rowL (m:Model) (s:Swap) (l:List Term) (acc:List Term):List Term:=l.foldl (λacc t=>insT (mvt m s t) acc) acc
def rowM (m:Model) (s:Swap) (r:Row):Row:=⟨rowL m s r.terms [],r.bound⟩
theorem insT_perm (t:Term):∀ l,(insT t l).Perm (t::l)
 | []=>.refl _
 | u::l=>by
  rw [insT];split
  ·exact .refl _
  ·exact ((insT_perm t l).cons u).trans (.swap t u l)
theorem rowL_perm (m s):∀ l acc,(rowL m s l acc).Perm (l.map (mvt m s)++acc)
 | [],acc=>.refl _
 | t::l,acc=>by
  have ih:=rowL_perm m s l (insT (mvt m s t) acc);refine ih.trans ?_;refine ((insT_perm (mvt m s t) acc).append_left _).trans ?_;simp only [yL,y9];exact List.perm_middle
theorem rowM_perm (m s r):(rowM m s r).terms.Perm (r.terms.map (mvt m s)):=by
 have:=rowL_perm m s r.terms []
 rwa [ut] at this
theorem insert_eq {n:Nat} {acc:List Term} {j:Int} {rec:List Term×Int→Option Row} {c:Int} {u:Term} (hl:acc.length≤1000) (hn:1000000≤n):loopF (ref16_row.l2 n acc j rec c u) n (([]:List Term),false,0)=rec (insT ⟨c,u.factor⟩ acc,add64 j 1):=by
 have:=loopF_I (body:=ref16_row.l2 n acc j rec c u) (len:=acc.length) (st:=λ(x:List Term×Bool) i=>(x.1,x.2,(i:Int))) (g:=λ_ _=>rec (insT ⟨c,u.factor⟩ acc,add64 j 1))
  (λi x=>x.1.length≤i+1∧(if x.2=true then x.1++acc.drop i=insT ⟨c,u.factor⟩ acc else x.1=acc.take i∧insT ⟨c,u.factor⟩ acc=acc.take i++insT ⟨c,u.factor⟩ (acc.drop i))) (λrec2 i x hi hI hr=>?_) (λrec2 x hI=>?_) n 0 ([],false) (yx _) (by omega) ⟨by simp,by simp⟩
 ·exact this
 ·obtain ⟨b,p⟩:=x;obtain ⟨I1,I2⟩:=hI;simp only at I1 I2;have htk:acc.take (i+1)=acc.take i++[acc[i]]:=yC hi;have hnext:∀ (b':List Term) (p':Bool),b'.length≤i+1+1→(if p'=true then b'++acc.drop (i+1)=insT ⟨c,u.factor⟩ acc else b'=acc.take (i+1)∧insT ⟨c,u.factor⟩ acc=acc.take (i+1)++insT ⟨c,u.factor⟩ (acc.drop (i+1)))→rec2 (b',p',((i+1:Nat):Int))=rec (insT ⟨c,u.factor⟩ acc,add64 j 1):=λb' p' h1 h2=>hr (b',p') ⟨h1,h2⟩
  simp only [ref16_row.l2,lt_len hi,if_true,jn,idx_nat hi,yk,yB,grd,yh,yb,add64_1 (i:=i) (by omega)];cases p with
  | true=>
   simp only [y6,yZ,yi,if_false];rw [app_some (by simp;omega),yb];refine hnext _ true (by simp;omega) ?_;rw [if_pos rfl] at I2 ⊢;rw [← I2,drop_cons hi,yU];rfl
  | false=>
   rw [if_neg (by simp)] at I2;obtain ⟨rfl,I3⟩:=I2;rw [drop_cons hi,insT] at I3;simp only [ul,yA];have hlt:(acc.take i).length≤i:=by rw [yQ];omega
   by_cases hc:c<acc[i].cell
   ·rw [if_pos (by simpa using hc)];rw [if_pos (show (⟨c,u.factor⟩:Term).cell<acc[i].cell from hc)] at I3;rw [app_some (by simp;omega),yb,app_some (by simp;omega),yb];refine hnext _ true (by simp;omega) ?_;rw [if_pos rfl,I3];simp
   ·rw [if_neg (by simpa using hc)];rw [if_neg (show ¬ (⟨c,u.factor⟩:Term).cell<acc[i].cell from hc)] at I3;rw [app_some (by simp;omega),yb];refine hnext _ false (by simp;omega) ?_;rw [if_neg (by simp),htk,I3,yU];exact ⟨rfl,rfl⟩
 ·obtain ⟨b,p⟩:=x;obtain ⟨I1,I2⟩:=hI;simp only at I1 I2;simp only [ref16_row.l2,ge_len,yi,if_false,jn];cases p with
  | true=>
   rw [if_pos rfl,List.drop_length,ut] at I2;simp only [y6,yi,if_false,I2]
  | false=>
   rw [if_neg (by simp),List.drop_length,List.take_length] at I2;simp only [ul,if_true];rw [app_some (by simp;omega),yb,I2.2,I2.1];rfl
theorem row_eq {m s n} {r:Row} (h:Swp m s) (ht:∀ t∈r.terms,-1000000≤t.cell∧t.cell≤1000000) (hl:r.terms.length≤500) (hn:1000000≤n):ref16_row n m s r=some (rowM m s r):=by
 have:=loopF_I (body:=ref16_row.l1 n m s r) (len:=r.terms.length) (st:=λ(x:List Term) i=>(x,(i:Int))) (g:=λ_ _=>some (rowM m s r)) (λi x=>rowL m s (r.terms.drop i) x=rowL m s r.terms []∧x.length≤i) (λrec i x hi hI hr=>?_) (λrec x hI=>?_) n 0 [] (yx _) (by omega) ⟨by simp,by simp⟩
 ·exact this
 ·obtain ⟨I1,I2⟩:=hI;simp only [ref16_row.l1,lt_len hi,if_true,idx_nat hi,yb,h.move (ht _ (yw hi)) hn];rw [insert_eq (by omega) hn,add64_1 (by omega)];refine hr _ ⟨?_,?_⟩
  ·rw [← I1,drop_cons hi];rfl
  ·have:=(insT_perm ⟨mvC m s r.terms[i].cell,r.terms[i].factor⟩ x).length_eq;simp at this;omega
 ·obtain ⟨I1,-⟩:=hI;simp only [ref16_row.l1,ge_len,yi,if_false];rw [List.drop_length] at I1;rw [rowM,← I1];rfl
theorem same16_eq {n} {r t:Row} (hl:r.terms.length≤100000) (hn:1000000≤n):ref16_SameRow n r t=some (decide (r=t)):=by
 unfold ref16_SameRow;have hrow:(r=t)↔(r.bound=t.bound∧r.terms=t.terms):=by
  cases r;cases t;simp [and_comm]
 by_cases h:((r.bound != t.bound)||((r.terms.length:Int) != (t.terms.length:Int)))=true
 ·rw [if_pos h];simp only [yz,bne_iff_ne] at h;congr 1;symm;rw [yH,hrow];rintro ⟨h1,h2⟩;rcases h with h | h
  ·exact h h1
  ·exact h (by rw [h2])
 ·rw [if_neg h];simp only [yz,bne_iff_ne,not_or,Decidable.not_not] at h;obtain ⟨hb,hlen⟩:=h;have hlen:r.terms.length=t.terms.length:=by omega
  have:=loopF_g (body:=ref16_SameRow.l1 n r t) (len:=r.terms.length) (st:=λi=>(i:Int)) (g:=λi=>some (decide (r.terms.drop i=t.terms.drop i))) (λrec i hi hr=>?_) (λrec=>?_) n 0 (yx _) (by omega)
  ·rw [List.drop_zero,List.drop_zero] at this;rw [show ((0:Nat):Int)=0 from rfl] at this;rw [this];congr 1;exact decide_eq_decide.2 (by rw [hrow];exact ⟨λh=>⟨hb,h⟩,λh=>h.2⟩)
  ·have hi':i<t.terms.length:=by omega
   simp only [ref16_SameRow.l1,lt_len hi,if_true,idx_nat hi,idx_nat hi',yb,add64_1 (i:=i) (by omega),hr];have e2:(r.terms.drop i=t.terms.drop i)↔(r.terms[i]=t.terms[i]∧r.terms.drop (i+1)=t.terms.drop (i+1)):=by rw [drop_cons hi,drop_cons hi',List.cons.injEq]
   rw [decide_eq_decide.2 e2,Bool.decide_and];by_cases e:r.terms[i]=t.terms[i]
   ·rw [if_neg (by simp [e]),decide_eq_true e,yA]
   ·rw [if_pos (by simp [e]),decide_eq_false e,yZ]
  ·simp only [ref16_SameRow.l1,ge_len,yi,if_false];simp [hlen]
def deltaB (m:Model) (s:Swap) (e f:Effect):Bool:=e.delta.all λd=>f.delta.any λg=>(g.cell==mvC m s d.cell)&&(g.add==d.add)
def holdB (m:Model) (s:Swap) (e f:Effect):Bool:=e.hold.all λr=>decide (e.hold.count r=f.hold.count (rowM m s r))
def updB (m:Model) (s:Swap) (e f:Effect):Bool:=e.updates.all λu=>decide (e.updates.count u=f.updates.count ⟨u.kind,mvS m.sorts s false m.tables u.cell,u.value⟩)
def alikeB (m:Model) (s:Swap) (e f:Effect):Bool:=(decide (e.delta.length=f.delta.length)&&(decide (e.hold.length=f.hold.length)&&decide (e.updates.length=f.updates.length)))&&(deltaB m s e f&&(holdB m s e f&&updB m s e f))
structure EffS (e:Effect):Prop where
 delta:e.delta.length≤1000∧∀ d∈e.delta,-1000000≤d.cell∧d.cell≤1000000
 hold:e.hold.length≤1000∧∀ r∈e.hold,r.terms.length≤500∧∀ t∈r.terms,-1000000≤t.cell∧t.cell≤1000000
 upd:e.updates.length≤1000
def argM (s:Swap) (sorts args:List Int):List Int:=(List.range args.length).map λi:Nat=>if sorts.getD i 0=s.sort then elemP s (args.getD i 0) else args.getD i 0
def actB (m:Model) (s:Swap) (a b:Action):Bool:=(b.operation==a.operation&&decide (b.arguments=argM s (opAt m a).sorts a.arguments))&&alikeB m s a.effect b.effect
structure ActS (m:Model):Prop where
 len:m.actions.length≤1000
 act:∀ a∈m.actions,EffS a.effect∧(∃ o,idx m.operations a.operation=some o∧o.sorts.length=a.arguments.length)∧a.arguments.length≤100
def fstP (p:Nat→Bool):Nat→Nat→Option Nat
 | _,0=>none
 | i,k+1=>if p i=true then some i else fstP p (i+1) k
def conAt (m:Model) (i:Nat):Constraint:=m.constraints.getD i default
def sameC (c d:Constraint):Bool:=((d.kind==c.kind)&&(d.family==c.family))&&decide (d.row=c.row)
def rankP (m:Model) (i:Nat):Nat:=(m.constraints.take i).countP (sameC (conAt m i))
def conB (m:Model) (s:Swap) (i j:Nat):Bool:=((((conAt m j).kind==(conAt m i).kind)&&((conAt m j).family==(conAt m i).family))&&decide ((conAt m j).row=rowM m s (conAt m i).row))&&decide (rankP m j=rankP m i)
structure ConS (m:Model):Prop where
 len:m.constraints.length≤1000
 con:∀ c∈m.constraints,c.row.terms.length≤500∧∀ t∈c.row.terms,-1000000≤t.cell∧t.cell≤1000000
def risT (l:List Term):Prop:=l.Pairwise λa b=>a.cell<b.cell
theorem insT_ris {t:Term}:∀ {l:List Term},risT l→(∀ u∈l,u.cell≠t.cell)→risT (insT t l)
 | [],_,_=>by simp [insT,risT]
 | u::l,h,hne=>by
  obtain ⟨h1,h2⟩:=ur.1 h;rw [insT];split
  ·rename_i hlt;exact ur.2 ⟨λv hv=>by
    rcases yM.1 hv with rfl | hv
    ·exact hlt
    ·have:=h1 v hv;omega,h⟩
  ·rename_i hge;refine ur.2 ⟨λv hv=>?_,insT_ris h2 λv hv=>hne v (by simp [hv])⟩;rcases yM.1 ((insT_perm t l).mem_iff.1 hv) with rfl | hv
   ·have:=hne u (by simp);omega
   ·exact h1 v hv
theorem rowL_ris {m s}:∀ {l acc:List Term},risT acc→((acc++l.map (mvt m s)).Pairwise λa b=>a.cell≠b.cell)→risT (rowL m s l acc)
 | [],acc,h,_=>h
 | t::l,acc,h,hp=>by
  have hp':=hp;simp only [yL] at hp;rw [List.pairwise_append] at hp;obtain ⟨p1,p2,p3⟩:=hp;obtain ⟨p4,p5⟩:=ur.1 p2;refine rowL_ris (l:=l) (acc:=insT (mvt m s t) acc) (insT_ris h λu hu=>p3 u hu _ (by simp)) ?_;rw [List.pairwise_append];refine ⟨?_,p5,λu hu v hv=>?_⟩
  ·refine List.Pairwise.imp (λ{a b} hab=>?_) (insT_ris h λu hu=>p3 u hu _ (by simp));omega
  ·rcases yM.1 ((insT_perm _ _).mem_iff.1 hu) with rfl | hu
   ·exact p4 v hv
   ·exact p3 u hu v (by simp [hv])
theorem ris_uniq {l k:List Term} (hp:l.Perm k) (h1:risT l) (h2:risT k):l=k:=
 perm_uniq (R:=λa b:Term=>a.cell<b.cell) (λa b x y=>by omega) hp h1 h2
structure RowIn (m:Model) (r:Row):Prop where
 ris:risT r.terms
 term:∀ t∈r.terms,termOK (boxM m).length t
section
variable {m:Model} {s:Swap} (h:Swp m s)
include h
theorem mv_inj {c d:Int} (c0:0≤c) (c1:c<((boxM m).length:Int)) (d0:0≤d) (d1:d<((boxM m).length:Int)) (e:mvC m s c=mvC m s d):c=d:=by
 rw [← (h.cell c0 c1).2.1,e,(h.cell d0 d1).2.1]
end
structure EffIn (m:Model) (e:Effect):Prop where
 nd:(e.delta.map (·.cell)).Nodup
 cell:∀ d∈e.delta,0≤d.cell∧d.cell<((boxM m).length:Int)
 hold:∀ r∈e.hold,RowIn m r
section
variable {m:Model} {s:Swap} (h:Swp m s)
include h
end
theorem box_len {m:Model} (hS:SmallM m) (hL:layoutP m.sorts m.tables=true):(boxM m).length≤2592:=by
 obtain ⟨l1,l2,l3,l4⟩:=layoutP_tab hL;have:=rangesP_len (sizes:=m.sorts) (s:=true) (l:=m.tables) λt ht=>(l4 t ht).2.2.2.2
 have:=hS.tables;unfold boxM;omega
def rhoI (m:Model) (s:Swap) (a:Action):Int:=ixP (actB m s a) m.actions 0
def sigI (m:Model) (s:Swap) (i:Nat):Nat:=if (conAt m i).kind=1 then i else (fstP (conB m s i) 0 m.constraints.length).getD 0
def symB (m:Model) (s:Swap):Bool:=(m.actions.all λa=>decide (0≤rhoI m s a))&&allR (λi=>decide ((conAt m i).kind=1)||(fstP (conB m s i) 0 m.constraints.length).isSome) 0 m.constraints.length
structure Sym (m:Model) (s:Swap):Prop where
 small:SmallM m
 valid:ValidM m
 swap:SwapOK m.sorts s
 sym:symB m s=true
def swpB (m:Model) (s:Swap):Bool:=(((decide (0≤s.sort)&&decide (s.sort<(m.sorts.length:Int)))&&decide (0≤s.a))&&decide (s.a<s.b))&&decide (s.b<((idx m.sorts s.sort).getD default))
theorem swpB_ok {m s} (h:swpB m s=true):SwapOK m.sorts s:=by
 simp only [swpB,yc,yf] at h;obtain ⟨⟨⟨⟨h1,h2⟩,h3⟩,h4⟩,h5⟩:=h;have hc:colOK m.sorts s.sort=true:=by simp [colOK,h1,h2]
 rw [idx_col hc,yh] at h5;exact ⟨hc,h3,h4,h5⟩
theorem Swap_eq {m s n} (hn:4294967296≤n) (hS:SmallM m):ref16_Swap n m s=some (validP m&&swpB m s):=by
 unfold ref16_Swap;rw [ref13_Valid_eq hn hS,yb];unfold swpB;by_cases hc:((((validP m&&decide (0≤s.sort))&&decide (s.sort<(m.sorts.length:Int)))&&decide (0≤s.a))&&decide (s.a<s.b))=true
 ·have hc':=hc;simp only [yc,yf] at hc';obtain ⟨⟨⟨⟨h0,h1⟩,h2⟩,h3⟩,h4⟩:=hc';obtain ⟨k,hk⟩:=idx_some h1 h2;rw [hk];simp [h0,h1,h2,h3,h4,grd]
 ·simp only [yD] at hc;rw [hc];simp only [ul,uF,grd,if_true,yZ];congr 1;symm;rw [ub] at hc ⊢;cases hv:validP m with
  | false=>exact .inl rfl
  | true=>
   right;rw [hv] at hc;simp only [yA] at hc;rw [ub];left;rw [ub];exact hc
section
variable {m:Model} {s:Swap} (h:Sym m s)
include h
end
structure TgtMv (m:Model) (s:Swap) (q p:Question) (a A:Action):Prop where
 hold:p.target.hold=q.target.hold
 con:q.target.hold=false→∃ i:Nat,i<m.constraints.length∧q.target.index=(i:Int)∧p.target.index=((sigI m s i:Nat):Int)
 row:q.target.hold=true→∃ r,idx a.effect.hold q.target.index=some r∧idx A.effect.hold p.target.index=some (rowM m s r)
section
variable {m:Model} {s:Swap} {q p:Question} {a b A B:Action} (h:Sym m s)
include h
end
structure QMv (m:Model) (s:Swap) (q p:Question) (a b:Action):Prop where
 out:∃ (k l:Nat) (hk:k<m.actions.length) (hl:l<m.actions.length),actB m s a m.actions[k]=true∧actB m s b m.actions[l]=true∧(q.e=q.f→k=l)∧TgtMv m s q p a m.actions[k] ∧
  (q.target.hold=true→p.e=(k:Int)∧p.f=(l:Int))∧(q.target.hold=false→p.e≤p.f∧((p.e=(k:Int)∧p.f=(l:Int))∨(p.e=(l:Int)∧p.f=(k:Int))))

structure Pair (m:Model) (s:Swap) (a b A B a' b':Action):Prop where
 ma:a∈m.actions
 mb:b∈m.actions
 mA:A∈m.actions
 mB:B∈m.actions
 aA:actB m s a A=true
 bB:actB m s b B=true
 or:(a'=A∧b'=B)∨(a'=B∧b'=A)
section
variable {n:Nat} {m:Model} {s:Swap} (h:Sym m s) (hn:4294967296≤n)
include h
include hn
end
theorem idx_get {α:Type} {l:List α} {c:Int} (h0:0≤c):idx l c=l[c.toNat]?:=by
 unfold idx;rw [if_pos h0]
section
variable {n:Nat} {m:Model} {s:Swap} (h:Sym m s) (hn:4294967296≤n) {a b A B a' b':Action} (hp:Pair m s a b A B a' b')
include h hp
end
section
variable {n:Nat} {m:Model} {s:Swap} (h:Sym m s) (hn:4294967296≤n) {a b A B a' b':Action} (hp:Pair m s a b A B a' b') {q p:Question} (ht:TgtMv m s q p a A)
include h hn hp
include ht in
end

theorem CompareI_eq {n:Nat} {a b:Int}:cmp_Compare_int n a b=some (if a<b then -1 else if b<a then 1 else 0):=by
 have hN:∀ x,cmp_isNaN_int n x=some false:=λx=>by simp [cmp_isNaN_int]
 unfold cmp_Compare_int
 simp only [hN,yb,yi,if_false,yf]
 split
 ·rfl
 ·split <;> rfl
def hI (q:Question):Int:=if q.target.hold=true then 1 else 0
def cI (a b:Int):Int:=if a<b then -1 else if b<a then 1 else 0
theorem cI_neg {a b:Int}:cI a b<0↔a<b:=by
 unfold cI;split
 ·simp;omega
 ·split
  ·simp;omega
  ·simp;omega
def tupN (sizes:List Int):List Int→Nat→List Nat
 | [],_=>[]
 | c::cs,r=>tupN sizes cs (r / nK sizes c)++[r % nK sizes c]
theorem tupN_len {sizes:List Int}:∀ {cs:List Int} {r:Nat},(tupN sizes cs r).length=cs.length
 | [],_=>rfl
 | c::cs,r=>by simp [tupN,tupN_len (cs:=cs)]
def castL (l:List Nat):List Int:=l.map λx:Nat=>(x:Int)
theorem step_range {k:Nat} (f:Nat→List Int):∀ w,stepT k ((List.range w).map f)=(List.range (k*w)).map λr=>f (r / k)++[((r % k:Nat):Int)]
 | 0=>by simp [stepT]
 | w+1=>by
  rw [List.range_succ,ua,stepT_append,step_range f w,Nat.mul_succ,List.range_add,ua]
  congr 1
  simp only [stepT,yL,List.map_nil,uE,List.flatMap_nil,ut,uw]
  apply List.map_congr_left
  intro e he
  have he:=ue.1 he
  simp only [Function.comp]
  rw [Nat.mul_add_div (by omega),Nat.mul_add_mod,Nat.div_eq_of_lt he,Nat.mod_eq_of_lt he,uo]
theorem tuples_tup {sizes:List Int}:∀ {rc:List Int},tuplesP sizes rc.reverse=(List.range (wN sizes rc)).map λr=>castL (tupN sizes rc r)
 | []=>by simp [tuplesP,tuplesF,wN,tupN,castL]
 | c::cs=>by
  have ih:=tuples_tup (sizes:=sizes) (rc:=cs)
  unfold tuplesP at ih ⊢
  rw [List.reverse_cons,tuplesF_append,ih]
  simp only [tuplesF]
  rw [show (sizeAt sizes c).toNat=nK sizes c from rfl,step_range,wN]
  apply List.map_congr_left
  intro r _
  simp [castL,tupN]
def fD (sizes:List Int) (s:Swap) (l:List (Int×Nat)):Nat:=l.foldl (λa p=>a*nK sizes p.1+colS s p.1 p.2) 0
theorem fD_snoc {sizes s l p}:fD sizes s (l++[p])=fD sizes s l*nK sizes p.1+colS s p.1 p.2:=by simp [fD]
theorem fD_dig {sizes:List Int} {s:Swap}:∀ {rc:List Int} {r:Nat},fD sizes s (rc.reverse.zip (tupN sizes rc r))=digP sizes s rc r
 | [],_=>by simp [fD,digP]
 | c::cs,r=>by
  rw [List.reverse_cons,tupN,List.zip_append (by simp [tupN_len])]
  simp only [List.zip_cons_cons,List.zip_nil_right]
  rw [fD_snoc,fD_dig,digP,Nat.mul_comm,Nat.add_comm]
theorem tup_lt {sizes:List Int}:∀ {rc:List Int} {r:Nat},r<wN sizes rc→∀ p∈rc.reverse.zip (tupN sizes rc r),p.2<nK sizes p.1
 | [],_,_,p,hp=>by simp at hp
 | c::cs,r,hr,p,hp=>by
  obtain ⟨h0,h1⟩:=dig_pos hr
  rw [List.reverse_cons,tupN,List.zip_append (by simp [tupN_len])] at hp
  rcases yF.1 hp with hp | hp
  ·exact tup_lt h1 p hp
  ·simp only [List.zip_cons_cons,List.zip_nil_right,yJ] at hp
   subst hp;exact Nat.mod_lt _ h0
theorem fD_lt {sizes:List Int} {s:Swap} (h:SwapOK sizes s) {l:List (Int×Nat)} (hl:∀ p∈l,p.2<nK sizes p.1∧nK sizes p.1≤6):fD sizes s l<6 ^ l.length:=by
 have key:∀ (l:List (Int×Nat)) (a:Nat),(∀ p∈l,p.2<nK sizes p.1∧nK sizes p.1≤6)→l.foldl (λa p=>a*nK sizes p.1+colS s p.1 p.2) a<(a+1)*6 ^ l.length:=by
  intro l
  induction l with
  | nil=>intro a _;simp
  | cons p l ih=>
   intro a hp
   have hp0:=hp p (by simp)
   have:=ih (a*nK sizes p.1+colS s p.1 p.2) λx hx=>hp x (by simp [hx])
   have hc:=colS_lt h (c:=p.1) hp0.1
   simp only [List.foldl_cons,yP,Nat.pow_succ]
   have e1:a*nK sizes p.1+colS s p.1 p.2+1≤(a+1)*6:=by
    have:a*nK sizes p.1≤a*6:=Nat.mul_le_mul_left _ hp0.2
    omega
   calc _<_:=this
    _≤((a+1)*6)*6 ^ l.length:=y8 _ e1
    _=(a+1)*(6 ^ l.length*6):=by rw [Nat.mul_assoc,Nat.mul_comm 6]
 have:=key l 0 hl
 simpa [fD] using this
theorem welement_eq {n:Nat} {L:Layout} {s:Swap} {c x:Int}:symmetry_swapping_element n ⟨L,s⟩ c x=some (if c=s.sort then elemP s x else x):=by
 unfold symmetry_swapping_element elemP
 simp only [bne_iff_ne,beq_iff_eq,ne_eq]
 by_cases h:c=s.sort
 ·rw [if_neg (by simp [h]),if_pos h]
  by_cases h1:x=s.a
  ·rw [if_pos h1,if_pos h1]
  ·rw [if_neg h1,if_neg h1]
   by_cases h2:x=s.b
   ·rw [if_pos h2,if_pos h2]
   ·rw [if_neg h2,if_neg h2]
 ·rw [if_pos (by simpa using h),if_neg h]
theorem wcell_dig {n:Nat} {L:Layout} {s:Swap} {t:Table} {p:Place} {r:Nat} (h:SwapOK L.m.sorts s) (hs:L.m.sorts.all sizeOK=true) (hc:t.columns.all (colOK L.m.sorts)=true) (h3:t.columns.length≤3) (hr:r<wN L.m.sorts t.columns.reverse)
  (hp:p.tuple=castL (tupN L.m.sorts t.columns.reverse r)) (hn:1000000≤n):loopF (symmetry_swapping_cell.l1 n ⟨L,s⟩ t p) n (0,0)=some (add64 t.first ((digP L.m.sorts s t.columns.reverse r:Nat):Int)):=by
 obtain ⟨Z,hZ⟩:∃ Z,Z=t.columns.zip (tupN L.m.sorts t.columns.reverse r):=⟨_,rfl⟩
 have hlen:(tupN L.m.sorts t.columns.reverse r).length=t.columns.length:=by simp [tupN_len]
 have hZl:Z.length=t.columns.length:=by rw [hZ,List.length_zip,hlen];omega
 have hpl:p.tuple.length=t.columns.length:=by rw [hp];simp [castL,tupN_len]
 have hlt:∀ q∈Z,q.2<nK L.m.sorts q.1∧nK L.m.sorts q.1≤6:=λq hq=>by
  refine ⟨tup_lt hr q (by rw [List.reverse_reverse,← hZ];exact hq),?_⟩
  rw [hZ] at hq
  exact (nK_ok hs (yt.1 hc _ (List.of_mem_zip hq).1)).2.2
 have:=loopF_g (body:=symmetry_swapping_cell.l1 n ⟨L,s⟩ t p) (len:=t.columns.length) (st:=λk=>(((fD L.m.sorts s (Z.take k):Nat):Int),(k:Int))) (g:=λ_=>some (add64 t.first ((digP L.m.sorts s t.columns.reverse r:Nat):Int))) (λrec i hi hr'=>?_) (λrec=>?_) n 0 (yx _) (by omega)
 ·simpa [fD] using this
 ·have hZi:i<Z.length:=by omega
  have hcol:=yt.1 hc _ (yw hi)
  have hx:idx p.tuple (i:Int)=some (((Z[i]).2:Nat):Int):=by
   rw [idx_nat (by omega)]
   simp [hp,castL,hZ]
  have hz1:(Z[i]).1=t.columns[i]:=by simp [hZ]
  simp only [symmetry_swapping_cell.l1]
  rw [if_pos (by simp;omega),hx,yb,idx_nat hi,yb,idx_col hcol,yb,yb,welement_eq,yb,add64_1 (by omega)]
  obtain ⟨k1,k2,k3⟩:=nK_ok hs hcol
  have hb:fD L.m.sorts s (Z.take i)<6 ^ 3:=by
   have:=fD_lt h (l:=Z.take i) λq hq=>hlt q (List.mem_of_mem_take hq)
   refine yE this (uJ (by decide) (by simp;omega))
  have hxl:=colS_lt h (c:=(Z[i]).1) (hlt _ (yw hZi)).1
  have he:(if t.columns[i]=s.sort then elemP s ((Z[i]).2:Int) else ((Z[i]).2:Int))=((colS s (Z[i]).1 (Z[i]).2:Nat):Int):=by
   rw [hz1,colS]
   split
   ·rw [elem_nat h]
   ·rfl
  rw [he,← k1]
  have hk6:fD L.m.sorts s (Z.take i)*nK L.m.sorts t.columns[i]≤216*6:=uL (by omega) k3
  rw [mul64_sm (by rw [← uh];omega) (by rw [← uh];omega),← uh,add64_nat (by have:=(hlt _ (yw hZi)).2;omega)]
  have e:fD L.m.sorts s (Z.take i)*nK L.m.sorts t.columns[i]+colS s (Z[i]).1 (Z[i]).2=fD L.m.sorts s (Z.take (i+1)):=by
   rw [yC hZi,fD_snoc,hz1]
  rw [e];exact hr'
 ·simp only [symmetry_swapping_cell.l1]
  rw [if_neg (by simp;omega),List.take_of_length_le (by omega),hZ]
  have:=fD_dig (sizes:=L.m.sorts) (s:=s) (rc:=t.columns.reverse) (r:=r)
  rw [List.reverse_reverse] at this
  rw [this]
theorem strict_le {k:Int} (h:0≤k):decide (k≤1)=strictP k:=by
 unfold strictP
 rw [Bool.eq_iff_iff];simp;omega
theorem tab_kind {sizes:List Int} {t:Table} (h:tabP sizes t=true):0≤t.kind:=by
 simp only [tabP,yc,yf] at h
 exact h.1.1.2.1
theorem place_at {sizes:List Int} (hs:sizes.all sizeOK=true) (strict:Bool):∀ {l:List Table} {seen:List (List UInt8)} {a b:Int} (i0:Nat),layP sizes seen a b l=true→0≤a→0≤b→a+216*(l.length:Int)≤1000000→b+216*(l.length:Int)≤1000000 →
  ∀ k,k<(placesP sizes strict l i0).length→∃ (j:Nat) (t:Table) (r:Nat),l[j]? = some t∧strictP t.kind=strict∧r<wN sizes t.columns.reverse∧(placesP sizes strict l i0)[k]? = some ⟨((i0+j:Nat):Int),castL (tupN sizes t.columns.reverse r)⟩∧(if strict=true then a else b)+(k:Int)=t.first+(r:Int)
 | [],_,_,_,_,_,_,_,_,_,k,hk=>by simp [placesP] at hk
 | t::l,seen,a,b,i0,hl,ha,hb,la,lb,k,hk=>by
  have htab:=layP_tab hl t (by simp)
  obtain ⟨t1,t2⟩:=tab_ok htab
  obtain ⟨w1,w2,w3⟩:=width_3 hs t2 t1
  simp only [layP,yc] at hl
  have h3:=hl.2
  simp only [yP] at la lb
  have hcast:((l.length+1:Nat):Int)=(l.length:Int)+1:=by omega
  rw [hcast] at la lb
  obtain ⟨w,hw⟩:∃ w,w=wN sizes t.columns.reverse:=⟨_,rfl⟩
  have hpl:placesP sizes strict (t::l) i0=(if strictP t.kind=strict then placeP i0 ((List.range w).map λr=>castL (tupN sizes t.columns.reverse r)) else [])++placesP sizes strict l (i0+1):=by
   have e:=tuples_tup (sizes:=sizes) (rc:=t.columns.reverse)
   rw [List.reverse_reverse] at e
   rw [placesP,strict_le (tab_kind htab),e,hw]
  rw [hpl] at hk ⊢
  by_cases hkd:strictP t.kind=strict
  ·rw [if_pos hkd] at hk ⊢
   have hfirst:t.first=if strict=true then a else b:=by
    rw [← hkd]
    split at h3 <;> rename_i e
    ·simp only [yc,beq_iff_eq] at h3;rw [if_pos e];exact h3.1
    ·simp only [yc,beq_iff_eq] at h3;rw [if_neg e];exact h3.1
   have hnext:∃ seen' a' b',layP sizes seen' a' b' l=true∧(if strict=true then a' else b')=t.first+(w:Int)∧0≤a'∧0≤b'∧a'+216*(l.length:Int)≤1000000∧b'+216*(l.length:Int)≤1000000:=by
    rw [hfirst]
    split at h3 <;> rename_i e
    ·simp only [yc,beq_iff_eq] at h3
     rw [w1,add64_sm (by omega) (by omega)] at h3
     rw [← hkd,if_pos e]
     exact ⟨_,_,_,h3.2,by rw [if_pos e,hw],by omega,hb,by omega,by omega⟩
    ·simp only [yc,beq_iff_eq] at h3
     rw [w1,add64_sm (by omega) (by omega)] at h3
     rw [← hkd,if_neg e]
     exact ⟨_,_,_,h3.2,by rw [if_neg e,hw],ha,by omega,by omega,by omega⟩
   obtain ⟨seen',a',b',n1,n2,n3,n4,n5,n6⟩:=hnext
   have hlen:(placeP i0 ((List.range w).map λr=>castL (tupN sizes t.columns.reverse r))).length=w:=by simp [placeP]
   rw [yO,hlen] at hk
   by_cases hc:k<w
   ·refine ⟨0,t,k,rfl,hkd,by omega,?_,by rw [hfirst]⟩
    rw [ye (by omega),placeP,uw,yN,List.getElem?_range hc]
    rfl
   ·obtain ⟨j,u,r,p1,p2,p3,p4,p5⟩:=place_at hs strict (i0+1) n1 n3 n4 n5 n6 (k - w) (by omega)
    refine ⟨j+1,u,r,by simpa using p1,p2,p3,?_,?_⟩
    ·rw [yn (by omega),hlen,p4,show i0+1+j=i0+(j+1) by omega]
    ·rw [n2] at p5;rw [← hfirst];omega
  ·rw [if_neg hkd,ui] at hk ⊢
   have hnext:∃ seen' a' b',layP sizes seen' a' b' l=true∧(if strict=true then a' else b')=(if strict=true then a else b)∧0≤a'∧0≤b'∧a'+216*(l.length:Int)≤1000000∧b'+216*(l.length:Int)≤1000000:=by
    split at h3 <;> rename_i e
    ·simp only [yc,beq_iff_eq] at h3
     rw [w1,add64_sm (by omega) (by omega)] at h3
     have hf:strict=false:=by cases strict <;> simp_all
     subst hf
     exact ⟨_,_,_,h3.2,by simp,by omega,hb,by omega,by omega⟩
    ·simp only [yc,beq_iff_eq] at h3
     rw [w1,add64_sm (by omega) (by omega)] at h3
     have hf:strict=true:=by cases strict <;> simp_all
     subst hf
     exact ⟨_,_,_,h3.2,by simp,ha,by omega,by omega,by omega⟩
   obtain ⟨seen',a',b',n1,n2,n3,n4,n5,n6⟩:=hnext
   obtain ⟨j,u,r,p1,p2,p3,p4,p5⟩:=place_at hs strict (i0+1) n1 n3 n4 n5 n6 k hk
   exact ⟨j+1,u,r,by simpa using p1,p2,p3,by rw [p4,show i0+1+j=i0+(j+1) by omega],by rw [← p5,n2]⟩
theorem places_ranges {sizes:List Int} (hs:sizes.all sizeOK=true) (strict:Bool):∀ {l:List Table} (i0:Nat),(∀ t∈l,tabP sizes t=true)→(placesP sizes strict l i0).length=(rangesP sizes strict l).length
 | [],_,_=>by simp [placesP,rangesP]
 | t::l,i0,ht=>by
  have htab:=ht t (by simp)
  obtain ⟨t1,t2⟩:=tab_ok htab
  obtain ⟨w1,w2,w3⟩:=width_3 hs t2 t1
  have e:=tuples_tup (sizes:=sizes) (rc:=t.columns.reverse)
  rw [List.reverse_reverse] at e
  have ih:=places_ranges hs strict (l:=l) (i0+1) λx hx=>ht x (by simp [hx])
  rw [placesP,rangesP,strict_le (tab_kind htab),e,yO,ih,w1]
  by_cases hk:strictP t.kind=strict
  ·rw [if_pos hk,if_pos (by simpa using hk)];simp [placeP]
  ·rw [if_neg hk,if_neg (by simpa using hk)];simp
theorem strict_len {m:Model} (hL:layoutP m.sorts m.tables=true):(layoutM m).strict.length=(boxM m).length:=by
 obtain ⟨hs,hlay,hl⟩:=lay_big hL
 exact places_ranges hs true 0 (layP_tab hlay)
theorem wcell_eq {m:Model} {s:Swap} {n:Nat} {strict:Bool} {c:Int} (h:Swp m s) (h0:0≤c) (h1:c<((placesP m.sorts strict m.tables 0).length:Int)) (hn:1000000≤n):symmetry_swapping_cell n ⟨layoutM m,s⟩ (placesP m.sorts strict m.tables 0) c=some (mvT m.sorts s strict m.tables c):=by
 obtain ⟨hs,hlay,hl⟩:=lay_big h.lay
 obtain ⟨k,rfl⟩:=yS h0
 obtain ⟨j,t,r,p1,p2,p3,p4,p5⟩:=place_at hs strict 0 hlay (by omega) (by omega) (by omega) (by omega) k (by omega)
 have hz:(if strict=true then (0:Int) else 0)=0:=by cases strict <;> rfl
 rw [hz,Int.zero_add] at p5
 have ht:t∈m.tables:=yp p1
 have htab:=layP_tab hlay t ht
 obtain ⟨t1,t2⟩:=tab_ok htab
 obtain ⟨w1,w2,w3⟩:=width_3 hs t2 t1
 have hf:=lay_first hs hlay (by omega) (by omega) (by omega) (by omega) t ht
 have hd:=dig_lt h.ok _ _ p3
 have hpl:idx (placesP m.sorts strict m.tables 0) ((k:Nat):Int)=some ⟨(j:Int),castL (tupN m.sorts t.columns.reverse r)⟩:=by
  rw [idx_get (by omega),yy,p4,uk]
 have htb:idx m.tables (j:Int)=some t:=by rw [idx_get (by omega),yy,p1]
 unfold symmetry_swapping_cell
 rw [hpl,yb,show (layoutM m).m=m from rfl,htb,yb,yb,wcell_dig (L:=layoutM m) h.ok hs t2 t1 p3 rfl hn,add64_sm (by show -9223372036854775808≤t.first+((digP m.sorts s t.columns.reverse r:Nat):Int);omega) (by show t.first+((digP m.sorts s t.columns.reverse r:Nat):Int)≤9223372036854775807;omega)]
 rw [mvT_at h.ok hs strict hlay (by omega) (by omega) (by omega) (by omega) t ht p2 _ (by omega) (by omega),show ((k:Int) - t.first).toNat=r by omega]
 rfl
theorem wcellC_eq {m:Model} {s:Swap} {n:Nat} {c:Int} (h:Swp m s) (h0:0≤c) (h1:c<((boxM m).length:Int)) (hn:1000000≤n):symmetry_swapping_cell n ⟨layoutM m,s⟩ (layoutM m).strict c=some (mvC m s c):=
 wcell_eq h h0 (by rw [← strict_len h.lay] at h1;exact h1) hn
theorem swapOK_swp {m:Model} {s:Swap} (hV:ValidM m) (h:swpB m s=true):Swp m s:=⟨swpB_ok h,hV.lay⟩
theorem with_eq {n:Nat} {m:Model} {s:Swap} (hF:Fuel n) (hS:SmallM m):symmetry_with n m s=some (if (validP m&&swpB m s)=true then (some ⟨layoutM m,s⟩,true) else (none,false)):=by
 unfold symmetry_with
 rw [symmetry_open_eq hF hS,yb]
 cases hv:validP m with
 | false=>simp [grd]
 | true=>
  have hf:symmetry_layout_fits n (layoutM m) s=some (swpB m s):=by
   unfold symmetry_layout_fits swpB
   rw [show (layoutM m).m=m from rfl]
   by_cases hc:((((decide (0≤s.sort))&&(decide (s.sort<(m.sorts.length:Int))))&&(decide (0≤s.a)))&&(decide (s.a<s.b)))=true
   ·obtain ⟨x,hx⟩:=idx_some (l:=m.sorts) (i:=s.sort) (by simp only [yc,yf] at hc;exact hc.1.1.1) (by simp only [yc,yf] at hc;exact hc.1.1.2)
    rw [hx];simp [grd]
   ·simp only [yD] at hc
    rw [hc];simp [grd]
  simp only [if_true,y6,ug,yh,hf,yk,grd,yA]
  cases swpB m s <;> simp
structure TotC {α:Type} (c:α→α→Int):Prop where
 neg:∀ a b,c b a = -c a b
 zero:∀ a b,c a b=0→a=b
 tr:∀ a b d,c a b<0→c b d<0→c a d<0
theorem cI_sort {α:Type} {f:α→α→Option Int} {k:α→Int} {l:List α} (h1:∀ x∈l,∀ y∈l,f x y=some (cI (k x) (k y))) (hl:l.length<4611686018427387904):∃ r,sortO f l=some r∧r.Perm l∧r.Pairwise λx y=>k x≤k y:=by
 have hneg:∀ {a b:Int},¬ cI a b<0↔b≤a:=λ{a b}=>by rw [cI_neg];omega
 obtain ⟨s1,s2⟩:=sortO_of (c:=λx y=>cI (k x) (k y)) h1 (λx=>by rw [hneg];omega) (λx y z p q=>by rw [cI_neg] at *;omega) (λx y z p q=>by rw [hneg] at *;omega) hl
 have hp:=sortF_perm s2
 refine ⟨_,s1,hp,?_⟩
 refine List.Pairwise.imp_of_mem (λ{x y} hx hy hxy=>?_) (sortF_sorted s2)
 rw [h1 y (hp.mem_iff.1 hy) x (hp.mem_iff.1 hx),yh] at hxy
 exact hneg.1 hxy
theorem loopF_idx {α R:Type} {body:(List α×Int→Option R)→List α×Int→Option R} {β:Type} {l:List β} {n:Nat} (h:β→α) (fin:Option R)
  (step:∀ rec (b:List α) i (hi:i<l.length),b.length=i→body rec (b,(i:Int))=rec (b++[h l[i]],((i+1:Nat):Int))) (done:∀ rec,body rec (l.map h,(l.length:Int))=fin) (hn:l.length<n) :
  loopF body n ([],0)=fin:=by
 have:=loopF_g (body:=body) (len:=l.length) (st:=λi=>((l.take i).map h,(i:Int))) (g:=λ_=>fin) (λrec i hi hr=>?_) (λrec=>?_) n 0 (yx _) (by omega)
 ·simpa using this
 ·rw [step rec _ i hi (by simp;omega)]
  have e:(l.take i).map h++[h l[i]]=(l.take (i+1)).map h:=by rw [yC hi,ua];rfl
  rw [e];exact hr
 ·rw [List.take_length];exact done rec
structure EffZ (e:Effect):Prop where
 hold:e.hold.length≤1000
 upd:e.updates.length≤1000
 delta:e.delta.length≤1000
 term:∀ r∈e.hold,r.terms.length≤1000
def RoomU (m:Model) (c:Int):Prop:=0≤c∧c<((rangesP m.sorts false m.tables).length:Int)
structure EffV (m:Model) (e:Effect):Prop where
 inn:EffIn m e
 sz:EffZ e
 room:∀ u∈e.updates,RoomU m u.cell
 ris:e.delta.Pairwise λa b=>a.cell<b.cell
theorem EqualInt_eq {n:Nat} {a b:List Int} (hl:a.length<1000000) (hn:1000000≤n):slices_Equal_Lint_int n a b=some (decide (a=b)):=by
 unfold slices_Equal_Lint_int
 by_cases h:a.length=b.length
 ·rw [if_neg (by simp [h])]
  have:=loopF_g (body:=slices_Equal_Lint_int.l1 n a b) (len:=a.length) (st:=λi=>(i:Int)) (g:=λi=>some (decide (a.drop i=b.drop i))) (λrec i hi hr=>?_) (λrec=>?_) n 0 (yx _) (by omega)
  ·simpa using this
  ·have hib:i<b.length:=by omega
   simp only [slices_Equal_Lint_int.l1,lt_len hi,if_true,idx_nat hi,idx_nat hib,yb,add64_1 (i:=i) (by omega),hr]
   rw [drop_cons hi,drop_cons hib]
   by_cases e:a[i]=b[i]
   ·simp only [e,uM,yi,if_false,List.cons.injEq,true_and]
   ·simp only [bne_iff_ne,ne_eq,e,not_false_eq_true,if_true,List.cons.injEq,false_and,decide_false]
  ·simp [slices_Equal_Lint_int.l1,h]
 ·rw [if_pos (by simp;omega)]
  have:¬ a=b:=λe=>h (by rw [e])
  simp [this]

theorem big1:(1000000:Nat)≤18446744073709551616:=by decide
theorem big2:(4294967296:Nat)≤18446744073709551616:=by decide
section
variable {m:Model} {s:Swap} {n:Nat} (hF:Fuel n) (hn:4294967296≤n) (hS:SmallM m)
include hF hn hS
theorem Cell_both (c:Int):∃ r,symmetry_Cell n m s c=some r∧ref16_Cell n m s c=some r:=by
 unfold symmetry_Cell ref16_Cell
 rw [with_eq hF hS,yb,Swap_eq hn hS,yb]
 by_cases hv:(validP m&&swpB m s)=true
 ·have hv2:=hv
  simp only [yc] at hv2
  have hV:=validP_iff.1 hv2.1
  have h:=swapOK_swp hV hv2.2
  have hbl:=box_len hS hV.lay
  have hsl:=strict_len hV.lay
  rw [if_pos hv,ref16_Total_eq hV.lay (by omega)]
  simp only [hv,y6,ug,yk,yB,grd,if_true,yh,yb,hsl]
  by_cases hc:0≤c∧c<((boxM m).length:Int)
  ·rw [if_neg (by simp;omega),if_neg (by simp;omega),wcellC_eq h hc.1 hc.2 (by omega),h.move (by omega) (by omega)]
   exact ⟨_,rfl,rfl⟩
  ·rw [if_pos (by simp;omega),if_pos (by simp;omega)]
   exact ⟨_,rfl,rfl⟩
 ·rw [if_neg hv]
  simp only [yD] at hv
  simp only [hv,ul,uF,grd,if_true]
  exact ⟨_,rfl,rfl⟩
theorem wState_eq (x:List Int) (hv:(validP m&&swpB m s)=true) (hx:x.length=(boxM m).length):symmetry_State n m s x=some (stP m s x,true):=by
 have hv2:=hv
 simp only [yc] at hv2
 have hV:=validP_iff.1 hv2.1
 have h:=swapOK_swp hV hv2.2
 have hbl:=box_len hS hV.lay
 have hsl:=strict_len hV.lay
 unfold symmetry_State
 rw [with_eq hF hS,yb,if_pos hv]
 simp only [y6,ug,yk,grd,if_true,yh]
 rw [if_neg (by simp [hsl,hx]),mkl_0 (by omega),yb]
 have e0:List.replicate x.length (0:Int)=(List.range x.length).map λj:Nat=>if (mvC m s (j:Int)).toNat<0 then x.getD (mvC m s (j:Int)).toNat 0 else 0:=by
  refine List.ext_getElem (by simp) λi h1 h2=>?_
  simp
 rw [e0]
 have:=loopF_g (body:=symmetry_State.l1 n x (some ⟨layoutM m,s⟩,true)) (len:=x.length) (st:=λi=>(((List.range x.length).map λj:Nat=>if (mvC m s (j:Int)).toNat<i then x.getD (mvC m s (j:Int)).toNat 0 else 0),(i:Int))) (g:=λ_=>some (stP m s x,true)) (λrec i hi hr=>?_) (λrec=>?_) n 0 (yx _) (by omega)
 ·exact this
 ·obtain ⟨⟨c1,c2⟩,c3,-⟩:=h.cell (c:=(i:Int)) (by omega) (by omega)
  obtain ⟨c,hc⟩:=yS c1
  have hcl:c<x.length:=by omega
  simp only [symmetry_State.l1,lt_len hi,if_true,idx_nat hi,yb,wcellC_eq (n:=n) h (c:=(i:Int)) (by omega) (by omega) (by omega),hc]
  rw [idx_nat (by simpa using hcl),yb,sto_at (by simpa using hcl),yb,add64_1 (by omega),← hr]
  congr 2
  refine List.ext_getElem (by simp) λj h1 h2=>?_
  have hj:j<x.length:=by simpa using h2
  obtain ⟨⟨d1,d2⟩,d3,-⟩:=h.cell (c:=(j:Int)) (by omega) (by omega)
  rw [List.getElem_set]
  by_cases e:c=j
  ·subst e
   rw [if_pos rfl]
   have hmi:mvC m s (c:Int)=(i:Int):=by rw [← hc];exact c3
   simp only [List.getElem_map,List.getElem_range,hmi,yy]
   rw [if_pos (by omega)]
   simp [List.getD_eq_getElem?_getD,hi]
  ·rw [if_neg e]
   simp only [List.getElem_map,List.getElem_range]
   have hne:(mvC m s (j:Int)).toNat≠i:=λe2=>e (by
    have:mvC m s (j:Int)=(i:Int):=by omega
    rw [this] at d3
    omega)
   by_cases e3:(mvC m s (j:Int)).toNat<i
   ·rw [if_pos e3,if_pos (by omega)]
   ·rw [if_neg e3,if_neg (by omega)]
 ·simp only [symmetry_State.l1,ge_len,yi,if_false]
  congr 2
  unfold stP
  refine List.map_congr_left λj hj=>?_
  have hj:=ue.1 hj
  obtain ⟨⟨d1,d2⟩,d3,-⟩:=h.cell (c:=(j:Int)) (by omega) (by omega)
  rw [if_pos (by omega)]
theorem rState_eq (x:List Int) (hv:(validP m&&swpB m s)=true) (hx:x.length=(boxM m).length):ref16_State n m s x=some (stP m s x,true):=by
 have hv2:=hv
 simp only [yc] at hv2
 have hV:=validP_iff.1 hv2.1
 have h:=swapOK_swp hV hv2.2
 have hbl:=box_len hS hV.lay
 unfold ref16_State
 rw [Swap_eq hn hS,hv,yb,ref16_Total_eq hV.lay (by omega)]
 simp only [y6,ug,yk,grd,if_true,yh]
 rw [if_neg (by simp [hx])]
 have:=loopF_g (body:=ref16_State.l1 n m s x) (len:=x.length) (st:=λi=>(((List.range i).map λi:Nat=>x.getD (mvC m s (i:Int)).toNat 0),(i:Int))) (g:=λ_=>some (stP m s x,true)) (λrec i hi hr=>?_) (λrec=>?_) n 0 (yx _) (by omega)
 ·simpa using this
 ·obtain ⟨⟨c1,c2⟩,-,-⟩:=h.cell (c:=(i:Int)) (by omega) (by omega)
  have hmv:=h.move (n:=n) (c:=(i:Int)) (by omega) (by omega)
  simp only [ref16_State.l1,lt_len hi,if_true,hmv,yb,getD_idx c1 (by omega:mvC m s (i:Int)<(x.length:Int))]
  rw [app_some (by simp;omega),yb,add64_1 (by omega),← hr]
  simp only [List.range_succ,ua,yL,List.map_nil]
 ·simp only [ref16_State.l1,ge_len,yi,if_false]
  rfl
theorem wState_no (x:List Int) (hv:¬ ((validP m&&swpB m s)=true∧x.length=(boxM m).length)):symmetry_State n m s x=some ([],false):=by
 unfold symmetry_State
 rw [with_eq hF hS,yb]
 by_cases hw:(validP m&&swpB m s)=true
 ·have hw2:=hw
  simp only [yc] at hw2
  have hsl:=strict_len (validP_iff.1 hw2.1).lay
  rw [if_pos hw]
  simp only [y6,ug,yk,grd,if_true,yh]
  rw [if_pos]
  rw [bne_iff_ne,hsl]
  exact λe=>hv ⟨hw,by omega⟩
 ·rw [if_neg hw];simp [grd]
theorem rState_no (x:List Int) (hv:¬ ((validP m&&swpB m s)=true∧x.length=(boxM m).length)):ref16_State n m s x=some ([],false):=by
 unfold ref16_State
 rw [Swap_eq hn hS,yb]
 by_cases hw:(validP m&&swpB m s)=true
 ·have hw2:=hw
  simp only [yc] at hw2
  rw [hw,ref16_Total_eq (validP_iff.1 hw2.1).lay (by omega)]
  simp only [y6,ug,yk,grd,if_true,yh]
  rw [if_pos]
  rw [bne_iff_ne]
  exact λe=>hv ⟨hw,by omega⟩
 ·simp only [yD] at hw
  rw [hw];simp [grd]
theorem State_both (x:List Int):∃ r,symmetry_State n m s x=some r∧ref16_State n m s x=some r:=by
 by_cases hv:(validP m&&swpB m s)=true∧x.length=(boxM m).length
 ·exact ⟨_,wState_eq hF hn hS x hv.1 hv.2,rState_eq hF hn hS x hv.1 hv.2⟩
 ·exact ⟨_,wState_no hF hn hS x hv,rState_no hF hn hS x hv⟩
end
theorem mvt_pairG {m:Model} {s:Swap} (h:Swp m s) {l:List Term} (hr:risT l) (ht:∀ t∈l,0≤t.cell∧t.cell<((boxM m).length:Int)):(l.map (mvt m s)).Pairwise λa b=>a.cell≠b.cell:=by
 rw [List.pairwise_map]
 refine List.Pairwise.imp_of_mem (λ{a b} ha hb hab e=>?_) hr
 have:=mv_inj h (ht a ha).1 (ht a ha).2 (ht b hb).1 (ht b hb).2 e
 omega
theorem wrowG_eq {m:Model} {s:Swap} {n:Nat} {r:Row} (h:Swp m s) (hr:risT r.terms) (ht:∀ t∈r.terms,0≤t.cell∧t.cell<((boxM m).length:Int)) (hl:r.terms.length≤100000) (hn:1000000≤n):symmetry_swapping_row n ⟨layoutM m,s⟩ r=some (rowM m s r):=by
 unfold symmetry_swapping_row
 refine loopF_idx (l:=r.terms) (mvt m s) _ (λrec b i hi hb=>?_) (λrec=>?_) (by omega)
 ·obtain ⟨t1,t2⟩:=ht _ (yw hi)
  simp only [symmetry_swapping_row.l1,lt_len hi,if_true,idx_nat hi,yb,wcellC_eq h t1 t2 hn]
  rw [app_some (by simp;omega),yb,add64_1 (by omega)]
  rfl
 ·simp only [symmetry_swapping_row.l1,ge_len,yi,if_false]
  obtain ⟨q,s1,s2,s3⟩:=cI_sort (f:=λq0 q1=>symmetry_swapping_row_1 n q0 q1) (k:=λt:Term=>t.cell) (l:=r.terms.map (mvt m s)) (λx _ y _=>by unfold symmetry_swapping_row_1;rw [CompareI_eq];rfl) (by simp;omega)
  rw [s1,yb]
  have hp:=mvt_pairG h hr ht
  have hne:q.Pairwise λa b:Term=>a.cell≠b.cell:=(s2.pairwise_iff (λ{a b} hab=>Ne.symm hab)).2 hp
  have e:q=(rowM m s r).terms:=ris_uniq (s2.trans (rowM_perm m s r).symm) (s3.imp₂ (λa b h1 h2=>by omega) hne) (rowL_ris (acc:=[]) (by simp [risT]) (by simpa using hp))
  rw [e];rfl
def risB (K:Nat):Int→List Term→Bool
 | _,[]=>true
 | last,t::l=>(decide (last<t.cell)&&decide (t.cell<(K:Int)))&&risB K t.cell l
theorem risB_spec {K:Nat}:∀ {l:List Term} {last:Int},risB K last l=true→risT l∧∀ t∈l,last<t.cell∧t.cell<(K:Int)
 | [],_,_=>⟨by simp [risT],by simp⟩
 | t::l,last,h=>by
  simp only [risB,yc,yf] at h
  obtain ⟨i1,i2⟩:=risB_spec h.2
  refine ⟨ur.2 ⟨λu hu=>(i2 u hu).1,i1⟩,λu hu=>?_⟩
  rcases yM.1 hu with rfl | hu
  ·exact h.1
  ·have:=i2 u hu;have:=h.1;omega
theorem Row_both {m:Model} {s:Swap} {n:Nat} (hF:Fuel n) (hn:4294967296≤n) (hS:SmallM m) (r:Row) (hl:r.terms.length≤150):∃ x,(symmetry_Row n m s r=some x∧ref16_Row n m s r=some x)∧x.1.terms.length≤100000:=by
 unfold symmetry_Row ref16_Row
 rw [with_eq hF hS,yb,Swap_eq hn hS,yb]
 by_cases hv:(validP m&&swpB m s)=true
 ·have hv2:=hv
  simp only [yc] at hv2
  have hV:=validP_iff.1 hv2.1
  have h:=swapOK_swp hV hv2.2
  have hbl:=box_len hS hV.lay
  have hsl:=strict_len hV.lay
  have htot:=ref16_Total_eq (n:=n) hV.lay (by omega)
  rw [if_pos hv]
  simp only [hv,y6,yi,if_false]
  refine ⟨if risB (boxM m).length (-1) r.terms=true then (rowM m s r,true) else (⟨[],0⟩,false),⟨?_,?_⟩,by
   have:=(rowM_perm m s r).length_eq
   split
   ·simp at this ⊢;omega
   ·simp⟩
  ·have:=loopF_I (body:=symmetry_Row.l1 n r (some ⟨layoutM m,s⟩,true)) (len:=r.terms.length) (st:=λ(k:Int) i=>(k,(i:Int))) (g:=λi k=>some (if risB (boxM m).length k (r.terms.drop i)=true then (rowM m s r,true) else ((⟨[],0⟩:Row),false))) (λi k=>risB (boxM m).length (-1) r.terms=risB (boxM m).length k (r.terms.drop i)) (λrec i k hi hI hr=>?_) (λrec k hI=>?_) n 0 (-1) (yx _) (by omega) (by simp)
   ·simpa using this
   ·rw [drop_cons hi,risB] at hI ⊢
    simp only [symmetry_Row.l1,lt_len hi,if_true,idx_nat hi,yb,yk,yB,grd,yh,hsl]
    by_cases hc:k<r.terms[i].cell∧r.terms[i].cell<((boxM m).length:Int)
    ·simp only [hc,decide_true,yA] at hI ⊢
     rw [if_neg (by simp;omega),add64_1 (by omega)]
     exact hr _ hI
    ·rw [if_pos (by simp;omega),if_neg (by simp;omega)]
   ·rw [List.drop_length] at hI ⊢
    obtain ⟨r1,r2⟩:=risB_spec (hI.trans rfl)
    simp only [symmetry_Row.l1,ge_len,yi,if_false,yb]
    rw [wrowG_eq h r1 (λt ht=>by have:=r2 t ht;omega) (by omega) (by omega),yb]
    rfl
  ·have:=loopF_I (body:=ref16_Row.l1 n m s r) (len:=r.terms.length) (st:=λ(k:Int) i=>(k,(i:Int))) (g:=λi k=>some (if risB (boxM m).length k (r.terms.drop i)=true then (rowM m s r,true) else ((⟨[],0⟩:Row),false))) (λi k=>risB (boxM m).length (-1) r.terms=risB (boxM m).length k (r.terms.drop i)) (λrec i k hi hI hr=>?_) (λrec k hI=>?_) n 0 (-1) (yx _) (by omega) (by simp)
   ·simpa using this
   ·rw [drop_cons hi,risB] at hI ⊢
    simp only [ref16_Row.l1,lt_len hi,if_true,idx_nat hi,yb,yk,yB,grd,yh,htot]
    by_cases hc:k<r.terms[i].cell∧r.terms[i].cell<((boxM m).length:Int)
    ·simp only [hc,decide_true,yA] at hI ⊢
     rw [if_neg (by simp;omega),add64_1 (by omega)]
     exact hr _ hI
    ·rw [if_pos (by simp;omega),if_neg (by simp;omega)]
   ·rw [List.drop_length] at hI ⊢
    obtain ⟨r1,r2⟩:=risB_spec (hI.trans rfl)
    simp only [ref16_Row.l1,ge_len,yi,if_false]
    rw [row_eq h (λt ht=>by have:=r2 t ht;omega) (by omega) (by omega),yb]
    rfl
 ·rw [if_neg hv]
  simp only [yD] at hv
  simp only [hv,ul,if_true]
  exact ⟨_,⟨rfl,rfl⟩,by simp⟩
theorem Moves_law {m:Model} {s:Swap} {c:Int} {x:List Int} {r:Row}:law16_SymmetryMoves 18446744073709551616 m s c x r=some true:=by
 unfold law16_SymmetryMoves
 simp only [awake_spec,yb,y6,yi,if_false,ref13_Few_eq big1]
 cases hf:fewP m with
 | false=>simp
 | true=>
  have hS:=fewP_small hf
  by_cases hb:((decide (150<(x.length:Int)))||(decide (150<(r.terms.length:Int))))=true
  ·rw [if_pos (by simpa using hb)]
  ·rw [if_neg (by simpa using hb)]
   simp only [yz,yf,not_or,Int.not_lt] at hb
   obtain ⟨r1,a1,a2⟩:=Cell_both (s:=s) fuel_N big2 hS c
   obtain ⟨r2,b1,b2⟩:=State_both (s:=s) fuel_N big2 hS x
   obtain ⟨r3,⟨c1,c2⟩,l3⟩:=Row_both (s:=s) fuel_N big2 hS r (by omega)
   have l2:r2.1.length<1000000:=by
    by_cases hv:(validP m&&swpB m s)=true∧x.length=(boxM m).length
    ·rw [wState_eq fuel_N big2 hS x hv.1 hv.2] at b1
     cases b1
     simp [stP_len];omega
    ·rw [wState_no fuel_N big2 hS x hv] at b1
     cases b1;simp
   rw [a1,yb,a2,yb,b1,yb,b2,yb,c1,yb,c2,yb,EqualInt_eq l2 big1,same16_eq l3 big1]
   simp [grd]
theorem closed12:joinedFacts Tryz.pinned.checked.prog 7 Tryz.f7 (OpenSpec.ofChange Rows.symmetryMovesSpec).bare Rows.symmetryMovesRow=true:=by
 unfold joinedFacts
 simp only [yc]
 repeat' apply And.intro
 all_goals as_aux_lemma=>kernel_rfl
section
open Go.ChangeShapes Go.WideShapes Go.ChangeAt Go.RowKit
theorem own:ownKnob Tryz.prog.godebug=none:=by kernel_rfl
theorem laidOut:laidOutB Tryz.prog=true:=by kernel_rfl
set_option maxRecDepth 100000 in
theorem contract12 (H:Type) (enc:TypeId×Value→H) (W:World) (base:Nat) (args:Array Value) (ds gs:List (DataW H)) (before:List MemPlace)
  (hval:∀ (j:Nat) t v,Tryz.f7.params[j]? = some t→args[j]? = some v→Value.okWide Tryz.prog W .any base t v)
  (hW:DataW.Whole enc Tryz.prog Tryz.f7.params.toList Rows.symmetryMovesSpec.vars false W args.toList ds gs before) (hL:laidMetH Tryz.prog Rows.symmetryMovesRow.laid W) (hS:W.ShapedOpen Tryz.prog) :
  Calls Tryz.prog 7 args W λe W'=>∃ v,e = .returned v∧Rows.symmetryMovesSpec.post enc Tryz.prog Tryz.f7 false true false false W args v W':=by
 have hW':=hW
 obtain ⟨p,q,hA0,hV,rfl,hfz,hnd⟩:=hW
 have hA:DataW.TrodAll enc Tryz.prog W 0 (λ_=>true) true Tryz.f7.params.toList args.toList ds p:=hA0
 rw [Tryz.params7] at hA hval
 obtain ⟨v0,vs0,d0,ds0,p0,q0,hargs,rfl,rfl,h0,r0⟩:=trodAll_cons hA
 obtain ⟨v1,vs1,d1,ds1,p1,q1,rfl,rfl,rfl,h1,r1⟩:=trodAll_cons r0
 obtain ⟨v2,vs2,d2,ds2,p2,q2,rfl,rfl,rfl,h2,r2⟩:=trodAll_cons r1
 obtain ⟨v3,vs3,d3,ds3,p3,q3,rfl,rfl,rfl,h3,r3⟩:=trodAll_cons r2
 obtain ⟨v4,vs4,d4,ds4,p4,q4,rfl,rfl,rfl,h4,r4⟩:=trodAll_cons r3
 obtain ⟨rfl,rfl,rfl⟩:=trodAll_nil r4
 obtain rfl:args = #[v0,v1,v2,v3,v4]:=by cases args;simp_all
 obtain ⟨rfl,rfl⟩:=trodVars_none hV
 obtain ⟨a0,k0⟩:=dModel.of_arg (hval 0 _ v0 rfl rfl) h0
 obtain ⟨a1,k1⟩:=dSwap.of_arg (hval 1 _ v1 rfl rfl) h1
 obtain ⟨a2,k2⟩:=dInt.of_arg (hval 2 _ v2 rfl rfl) h2
 obtain ⟨a3,k3⟩:=dInts.of_arg (hval 3 _ v3 rfl rfl) h3
 obtain ⟨a4,k4⟩:=dRow.of_arg (hval 4 _ v4 rfl rfl) h4
 have hrun:=(law16_SymmetryMoves_ok _ a0 a1 a2 a3 a4 true Moves_law).run Noneof W #[v0,v1,v2,v3,v4] (λ_ h=>h.elim) (glob_ok hL hS) (by
  simp only [D.reps]
  exact ⟨v0,_,rfl,k0,v1,_,rfl,k1,v2,_,rfl,k2,v3,_,rfl,k3,v4,_,rfl,k4,rfl⟩)
 refine hrun.mono λe W' ⟨u,he,hf,hu⟩=>?_
 simp only [D.rep] at hu
 subst hu
 subst he
 refine ⟨_,rfl,post_kept hW' rfl rfl rfl laidOut (λt ht=>?_) hf (λ_ _ _=>trodAll_cons_mk (shut_bool Tryz.underlying4 _) trodAll_mk0)⟩
 rw [Tryz.params7] at ht
 have hall:([30,41,3,22,72].all λt=>Tryz.prog.readableRec t&&decide (t<Tryz.prog.types.size))=true:=by kernel_rfl
 have:=yt.1 hall t (by simpa using ht)
 simpa using this
theorem reads12 (os:Os) {H:Type} (enc:TypeId×Value→H):∃ places,DataW.whole enc Tryz.prog ((World.laidAll Tryz.prog os Rows.symmetryMovesRow.laid).forCall (λ_ _=>0) ⟨#[],#[.agg #[.slice none 0 0,.slice none 0 0,.slice none 0 0,.slice none 0 0,.slice none 0 0,.slice none 0 0,.slice none 0 0],.agg #[.int .i64 0,.int .i64 0,.int .i64 0],.int .i64 0,.slice none 0 0,.agg #[.slice none 0 0,.int .i64 0]],[]⟩).memory Tryz.f7.params.toList Rows.symmetryMovesSpec.vars false
  (#[.agg #[.slice none 0 0,.slice none 0 0,.slice none 0 0,.slice none 0 0,.slice none 0 0,.slice none 0 0,.slice none 0 0],.agg #[.int .i64 0,.int .i64 0,.int .i64 0],.int .i64 0,.slice none 0 0,.agg #[.slice none 0 0,.int .i64 0]]:Array Value).toList 8 =
  some ([.agg [.nil,.nil,.nil,.nil,.nil,.nil,.nil],.agg [.lit (.int .i64 0),.lit (.int .i64 0),.lit (.int .i64 0)],.lit (.int .i64 0),.nil,.agg [.nil,.lit (.int .i64 0)]],[],places):=
 ⟨[],by kernel_rfl⟩
set_option maxRecDepth 100000 in
theorem lifted12 (os:Os) (started:os.Started) (H:Type) (enc:TypeId×Value→H) (F:Stop.Interp) :
  ReturnsInHanded {} Tryz.checked os 7 .any ((OpenSpec.ofChange Rows.symmetryMovesSpec).preRow enc Tryz.prog Tryz.f7 Rows.symmetryMovesRow.domain false Rows.symmetryMovesRow.laid) (((OpenSpec.ofChange Rows.symmetryMovesSpec).at F).post enc Tryz.prog Tryz.f7 false true false false):=by
 obtain ⟨places,hx⟩:=reads12 os enc
 refine returnsInHanded_of_row (C:=Tryz.checked) (s:=OpenSpec.ofChange Rows.symmetryMovesSpec) own started (by kernel_rfl) Tryz.func7
  (witness_row_atRef (enc:=enc) (C:=Tryz.checked) false (World.laidAll Tryz.prog os Rows.symmetryMovesRow.laid) _ (World.laidAll_os _ _ _) (by kernel_rfl) (by kernel_rfl) (by kernel_rfl)
   (OpenSpec.preRow_of_cond 8 hx (by kernel_rfl) (λk hk=>by cases hk) (by kernel_rfl) (laidMet_laidAll _ (by kernel_rfl) (by kernel_rfl)))) ?_
 intro W base args ds gs before hval hW _ _ _ hL hS _
 exact contract12 H enc W base args ds gs before hval hW hL hS
theorem said12:Rows.SymmetryMovesSaid:=
 OpenClaim.holds_of_cond 7 Tryz.f7 rfl rfl rfl rfl rfl rfl rfl ⟨rfl,rfl,rfl,rfl,rfl⟩ rfl rfl rfl rfl rfl (by kernel_rfl) Tryz.func7 closed12
  (of_decide_eq_true (by kernel_rfl)) (by unfold Func.isWrapper;first | (rw [if_pos (by decide +kernel)];kernel_rfl) | (rw [if_neg (by decide +kernel)];exact ⟨rfl,rfl⟩))
  (λos started H enc _ F=>by rw [OpenClaim.pre_eq_preRow];exact lifted12 os started H enc F)
theorem plain12 (f:FuncId) (fn:Func) (hf:Tryz.pinned.checked.prog.funcNamed Rows.symmetryMovesRow.func=some f) (hfn:Tryz.pinned.checked.prog.funcs[f]? = some fn) :
  false=Tryz.pinned.checked.prog.looks []∧∀ (j:Nat) t,fn.params[j]? = some t→Tryz.pinned.checked.prog.wantsStandIn t=false:=by
 obtain rfl:f=7:=Option.some.inj ((show Tryz.prog.funcNamed Rows.symmetryMovesRow.func=some 7 by kernel_rfl).symm.trans hf) |>.symm
 obtain rfl:fn=Tryz.f7:=(Option.some.inj (Tryz.func7.symm.trans hfn)).symm
 refine ⟨by kernel_rfl,λj t ht=>?_⟩
 rw [Tryz.params7] at ht
 have hall:([30,41,3,22,72].all λu=>!Tryz.prog.wantsStandIn u)=true:=by kernel_rfl
 have:=yt.1 hall t (by simpa using Array.mem_of_getElem? ht)
 exact (show Tryz.prog.wantsStandIn t=false by simpa using this)
theorem symmetryMoves_holds:Rows.SymmetryMovesCardSaid:=
 Claim7.holds_tied_plain_at .later [] _ _ _ _ said12 (λ_ h=>by cases h) (by kernel_rfl) (λ_ h=>by cases h) symmetryMoves_row_tie rfl ⟨rfl,rfl⟩ (by kernel_rfl) rfl plain12 (by kernel_rfl)
end
end Go.Proofs.YtehefbidnkfciaaGreatDoor
