/- The law holds for every input. No condition. -/
import Derived.Test.YtehefbidnkfciaaGreatDoorTw05
import Derived.Test.YtehefbidnkfciaaGreatDoorCards
import Derived.Test.YtehefbidnkfciaaGreatDoorTie
import Derived.JoinedCond
import Derived.Deep.DeepWitnessRowRef
import Derived.Lay
import Derived.ProofKit
set_option linter.unusedVariables false
set_option linter.unusedSectionVars false
set_option linter.unusedSimpArgs false
set_option maxHeartbeats 4000000
namespace Go.Proofs.YtehefbidnkfciaaGreatDoor
open Go Go.RowKit
abbrev uk:=@_root_.List.getD_eq_getElem?_getD
abbrev uL:=@_root_.Nat.pow_le_pow_right
abbrev uO:=@_root_.Nat.mul_le_mul
theorem nodup_map_inj {α β:Type} {f:α→β}:∀ {l:List α},(l.map f).Nodup→∀ x∈l,∀ y∈l,f x=f y→x=y
 | [],_,x,hx,_,_,_=>by simp at hx
 | a::l,h,x,hx,y,hy,e=>by
  simp only [yN,List.nodup_cons,yV,not_exists,not_and] at h;simp only [yE] at hx hy;rcases hx with rfl | hx <;> rcases hy with rfl | hy
  ·rfl
  ·exact absurd e.symm (h.1 y hy)
  ·exact absurd e (h.1 x hx)
  ·exact nodup_map_inj h.2 x hx y hy e
theorem hidden_rounds {n:Nat} {j:Judge} {m:GMap Int Bool} (hn:1000000≤n) (hh:j.model.hides.length≤1000) (hok:∀ h∈j.model.hides,(0≤h.table∧h.table<(j.model.tables.length:Int)))
  (hw:WfM m) (hlen:m.es.length≤j.model.hides.length) (hk:∀ t,t∈keysOf m↔∃ h∈j.model.hides,h.table=t) :
  loopF (model_judge_hidden.l3 n j) n (m,0)=some (j.model.hides.all λh=>!leadsP j.model.hides j.model.tables.length h.to h.table):=by
 cases hac:(j.model.hides.all λh=>!leadsP j.model.hides j.model.tables.length h.to h.table) with
 | true=>
  have hac':∀ h∈j.model.hides,leadsP j.model.hides j.model.tables.length h.to h.table=false:=λh hm=>by
   have:=yp.1 hac h hm;simpa using this
  have hrange:∀ m':GMap Int Bool,(∀ t∈keysOf m',∃ h∈j.model.hides,h.table=t)→m'.es≠[]→∃ e∈m'.es,∀ h∈j.model.hides,¬ (h.table=e.2.1∧h.to∈keysOf m'):=λm' hm' hne=>by
   obtain ⟨t,ht,hs⟩:=sink_ex (hs:=j.model.hides) (T:=j.model.tables.length) (S:=keysOf m') (by simpa [keysOf] using hne) (λt ht=>by
    obtain ⟨h,hh,rfl⟩:=hm' t ht;exact hok h hh) hac'
   simp only [keysOf,yV] at ht;obtain ⟨e,he,rfl⟩:=ht;exact ⟨e,he,hs⟩
  refine loopF_I (body:=model_judge_hidden.l3 n j) (len:=j.model.hides.length) (st:=λm i=>(m,(i:Int))) (g:=λ_ _=>some true) (λi m=>WfM m∧m.es.length+i≤j.model.hides.length∧∀ t∈keysOf m,∃ h∈j.model.hides,h.table=t) (λrec i m hi hI hr=>?_) (λrec m hI=>?_) n 0 m (yr _) (by omega) ⟨hw,by omega,λt ht=>(hk t).1 ht⟩
  ·obtain ⟨h1,h2,h3⟩:=hI;simp only [model_judge_hidden.l3,lt_len hi,if_true];refine hidden_round (r:=true) (by omega) (by omega) (λm' seen=>(WfM m'∧m'.clock=m.clock∧∀ t∈keysOf m',∃ h∈j.model.hides,h.table=t)∧(m'.es.length+i+1≤j.model.hides.length∨(m'.es.length+i≤j.model.hides.length∧∃ e∈m'.left seen,∀ h∈j.model.hides,¬ (h.table=e.2.1∧h.to∈keysOf m')))) (λm' seen hJ=>⟨hJ.1.1,hJ.1.2.1⟩) (λm' seen hJ hl=>?_) (λm' seen e hJ he=>?_) ⟨⟨h1,rfl,h3⟩,?_⟩ (by omega)
   ·rw [add64_1 (by omega)];refine hr m' ⟨hJ.1.1,?_,hJ.1.2.2⟩;rcases hJ.2 with h | ⟨-,e,he,-⟩
    ·omega
    ·rw [hl] at he;cases he
   ·obtain ⟨⟨w1,w2,w3⟩,hd⟩:=hJ;have hem:e∈m'.es:=(List.mem_filter.1 he).1;obtain ⟨d1,d2,d3,d4,-⟩:=w1.del hem;cases hb:(j.model.hides.any λh=>h.table==e.2.1&&decide (h.to∈keysOf m')) with
    | true=>
     rw [if_pos rfl];refine ⟨⟨w1,w2,w3⟩,?_⟩;rcases hd with hd | ⟨hd,x,hx,hs⟩
     ·exact .inl hd
     ·refine .inr ⟨hd,x,?_,hs⟩;simp only [GMap.left,List.mem_filter] at hx ⊢;refine ⟨hx.1,?_⟩;have hne:x.1≠e.1:=λe1=>by
       have:x=e:=nodup_map_inj w1.nd x hx.1 e hem e1;subst this;simp only [un,yb,beq_iff_eq,yd] at hb;obtain ⟨h,hh,q⟩:=hb;exact hs h hh q
      simp only [yG,List.contains_eq_mem,yJ,yH,yK,not_or] at hx ⊢;exact ⟨hx.2,hne⟩
    | false=>
     rw [if_neg (by simp)];refine ⟨⟨d1,by omega,λt ht=>?_⟩,.inl ?_⟩
     ·refine w3 t ?_;simp only [keysOf,yV] at ht ⊢;obtain ⟨x,hx,rfl⟩:=ht;exact ⟨x,d4.subset hx,rfl⟩
     ·rcases hd with hd | ⟨hd,-⟩ <;> omega
   ·by_cases hne:m.es=[]
    ·left;rw [hne];simp;omega
    ·right;refine ⟨h2,?_⟩;obtain ⟨e,he,hs⟩:=hrange m h3 hne;exact ⟨e,by simp [GMap.left,he],hs⟩
  ·have:m.es.length=0:=by omega
   simp [model_judge_hidden.l3,this]
 | false=>
  obtain ⟨h0,hm0,hl0⟩:∃ h∈j.model.hides,leadsP j.model.hides j.model.tables.length h.to h.table=true:=by
   simp only [List.all_eq_false] at hac;obtain ⟨h,hm,hx⟩:=hac;exact ⟨h,hm,by simpa using hx⟩
  have hclosed:∀ t,((∃ k,leadsP j.model.hides k h0.to t=true)∧∃ k,leadsP j.model.hides k t h0.table=true)→∃ h∈j.model.hides,h.table=t∧((∃ k,leadsP j.model.hides k h0.to h.to=true)∧∃ k,leadsP j.model.hides k h.to h0.table=true):=by
   rintro t ⟨⟨a,ha⟩,b,hb⟩;have hcase:t=h0.table∨∃ h∈j.model.hides,h.table=t∧∃ k,leadsP j.model.hides k h.to h0.table=true:=by
    cases b with
    | zero=>left;simpa [leadsP] using hb
    | succ b=>
     simp only [leadsP,yA,beq_iff_eq,un,yb] at hb;rcases hb with hb | ⟨h,hm,e,hx⟩
     ·exact .inl hb
     ·exact .inr ⟨h,hm,e,b,hx⟩
   rcases hcase with rfl | ⟨h,hm,rfl,k,hx⟩
   ·exact ⟨h0,hm0,rfl,⟨0,leadsP_refl⟩,_,hl0⟩
   ·exact ⟨h,hm,rfl,⟨_,leadsP_snoc hm ha⟩,k,hx⟩
  generalize hC:(λt=>(∃ k,leadsP j.model.hides k h0.to t=true)∧∃ k,leadsP j.model.hides k t h0.table=true)=C at *;have hC':∀ t,C t→∃ h∈j.model.hides,h.table=t∧C h.to:=by
   intro t ht;rw [← hC] at ht ⊢;exact hclosed t ht
  have hCs:C h0.to:=by rw [← hC];exact ⟨⟨0,leadsP_refl⟩,_,hl0⟩
  refine loopF_I (body:=model_judge_hidden.l3 n j) (len:=j.model.hides.length) (st:=λm i=>(m,(i:Int))) (g:=λ_ _=>some false) (λi m=>WfM m∧m.es.length≤1000∧∀ t,C t→t∈keysOf m) (λrec i m hi hI hr=>?_) (λrec m hI=>?_) n 0 m (yr _) (by omega) ⟨hw,by omega,λt ht=>(hk t).2 (by
   obtain ⟨h,hh,e,-⟩:=hC' t ht;exact ⟨h,hh,e⟩)⟩
  ·obtain ⟨h1,h2,h3⟩:=hI;simp only [model_judge_hidden.l3,lt_len hi,if_true];refine hidden_round (r:=false) (by omega) (by omega) (λm' seen=>WfM m'∧m'.clock=m.clock∧m'.es.length≤1000∧∀ t,C t→t∈keysOf m') (λm' seen hJ=>⟨hJ.1,hJ.2.1⟩) (λm' seen hJ hl=>?_) (λm' seen e hJ he=>?_) ⟨h1,rfl,h2,h3⟩ (by omega)
   ·rw [add64_1 (by omega)];exact hr m' ⟨hJ.1,hJ.2.2⟩
   ·obtain ⟨w1,w2,w3,w4⟩:=hJ;have hem:e∈m'.es:=(List.mem_filter.1 he).1;obtain ⟨d1,d2,d3,-,d5⟩:=w1.del hem;cases hb:(j.model.hides.any λh=>h.table==e.2.1&&decide (h.to∈keysOf m')) with
    | true=>
     rw [if_pos rfl];exact ⟨w1,w2,w3,w4⟩
    | false=>
     rw [if_neg (by simp)];refine ⟨d1,by omega,by omega,λt ht=>d5 t (w4 t ht) λe1=>?_⟩;obtain ⟨h,hh,hht,hto⟩:=hC' t ht;have:=List.any_eq_false.1 hb h hh;apply this;simp only [yb,beq_iff_eq,yd];exact ⟨by omega,w4 _ hto⟩
  ·obtain ⟨-,-,h3⟩:=hI;have:=h3 _ hCs;have hne:m.es.length≠0:=λe=>by
    simp only [keysOf,List.length_eq_zero_iff.1 e,List.map_nil,List.not_mem_nil] at this
   simp only [model_judge_hidden.l3,ge_len,yf,if_false,yi,ug];omega
theorem model_hidden_eq {n m l} (hn:1000000≤n) (hS:SmallM m):model_judge_hidden n ⟨m,l⟩=some (hidesP m):=by
 have hhl:=hS.hides;have htl:=hS.tables;unfold model_judge_hidden hidesP;rw [if_neg (by simp;omega),decide_eq_true hhl,yB];have:=loopF_lall (body:=model_judge_hidden.l1 n ⟨m,l⟩) (l:=m.hides) (n:=n) (st:=λi=>(i:Int)) (hideP m) (some false) (loopF (model_judge_hidden.l2 n ⟨m,l⟩) n (GMap.empty,0)) (λrec i hi=>?_) (λrec=>?_) (by omega)
 ·simp only [Int.natCast_zero] at this;rw [this];cases hall:m.hides.all (hideP m) with
  | false=>simp
  | true=>
   rw [if_pos rfl,yB];have hok:∀ h∈m.hides,(0≤h.table∧h.table<(m.tables.length:Int)):=λh hm=>by
    have:=yp.1 hall h hm;simp only [hideP,yb,yd] at this;exact this.1.1.1
   refine loopF_I (body:=model_judge_hidden.l2 n ⟨m,l⟩) (len:=m.hides.length) (st:=λg i=>(g,(i:Int))) (g:=λ_ _=>some (m.hides.all λh=>!leadsP m.hides m.tables.length h.to h.table)) (λi g=>WfM g∧g.es.length≤i∧∀ t,t∈keysOf g↔∃ h∈m.hides.take i,h.table=t) (λrec i g hi hI hr=>?_) (λrec g hI=>?_) n 0 GMap.empty (yr _) (by omega) ⟨WfM.empty,by simp [GMap.empty],λt=>by simp [keysOf,GMap.empty]⟩
   ·obtain ⟨h1,h2,h3⟩:=hI;obtain ⟨p1,p2,p3⟩:=h1.put m.hides[i].table;simp only [model_judge_hidden.l2,lt_len hi,if_true,idx_nat hi,ya,add64_1 (i:=i) (by omega)];refine hr _ ⟨p1,by omega,λt=>?_⟩;rw [p3,h3,yw hi];simp only [yH,yK];constructor
    ·rintro (⟨h,hm,e⟩ | e)
     ·exact ⟨h,.inl hm,e⟩
     ·exact ⟨_,.inr rfl,e.symm⟩
    ·rintro ⟨h,hm | rfl,e⟩
     ·exact .inl ⟨h,hm,e⟩
     ·exact .inr e.symm
   ·obtain ⟨h1,h2,h3⟩:=hI;simp only [model_judge_hidden.l2,ge_len,yf,if_false];exact hidden_rounds (j:=⟨m,l⟩) hn (by simp only [];omega) hok h1 h2 (λt=>by rw [h3,List.take_length])
 ·simp only [model_judge_hidden.l1,model_index,lt_len hi,if_true,idx_nat hi,ya,yj,yC,yh,add64_1 (i:=i) (by omega)];generalize m.hides[i]=h;by_cases hb:(((0≤h.table∧h.table<(m.tables.length:Int))∧(0≤h.to∧h.to<(m.tables.length:Int)))∧h.table≠h.to)
  ·simp only [grd,if_true];rw [if_neg (by simp [hb])];obtain ⟨t,u,ht,hu⟩:=hide_idx hb.1.1 hb.1.2;have hhp:hideP m h=(((t.kind==0)&&(u.kind==0))&&((decide (0≤h.column)&&decide (h.column<(t.columns.length:Int)))&&(((u.columns.length:Int)==1)&&((idx u.columns 0).getD default==(idx t.columns h.column).getD default)))):=by
    unfold hideP;rw [ht,hu];simp [hb]
   simp only [ht,hu,ya];rw [hhp];by_cases hk:(((t.kind==0)&&(u.kind==0))&&((decide (0≤h.column)&&decide (h.column<(t.columns.length:Int)))&&((u.columns.length:Int)==1)))=true
   ·have hk':=hk;simp only [yb,yd,beq_iff_eq] at hk';obtain ⟨⟨k1,k2⟩,⟨k3,k4⟩,k5⟩:=hk';obtain ⟨x,hx⟩:=idx_some (l:=u.columns) (i:=0) (by omega) (by omega);obtain ⟨y,hy⟩:=idx_some k3 k4;simp only [k1,k2,k3,k4,k5,hx,hy,yh,decide_true,beq_self_eq_true,uG,yj,yC,Bool.or_false,yB,uP,yS,if_true];by_cases hxy:x=y
    ·simp [hxy]
    ·simp [hxy]
   ·have hf:(((((t.kind != 0)||(u.kind != 0))||(!(decide (0≤h.column)&&decide (h.column<(t.columns.length:Int)))))||((u.columns.length:Int) != 1)))=true:=by
     simp only [yb,yd,beq_iff_eq] at hk;simp only [yA,bne_iff_ne,yG,uc,yJ];omega
    simp only [hf,uM,if_true];rw [← Bool.and_assoc (decide (0≤h.column)&&decide (h.column<(t.columns.length:Int))),← Bool.and_assoc];simp only [yD] at hk;rw [hk];rfl
  ·have hhp:hideP m h=false:=by
    unfold hideP;cases hx:(((decide (0≤h.table)&&decide (h.table<(m.tables.length:Int)))&&(decide (0≤h.to)&&decide (h.to<(m.tables.length:Int))))&&(h.table != h.to)) with
    | false=>rfl
    | true=>
     simp only [yb,yd,bne_iff_ne] at hx;exact absurd hx hb
   rw [hhp];simp only [grd,if_true];rw [if_pos (by
    simp only [yA,yG,uc,yJ,beq_iff_eq];omega)]
   rfl
 ·simp [model_judge_hidden.l1]
def validP (m:Model):Bool:=(layoutP m.sorts m.tables&&(decide (m.families.length≤24)&&distP [] m.families))&&(consP m (rangesP m.sorts true m.tables)&&(opsP m&&(actsP m (rangesP m.sorts true m.tables).length&&hidesP m)))
theorem model_Valid_eq {n m} (hF:Fuel n) (hS:SmallM m):model_Valid n m=some (validP m):=by
 have hn:=hF.big;have hs:=hS.sorts;have ht:=hS.tables;have hf:=hS.families;have hcs:∀ t∈m.tables,t.columns.length≤1000:=λt h=>by have:=hS.tab t h;omega
 unfold model_Valid validP;rw [cells_Valid_eq hF (by omega) (by omega) hcs,model_distinct_eq hF (by omega)];simp only [ya,yj,yC,grd,if_true,yh];have e1:decide (24<(m.families.length:Int)) = !decide (m.families.length≤24):=by rw [← decide_not];exact decide_eq_decide.2 (by omega)
 rw [e1];cases hL:layoutP m.sorts m.tables with
 | false=>simp
 | true=>
  by_cases hd:(decide (m.families.length≤24)&&distP [] m.families)=true
  ·rw [hd];simp only [yb] at hd;rw [hd.1,hd.2,if_neg (by simp),cells_Ranges_eq hF (by omega) (by omega) hcs,hL];simp only [if_true,ya];obtain ⟨l1,l2,l3,l4⟩:=layoutP_tab hL;have hlen:=rangesP_len (sizes:=m.sorts) (s:=true) (l:=m.tables) λx hx=>(l4 x hx).2.2.2.2
   rw [model_constraints_eq hS (λt ht=>(l4 t ht).2.2.2.1) (by omega) (by omega),model_operations_eq hF hS,model_hidden_eq (by omega) hS];simp only [ya,yj,yh,yC,if_true];cases consP m (rangesP m.sorts true m.tables) with
   | false=>simp
   | true=>
    cases hO:opsP m with
    | false=>simp
    | true=>
     rw [model_actions_eq hF hS hO];simp
  ·have h2:(!true||!decide (m.families.length≤24)||!distP [] m.families)=true:=by
    simp only [yb,not_and,yD] at hd;cases h1:decide (m.families.length≤24) with
    | false=>rfl
    | true=>rw [hd h1];rfl
   rw [if_pos h2];simp only [yD] at hd;rw [hd];rfl
theorem ref13_Valid_eq {n m} (hn:4294967296≤n) (hS:SmallM m):ref13_Valid n m=some (validP m):=by
 have hs:=hS.sorts;have ht:=hS.tables;have hf:=hS.families;have hcs:∀ t∈m.tables,t.columns.length≤1000∧t.name.length≤4096:=λt h=>by have:=hS.tab t h;omega
 unfold ref13_Valid validP;rw [ref09_Valid_eq (by omega) (by omega) (by omega) hcs,ref13_distinct_eq (by omega) (by omega) (λw hw=>by have:=hS.fam w hw;omega)];simp only [ya,yj,yC,grd,if_true,yh];have e1:decide (24<(m.families.length:Int)) = !decide (m.families.length≤24):=by rw [← decide_not];exact decide_eq_decide.2 (by omega)
 rw [e1];cases hL:layoutP m.sorts m.tables with
 | false=>simp
 | true=>
  by_cases hd:(decide (m.families.length≤24)&&distP [] m.families)=true
  ·rw [hd];simp only [yb] at hd;rw [hd.1,hd.2,if_neg (by simp),ref13_constraints_eq hS hL (by omega),ref13_actions_eq (by omega) hS hL,ref13_hidden_eq hn hS];simp only [ya,yj,yh,yC,if_true,yB];simp only [Bool.and_assoc]
  ·have h2:(!true||!decide (m.families.length≤24)||!distP [] m.families)=true:=by
    simp only [yb,not_and,yD] at hd;cases h1:decide (m.families.length≤24) with
    | false=>rfl
    | true=>rw [hd h1];rfl
   rw [if_pos h2];simp only [yD] at hd;rw [hd];rfl
def lensP (m:Model):Bool:=(((((((decide (8<(m.sorts.length:Int)))||(decide (6<(m.tables.length:Int))))||(decide (20<(m.families.length:Int))))||(decide (60<(m.constraints.length:Int))))||(decide (8<(m.operations.length:Int))))||(decide (30<(m.actions.length:Int))))||(decide (12<(m.hides.length:Int))))
def tabF (t:Table):Bool:=decide (t.name.length≤40)&&decide (t.columns.length≤12)
def opF (o:Operation):Bool:=decide (o.name.length≤40)&&decide (o.sorts.length≤6)
def actF (a:Action):Bool:=((decide (a.arguments.length≤6)&&decide (a.effect.delta.length≤20))&&(decide (a.effect.hold.length≤10)&&decide (a.effect.updates.length≤40)))&&a.effect.hold.all λr=>decide (r.terms.length≤20)
def boundedP (m:Model):Bool:=!lensP m&&(m.tables.all tabF&&(m.families.all (λs=>decide (s.length≤40))&&(m.constraints.all (λc=>decide (c.row.terms.length≤20))&&(m.operations.all opF&&m.actions.all actF))))
theorem not_lt_le {a b:Nat}:decide ((a:Int)<(b:Int)) = !decide (b≤a):=by rw [← decide_not];exact decide_eq_decide.2 (by omega)
theorem ref13_Bounded_eq {n:Nat} {m:Model} (hn:1000000≤n):ref13_Bounded n m=some (boundedP m):=by
 unfold ref13_Bounded boundedP;have hl:(((((((decide (8<(m.sorts.length:Int)))||(decide (6<(m.tables.length:Int))))||(decide (20<(m.families.length:Int))))||(decide (60<(m.constraints.length:Int))))||(decide (8<(m.operations.length:Int))))||(decide (30<(m.actions.length:Int))))||(decide (12<(m.hides.length:Int))))=lensP m:=rfl;rw [hl];cases hlen:lensP m with
 | true=>simp [grd]
 | false=>
  simp only [lensP,um,yJ] at hlen;obtain ⟨⟨⟨⟨⟨⟨b1,b2⟩,b3⟩,b4⟩,b5⟩,b6⟩,b7⟩:=hlen;have hfew:ref09_Few n m.sorts m.tables=some (m.tables.all tabF):=by
   have:=loopF_lall (body:=ref09_Few.l1 n m.sorts m.tables) (l:=m.tables) (n:=n) (st:=λi=>(i:Int)) tabF (some false) (some true) (λrec i hi=>?_) (λrec=>?_) (by omega)
   ·simp only [Int.natCast_zero] at this;unfold ref09_Few;rw [this];cases m.tables.all tabF <;> rfl
   ·simp only [ref09_Few.l1,lt_len hi,if_true,idx_nat hi,ya,yj,yC,grd,yh,add64_1 (i:=i) (by omega)];unfold tabF;by_cases h1:m.tables[i].name.length≤40
    ·by_cases h2:m.tables[i].columns.length≤12
     ·rw [if_neg (by simp;omega),if_pos (by simp [h1,h2])]
     ·rw [if_pos (by simp;omega),if_neg (by simp [h2])]
    ·rw [if_pos (by simp;omega),if_neg (by simp [h1])]
   ·simp [ref09_Few.l1];omega
  rw [hfew];simp only [yj,yC,grd,if_true,yh,y8,uj,yB];cases m.tables.all tabF with
  | false=>simp
  | true=>
   rw [if_neg (by simp),yB];have h4:loopF (ref13_Bounded.l4 n m) n 0=some (m.actions.all actF):=by
    have:=loopF_lall (body:=ref13_Bounded.l4 n m) (l:=m.actions) (n:=n) (st:=λi=>(i:Int)) actF (some false) (some true) (λrec i hi=>?_) (λrec=>?_) (by omega)
    ·simp only [Int.natCast_zero] at this;rw [this];cases m.actions.all actF <;> rfl
    ·simp only [ref13_Bounded.l4,lt_len hi,if_true,idx_nat hi,ya];unfold actF;by_cases hx:((decide (m.actions[i].arguments.length≤6)&&decide (m.actions[i].effect.delta.length≤20))&&(decide (m.actions[i].effect.hold.length≤10)&&decide (m.actions[i].effect.updates.length≤40)))=true
     ·rw [hx,yB];simp only [yb,yd] at hx;rw [if_neg (by simp;omega)];have:=loopF_lall (body:=ref13_Bounded.l5 n i rec m.actions[i]) (l:=m.actions[i].effect.hold) (n:=n) (st:=λk=>(k:Int)) (λr=>decide (r.terms.length≤20)) (some false) (rec ((i+1:Nat):Int)) (λrec' k hk=>?_) (λrec'=>?_) (by omega)
      ·simpa using this
      ·simp only [ref13_Bounded.l5,lt_len hk,if_true,idx_nat hk,ya,add64_1 (i:=k) (by omega)];by_cases h:m.actions[i].effect.hold[k].terms.length≤20
       ·rw [if_neg (by simp;omega),if_pos (by simp [h])]
       ·rw [if_pos (by simp;omega),if_neg (by simp [h])]
      ·simp only [ref13_Bounded.l5,ge_len,yf,if_false,add64_1 (i:=i) (by omega)]
     ·rw [if_pos (by
       simp only [yb,yd] at hx;simp only [yA,yd];omega)]
      simp only [yD] at hx;rw [hx,yT,if_neg (by simp)]
    ·simp [ref13_Bounded.l4]
   have h3:loopF (ref13_Bounded.l3 n m) n 0=some (m.operations.all opF&&m.actions.all actF):=by
    have:=loopF_lall (body:=ref13_Bounded.l3 n m) (l:=m.operations) (n:=n) (st:=λi=>(i:Int)) opF (some false) (some (m.actions.all actF)) (λrec i hi=>?_) (λrec=>?_) (by omega)
    ·simp only [Int.natCast_zero] at this;rw [this];cases m.operations.all opF <;> rfl
    ·simp only [ref13_Bounded.l3,lt_len hi,if_true,idx_nat hi,ya,yj,yC,grd,yh,add64_1 (i:=i) (by omega)];unfold opF;by_cases h1:m.operations[i].name.length≤40
     ·by_cases h2:m.operations[i].sorts.length≤6
      ·rw [if_neg (by simp;omega),if_pos (by simp [h1,h2])]
      ·rw [if_pos (by simp;omega),if_neg (by simp [h2])]
     ·rw [if_pos (by simp;omega),if_neg (by simp [h1])]
    ·simp only [ref13_Bounded.l3,ge_len,yf,if_false,h4]
   have h2:loopF (ref13_Bounded.l2 n m) n 0=some (m.constraints.all (λc=>decide (c.row.terms.length≤20))&&(m.operations.all opF&&m.actions.all actF)):=by
    have:=loopF_lall (body:=ref13_Bounded.l2 n m) (l:=m.constraints) (n:=n) (st:=λi=>(i:Int)) (λc=>decide (c.row.terms.length≤20)) (some false) (some (m.operations.all opF&&m.actions.all actF)) (λrec i hi=>?_) (λrec=>?_) (by omega)
    ·simp only [Int.natCast_zero] at this;rw [this];cases m.constraints.all (λc=>decide (c.row.terms.length≤20)) <;> rfl
    ·simp only [ref13_Bounded.l2,lt_len hi,if_true,idx_nat hi,ya,add64_1 (i:=i) (by omega)];by_cases h:m.constraints[i].row.terms.length≤20
     ·rw [if_neg (by simp;omega),if_pos (by simp [h])]
     ·rw [if_pos (by simp;omega),if_neg (by simp [h])]
    ·simp only [ref13_Bounded.l2,ge_len,yf,if_false,h3]
   have:=loopF_lall (body:=ref13_Bounded.l1 n m) (l:=m.families) (n:=n) (st:=λi=>(i:Int)) (λs=>decide (s.length≤40)) (some false) (some (m.constraints.all (λc=>decide (c.row.terms.length≤20))&&(m.operations.all opF&&m.actions.all actF))) (λrec i hi=>?_) (λrec=>?_) (by omega)
   ·simp only [Int.natCast_zero] at this;rw [this];cases m.families.all (λs=>decide (s.length≤40)) <;> rfl
   ·simp only [ref13_Bounded.l1,lt_len hi,if_true,idx_nat hi,ya,add64_1 (i:=i) (by omega)];by_cases h:m.families[i].length≤40
    ·rw [if_neg (by simp;omega),if_pos (by simp [h])]
    ·rw [if_pos (by simp;omega),if_neg (by simp [h])]
   ·simp only [ref13_Bounded.l1,ge_len,yf,if_false,h2]
theorem boundedP_small {m:Model} (h:boundedP m=true):SmallM m:=by
 simp only [boundedP,lensP,tabF,opF,actF,yb,yG,um,yJ,yp,yd] at h;obtain ⟨⟨⟨⟨⟨⟨⟨b1,b2⟩,b3⟩,b4⟩,b5⟩,b6⟩,b7⟩,c1,c2,c3,c4,c5⟩:=h;exact ⟨by omega,by omega,c1,by omega,c2,by omega,c3,by omega,c4,by omega,λa ha=>by
  obtain ⟨⟨⟨p1,p2⟩,p3,p4⟩,p5⟩:=c5 a ha;exact ⟨p1,p2,p3,p4,p5⟩,by omega⟩
def prodP:Int→List Range→Bool
 | _,[]=>true
 | p,r::l=>!decide (4096<mul64 p (add64 (sub64 r.hi r.lo) 1))&&prodP (mul64 p (add64 (sub64 r.hi r.lo) 1)) l
def strictR (m:Model):List Range:=if layoutP m.sorts m.tables=true then rangesP m.sorts true m.tables else []
def fewP (m:Model):Bool:=((boundedP m&&decide (m.actions.length≤12))&&decide (m.constraints.length≤40))&&(m.actions.all (λa=>decide (a.effect.hold.length≤4))&&(decide ((strictR m).length≤12)&&prodP 1 (strictR m)))
theorem ref13_strict_eq {n:Nat} {m:Model} (hn:1000000≤n) (hS:SmallM m):ref13_strict n m=some (strictR m):=by
 have hs:=hS.sorts;have ht:=hS.tables;unfold ref13_strict;rw [ref09_Ranges_eq hn (by omega) (by omega) (λt h=>by have:=hS.tab t h;omega)];rfl
theorem strictR_len {m:Model} (hS:SmallM m):(strictR m).length≤2592:=by
 have ht:=hS.tables;unfold strictR;split
 ·rename_i hL;obtain ⟨l1,l2,l3,l4⟩:=layoutP_tab hL;have:=rangesP_len (sizes:=m.sorts) (s:=true) (l:=m.tables) λx hx=>(l4 x hx).2.2.2.2
  omega
 ·simp
theorem ref13_Few_eq {n:Nat} {m:Model} (hn:1000000≤n):ref13_Few n m=some (fewP m):=by
 unfold ref13_Few fewP;rw [ref13_Bounded_eq hn,ya];have e1:decide (12<(m.actions.length:Int)) = !decide (m.actions.length≤12):=not_lt_le (a:=12);have e2:decide (40<(m.constraints.length:Int)) = !decide (m.constraints.length≤40):=not_lt_le (a:=40);rw [e1,e2,← Bool.not_and,← Bool.not_and];cases hb:(boundedP m&&decide (m.actions.length≤12)&&decide (m.constraints.length≤40)) with
 | false=>simp
 | true=>
  simp only [yb,yd] at hb;have hS:=boundedP_small hb.1.1;have hsl:=strictR_len hS;have T:(if (decide (12<((strictR m).length:Int)))=true then some false else loopF (ref13_Few.l2 n (strictR m)) n (1,0))=some (decide ((strictR m).length≤12)&&prodP 1 (strictR m)):=by
   by_cases h:(strictR m).length≤12
   ·rw [if_neg (by simp;omega),decide_eq_true h,yB];refine loopF_I (body:=ref13_Few.l2 n (strictR m)) (len:=(strictR m).length) (st:=λ(p:Int) i=>(p,(i:Int))) (g:=λi p=>some (prodP p ((strictR m).drop i))) (λ_ _=>True) (λrec i p hi _ hr=>?_) (λrec p _=>?_) n 0 1 (yr _) (by omega) trivial
    ·simp only [ref13_Few.l2,lt_len hi,if_true,idx_nat hi,ya,add64_1 (i:=i) (by omega),hr _ trivial];rw [drop_cons hi,prodP];cases decide (4096<mul64 p (add64 (sub64 (strictR m)[i].hi (strictR m)[i].lo) 1)) <;> simp
    ·simp [ref13_Few.l2,prodP]
   ·rw [if_pos (by simp;omega),decide_eq_false h,yT]
  have:=loopF_lall (body:=ref13_Few.l1 n m) (l:=m.actions) (n:=n) (st:=λi=>(i:Int)) (λa=>decide (a.effect.hold.length≤4)) (some false) (some (decide ((strictR m).length≤12)&&prodP 1 (strictR m))) (λrec i hi=>?_) (λrec=>?_) (by omega)
  ·simp only [Int.natCast_zero] at this;rw [if_neg (by simp),this];cases m.actions.all (λa=>decide (a.effect.hold.length≤4)) <;> simp
  ·simp only [ref13_Few.l1,lt_len hi,if_true,idx_nat hi,ya,add64_1 (i:=i) (by omega)];by_cases h:m.actions[i].effect.hold.length≤4
   ·rw [if_neg (by simp;omega),if_pos (by simp [h])]
   ·rw [if_pos (by simp;omega),if_neg (by simp [h])]
  ·simp only [ref13_Few.l1,ge_len,yf,if_false,ref13_strict_eq hn hS,ya,T]
theorem fewP_small {m:Model} (h:fewP m=true):SmallM m:=by
 simp only [fewP,yb] at h;exact boundedP_small h.1.1.1
structure ValidM (m:Model):Prop where
 lay:layoutP m.sorts m.tables=true
 fams:m.families.length≤24∧distP [] m.families=true
 cons:consP m (rangesP m.sorts true m.tables)=true
 ops:opsP m=true
 acts:actsP m (rangesP m.sorts true m.tables).length=true
 hid:hidesP m=true
theorem validP_iff {m}:validP m=true↔ValidM m:=by
 simp only [validP,yb,yd];exact ⟨λ⟨⟨a,b,c⟩,d,e,f,g⟩=>⟨a,⟨b,c⟩,d,e,f,g⟩,λ⟨a,⟨b,c⟩,d,e,f,g⟩=>⟨⟨a,b,c⟩,d,e,f,g⟩⟩
def stepT (s:Nat) (L:List (List Int)):List (List Int):=L.flatMap λl=>(List.range s).map λe:Nat=>l++[(e:Int)]
def tuplesF (sizes:List Int):List Int→List (List Int)→List (List Int)
 | [],L=>L
 | c::cols,L=>tuplesF sizes cols (stepT (sizeAt sizes c).toNat L)
def tuplesP (sizes cols:List Int):List (List Int):=tuplesF sizes cols [[]]
theorem tuplesF_append (sizes):∀ (a b:List Int) (L:List (List Int)),tuplesF sizes (a++b) L=tuplesF sizes b (tuplesF sizes a L)
 | [],_,_=>rfl
 | _::a,b,L=>by simp only [ub,tuplesF];exact tuplesF_append sizes a b _
theorem stepT_append (s A B):stepT s (A++B)=stepT s A++stepT s B:=by simp [stepT]
theorem stepT_len {s L}:(stepT s L).length=L.length*s:=by
 induction L with
 | nil=>simp [stepT]
 | cons l L ih=>
  have:stepT s (l::L)=stepT s [l]++stepT s L:=stepT_append s [l] L;rw [this,yR,ih];simp [stepT,uB,Nat.add_comm]
theorem stepT_mem {s L k} (h:∀ l∈L,l.length=k):∀ l∈stepT s L,l.length=k+1:=λl hl=>by
 simp only [stepT,List.mem_flatMap,yV] at hl;obtain ⟨x,hx,e,-,rfl⟩:=hl;simp [h x hx]
theorem stepT_snoc {s:Nat} {L:List (List Int)} {i:Nat} (hi:i<L.length):stepT s (L.take (i+1))=stepT s (L.take i)++(List.range s).map λe:Nat=>L[i]++[(e:Int)]:=by
 rw [yw hi,stepT_append];congr 1;simp [stepT]
def placeP (i:Nat) (L:List (List Int)):List Place:=L.map λl=>⟨(i:Int),l⟩
def placesP (sizes:List Int) (s:Bool):List Table→Nat→List Place
 | [],_=>[]
 | t::l,i=>(if decide (t.kind≤1)=s then placeP i (tuplesP sizes t.columns) else [])++placesP sizes s l (i+1)
theorem placesP_append (sizes s):∀ (a b:List Table) (i:Nat),placesP sizes s (a++b) i=placesP sizes s a i++placesP sizes s b (i+a.length)
 | [],b,i=>by simp [placesP]
 | t::a,b,i=>by
  simp only [ub,placesP,placesP_append sizes s a b,yP,yX];rw [show i+1+a.length=i+(a.length+1) by omega]
theorem placesP_snoc {sizes:List Int} {s:Bool} {l:List Table} {i:Nat} (hi:i<l.length):placesP sizes s (l.take (i+1)) 0=placesP sizes s (l.take i) 0++(if decide (l[i].kind≤1)=s then placeP i (tuplesP sizes l[i].columns) else []):=by
 rw [yw hi,placesP_append];congr 1;simp only [placesP,uv,yO,ul];rw [show min i l.length=i by omega]
theorem open_l4 {n:Nat} {x40:Int} {rec:((List (List Int))×Int)→Option ((Option Layout)×Bool)} {l:List Int} {s:Nat} {b:List (List Int)} {k:Nat} (hk:add64 x40 1=(k:Int)) (hs:s≤6) (hl:l.length≤100) (hb:b.length≤100000) (hn:1000000≤n) :
  loopF (symmetry_open.l4 n x40 rec l (s:Int)) n (b,0)=rec (b++(List.range s).map λe:Nat=>l++[(e:Int)],(k:Int)):=by
 have:=loopF_g (body:=symmetry_open.l4 n x40 rec l (s:Int)) (len:=s) (st:=λi=>(b++(List.range i).map λe:Nat=>l++[(e:Int)],(i:Int))) (g:=λ_=>rec (b++(List.range s).map λe:Nat=>l++[(e:Int)],(k:Int))) (λrec' i hi hr=>?_) (λrec'=>?_) n 0 (yr _) (by omega)
 ·simpa using this
 ·rw [List.range_succ,uf,← yX] at hr;simp only [symmetry_open.l4,lt_nat hi,if_true,add64_1 (i:=i) (by omega)];rw [app_some (by simp;omega),ya,app_some (by simp;omega),ya,app_some (by simp;omega),ya];exact hr
 ·simp only [symmetry_open.l4,ge_nat (yn s),yf,if_false,hk]
theorem open_l3 {n:Nat} {m} {L:List (List Int)} {x34 x36:Int} {rec:((List (List Int))×Int)→Option ((Option Layout)×Bool)} {s k:Nat} (hk:add64 x34 1=(k:Int)) (hx:idx m.sorts x36=some (s:Int)) (hs:s≤6) (hl:∀ l∈L,l.length≤100) (hL:L.length≤1000) (hn:1000000≤n) :
  loopF (symmetry_open.l3 n m L x34 rec x36) n ([],0)=rec (stepT s L,(k:Int)):=by
 have:=loopF_g (body:=symmetry_open.l3 n m L x34 rec x36) (len:=L.length) (st:=λi=>(stepT s (L.take i),(i:Int))) (g:=λ_=>rec (stepT s L,(k:Int))) (λrec' i hi hr=>?_) (λrec'=>?_) n 0 (yr _) (by omega)
 ·simpa [stepT] using this
 ·rw [stepT_snoc hi] at hr;simp only [symmetry_open.l3,lt_len hi,if_true,idx_nat hi,ya,hx];have hlen:(stepT s (L.take i)).length≤100000:=by
   rw [stepT_len,yO];have:min i L.length*s≤1000*6:=uO (by omega) hs;omega
  rw [open_l4 (k:=i+1) (add64_1 (by omega)) hs (hl _ (yk hi)) hlen hn];exact hr
 ·simp only [symmetry_open.l3,ge_len,yf,if_false,hk,List.take_length]
theorem open_l5 {n:Nat} {i:Nat} {rec:((List Place)×(List Place)×Int)→Option ((Option Layout)×Bool)} {t:Table} {L:List (List Int)} {b1 b2:List Place} (hi:i<1000000) (hL:L.length≤1000) (h1:b1.length≤100000) (h2:b2.length≤100000) (hn:1000000≤n) :
  loopF (symmetry_open.l5 n (i:Int) rec t L) n (b1,b2,0)=rec (b1++(if decide (t.kind≤1)=true then placeP i L else []),b2++(if decide (t.kind≤1)=false then placeP i L else []),((i+1:Nat):Int)):=by
 cases hk:decide (t.kind≤1) with
 | true=>
  simp only [if_true,Bool.true_eq_false,if_false,uv];have:=loopF_g (body:=symmetry_open.l5 n (i:Int) rec t L) (len:=L.length) (st:=λk=>(b1++placeP i (L.take k),b2,(k:Int))) (g:=λ_=>rec (b1++placeP i L,b2,((i+1:Nat):Int))) (λrec' k hk' hr=>?_) (λrec'=>?_) n 0 (yr _) (by omega)
  ·simpa [placeP] using this
  ·simp only [placeP] at hr ⊢;rw [← map_take_snoc hk',← yX] at hr;simp only [symmetry_open.l5,jn,lt_len hk',if_true,idx_nat hk',ya,hk,add64_1 (i:=k) (by omega)];rw [app_some (by simp;omega),ya];exact hr
  ·simp only [symmetry_open.l5,ge_len,yf,if_false,List.take_length,add64_1 (i:=i) (by omega)]
 | false=>
  simp only [yf,if_true,if_false,uv];have:=loopF_g (body:=symmetry_open.l5 n (i:Int) rec t L) (len:=L.length) (st:=λk=>(b1,b2++placeP i (L.take k),(k:Int))) (g:=λ_=>rec (b1,b2++placeP i L,((i+1:Nat):Int))) (λrec' k hk' hr=>?_) (λrec'=>?_) n 0 (yr _) (by omega)
  ·simpa [placeP] using this
  ·simp only [placeP] at hr ⊢;rw [← map_take_snoc hk',← yX] at hr;simp only [symmetry_open.l5,jn,lt_len hk',if_true,idx_nat hk',ya,hk,yf,if_false,add64_1 (i:=k) (by omega)];rw [app_some (by simp;omega),ya];exact hr
  ·simp only [symmetry_open.l5,ge_len,yf,if_false,List.take_length,add64_1 (i:=i) (by omega)]
theorem tuplesF_bound {sizes} (hs:sizes.all sizeOK=true):∀ (cols:List Int) (L:List (List Int)) (A k:Nat),cols.all (colOK sizes)=true→L.length≤A→(∀ l∈L,l.length=k)→(tuplesF sizes cols L).length≤A*6 ^ cols.length∧∀ l∈tuplesF sizes cols L,l.length=k+cols.length
 | [],L,A,k,_,h1,h2=>by simpa [tuplesF] using ⟨h1,h2⟩
 | c::cols,L,A,k,hc,h1,h2=>by
  simp only [uq,yb] at hc;have hz:=sizeAt_ne hs hc.1;have hlen:(stepT (sizeAt sizes c).toNat L).length≤A*6:=by
   rw [stepT_len];exact uO h1 (by omega)
  obtain ⟨p1,p2⟩:=tuplesF_bound hs cols (stepT (sizeAt sizes c).toNat L) (A*6) (k+1) hc.2 hlen (stepT_mem h2);simp only [tuplesF,yP];refine ⟨?_,λl hl=>?_⟩
  ·rw [Nat.pow_succ,Nat.mul_comm (6 ^ cols.length) 6,← Nat.mul_assoc];exact p1
  ·rw [p2 l hl];omega
theorem tuplesP_bound {sizes cols} (hs:sizes.all sizeOK=true) (hc:cols.all (colOK sizes)=true) (h3:cols.length≤3):(tuplesP sizes cols).length≤216∧∀ l∈tuplesP sizes cols,l.length=cols.length:=by
 obtain ⟨p1,p2⟩:=tuplesF_bound hs cols [[]] 1 0 hc (by simp) (by simp);refine ⟨y9 p1 ?_,λl hl=>by simpa using p2 l hl⟩;have:6 ^ cols.length≤6 ^ 3:=uL (by decide) h3;omega
theorem open_l2 {n:Nat} {m} {b1 b2:List Place} {i:Nat} {rec:((List Place)×(List Place)×Int)→Option ((Option Layout)×Bool)} {t:Table} (hs:m.sorts.all sizeOK=true) (hc:t.columns.all (colOK m.sorts)=true) (h3:t.columns.length≤3) (hi:i<1000000) (h1:b1.length≤100000) (h2:b2.length≤100000) (hn:1000000≤n) :
  loopF (symmetry_open.l2 n m b1 b2 (i:Int) rec t) n ([[]],0)=rec (b1++(if decide (t.kind≤1)=true then placeP i (tuplesP m.sorts t.columns) else []),b2++(if decide (t.kind≤1)=false then placeP i (tuplesP m.sorts t.columns) else []),((i+1:Nat):Int)):=by
 have hpre:∀ k,(t.columns.take k).all (colOK m.sorts)=true:=λk=>yp.2 λc hm=>yp.1 hc c (List.mem_of_mem_take hm)
 have:=loopF_g (body:=symmetry_open.l2 n m b1 b2 (i:Int) rec t) (len:=t.columns.length) (st:=λk=>(tuplesP m.sorts (t.columns.take k),(k:Int))) (g:=λ_=>rec (b1++(if decide (t.kind≤1)=true then placeP i (tuplesP m.sorts t.columns) else []),b2++(if decide (t.kind≤1)=false then placeP i (tuplesP m.sorts t.columns) else []),((i+1:Nat):Int))) (λrec' k hk hr=>?_) (λrec'=>?_) n 0 (yr _) (by omega)
 ·simpa [tuplesP,tuplesF] using this
 ·have hcol:=yp.1 hc _ (yk hk);have hz:=sizeAt_ne hs hcol;obtain ⟨p1,p2⟩:=tuplesP_bound hs (hpre k) (by simp;omega);have hsz:idx m.sorts t.columns[k]=some (((sizeAt m.sorts t.columns[k]).toNat:Nat):Int):=by
   rw [idx_col hcol];unfold sizeAt at hz ⊢;congr 1;omega
  simp only [symmetry_open.l2,lt_len hk,if_true,idx_nat hk,ya];rw [open_l3 (k:=k+1) (add64_1 (by omega)) hsz (by omega) (λl hl=>by rw [p2 l hl];simp;omega) (by omega) hn,← hr];congr 2;unfold tuplesP;rw [yw hk,tuplesF_append];rfl
 ·obtain ⟨p1,-⟩:=tuplesP_bound hs hc h3;simp only [symmetry_open.l2,ge_len,yf,if_false,List.take_length];exact open_l5 hi (by omega) h1 h2 hn
theorem placesP_len {sizes s}:∀ {l:List Table} {i:Nat},(∀ t∈l,(tuplesP sizes t.columns).length≤216)→(placesP sizes s l i).length≤l.length*216
 | [],_,_=>by simp [placesP]
 | t::l,i,h=>by
  have ih:=placesP_len (s:=s) (l:=l) (i:=i+1) λx hx=>h x (by simp [hx])
  have ht:=h t (by simp);simp only [placesP,yR,yP];split
  ·simp only [placeP,yL];omega
  ·simp only [uC];omega
def layoutM (m:Model):Layout:=⟨m,placesP m.sorts true m.tables 0,placesP m.sorts false m.tables 0⟩
theorem symmetry_open_eq {n:Nat} {m} (hF:Fuel n) (hS:SmallM m):symmetry_open n m=some (if validP m=true then (some (layoutM m),true) else (none,false)):=by
 have hn:=hF.big;have htl:=hS.tables;unfold symmetry_open;rw [model_Valid_eq hF hS,ya];cases hv:validP m with
 | false=>simp
 | true=>
  have hV:=validP_iff.1 hv;obtain ⟨l1,l2,l3,l4⟩:=layoutP_tab hV.lay;have hb:∀ t∈m.tables,(tuplesP m.sorts t.columns).length≤216:=λt ht=>(tuplesP_bound l3 (l4 t ht).2.2.2.1 (l4 t ht).2.2.1).1
  rw [if_neg (by simp),if_pos rfl];have:=loopF_g (body:=symmetry_open.l1 n m) (len:=m.tables.length) (st:=λi=>(placesP m.sorts true (m.tables.take i) 0,placesP m.sorts false (m.tables.take i) 0,(i:Int))) (g:=λ_=>some (some (layoutM m),true)) (λrec i hi hr=>?_) (λrec=>?_) n 0 (yr _) (by omega)
  ·simpa [placesP] using this
  ·have hmem:=yk hi;obtain ⟨-,-,c1,c2,-⟩:=l4 _ hmem;have hA:=placesP_len (s:=true) (l:=m.tables.take i) (i:=0) λt ht=>hb t (List.mem_of_mem_take ht)
   have hB:=placesP_len (s:=false) (l:=m.tables.take i) (i:=0) λt ht=>hb t (List.mem_of_mem_take ht)
   simp only [yO] at hA hB;rw [placesP_snoc hi,placesP_snoc hi] at hr;simp only [symmetry_open.l1,lt_len hi,if_true,idx_nat hi,ya];rw [open_l2 l3 c2 c1 (by omega) (by omega) (by omega) (by omega)];exact hr
  ·simp [symmetry_open.l1,layoutM]
def questP (m:Model) (q:Question):Bool:=
 (((decide (0≤q.e)&&decide (q.e<(m.actions.length:Int)))&&(decide (0≤q.f)&&decide (q.f<(m.actions.length:Int))))&&decide (0≤q.target.index)) &&
 (if q.target.hold=true then decide (q.target.index<(((idx m.actions q.e).getD default).effect.hold.length:Int)) else decide (q.e≤q.f)&&decide (q.target.index<(m.constraints.length:Int)))
theorem quest_body {m q}:(if (((((decide (q.e<0))||(decide (q.f<0)))||(decide ((m.actions.length:Int)≤q.e)))||(decide ((m.actions.length:Int)≤q.f)))||(decide (q.target.index<0)))=true then some false
 else if q.target.hold=true then (idx m.actions q.e).bind λx=>some (decide (q.target.index<(x.effect.hold.length:Int))) else some ((decide (q.e≤q.f))&&(decide (q.target.index<(m.constraints.length:Int)))))=some (questP m q):=by
 unfold questP;by_cases h:((0≤q.e∧q.e<(m.actions.length:Int))∧(0≤q.f∧q.f<(m.actions.length:Int)))∧0≤q.target.index
 ·rw [if_neg (by simp;omega)];obtain ⟨a,ha⟩:=idx_some h.1.1.1 h.1.1.2;rw [ha];simp only [h,decide_true,uP,yB,ya,yh];split <;> rfl
 ·rw [if_pos (by simp;omega)];have:(((decide (0≤q.e)&&decide (q.e<(m.actions.length:Int)))&&(decide (0≤q.f)&&decide (q.f<(m.actions.length:Int))))&&decide (0≤q.target.index))=false:=by
   rw [← yD];simp only [yb,yd];exact h
  rw [this,yT]
theorem ref16_Valid_eq {n m q} (hn:4294967296≤n) (hS:SmallM m):ref16_Valid n m q=some (validP m&&questP m q):=by
 unfold ref16_Valid;rw [ref13_Valid_eq hn hS,ya];cases validP m with
 | false=>simp
 | true=>
  simp only [yS,y8,yB];exact quest_body
theorem awake_spec:law16_awake 18446744073709551616=some true:=by decide +kernel
theorem keywords_spec:(lexer_keywords 18446744073709551616).map (λm=>m.es.map (λe=>e.2))=some (kwL.map λk=>(k,true)):=by decide +kernel
theorem fuel_N:Fuel 18446744073709551616:=by
 refine ⟨by decide,?_⟩;have h:=keywords_spec;cases hk:lexer_keywords 18446744073709551616 with
 | none=>rw [hk] at h;cases h
 | some m=>
  rw [hk] at h;simp only [yI,yi] at h;refine ⟨m,rfl,λe he=>?_,λk=>?_⟩
  ·have:e.2∈m.es.map (λe=>e.2):=List.mem_map_of_mem he;rw [h] at this;simp only [yV] at this;obtain ⟨x,-,hx⟩:=this;rw [← hx]
  ·have:m.es.map (λe=>e.2.1)=kwL:=by
    have e1:m.es.map (λe=>e.2.1)=(m.es.map (λe=>e.2)).map (·.1):=by rw [uy];rfl
    rw [e1,h,uy];exact List.map_id kwL
   rw [this]
theorem deltaP_spec {K}:∀ (l:List Change) (last:Int),deltaP K last l=true→(∀ d∈l,last<d.cell∧d.cell<(K:Int)∧d.add≠0∧-1000000000≤d.add∧d.add≤1000000000)∧(l.map (·.cell)).Nodup
 | [],_,_=>by simp
 | d::l,last,h=>by
  simp only [deltaP,aroundP,yb,yd,bne_iff_ne] at h;obtain ⟨⟨⟨⟨h1,h2⟩,h3⟩,h4,h5⟩,h6⟩:=h;obtain ⟨p1,p2⟩:=deltaP_spec l d.cell h6;refine ⟨λx hx=>?_,?_⟩
  ·simp only [yE] at hx;rcases hx with rfl | hx
   ·exact ⟨h1,h2,h3,h4,h5⟩
   ·obtain ⟨q1,q2⟩:=p1 x hx;exact ⟨by omega,q2⟩
  ·simp only [yN,List.nodup_cons,yV,not_exists,not_and];exact ⟨λx hx e=>by have:=(p1 x hx).1;omega,p2⟩
theorem valid_act {m} (hV:ValidM m) {a} (ha:a∈m.actions):effP m (rangesP m.sorts true m.tables).length a.effect=true∧(0≤a.operation∧a.operation<(m.operations.length:Int)):=by
 have h:=hV.acts;simp only [actsP,yb] at h;obtain ⟨i,hi,rfl⟩:=List.mem_iff_getElem.1 ha;have:=allR_0.1 h.2 i hi;simp only [idx_nat hi,yh,actP,yb,yd] at this;exact ⟨this.2,this.1.1.1.1⟩
theorem valid_con {m} (hV:ValidM m) {c} (hc:c∈m.constraints):plainP (rangesP m.sorts true m.tables).length c=true∨acyP m c=true:=by
 have h:=hV.cons;simp only [consP,yb] at h;obtain ⟨i,hi,rfl⟩:=List.mem_iff_getElem.1 hc;have:=allR_0.1 h.2 i hi;simp only [idx_nat hi,yh,conP,yb,yA] at this;exact this.1.2
theorem acy_size {m} (hV:ValidM m) {c} (h:acyP m c=true):c.kind=1∧1≤c.size∧c.size≤6:=by
 obtain ⟨l1,l2,l3,l4⟩:=layoutP_tab hV.lay;simp only [acyP,graphP,yb,un,beq_iff_eq] at h;obtain ⟨h1,-,t,ht,hg⟩:=h;simp only [graphT,yb,beq_iff_eq] at hg;obtain ⟨⟨g1,g2⟩,⟨g3,g4⟩,g5⟩:=hg;obtain ⟨⟨x,hx⟩,-,z,hz⟩:=graph_cols (l4 t ht).2.2.2.1 g2;refine ⟨h1,?_⟩;rw [hz] at g5;simp only [yh] at g5;have:=yp.1 l3 z (idx_mem hz);simp only [sizeOK,yb,yd] at this;omega
theorem questP_spec {m q} (h:questP m q=true):(0≤q.e∧q.e<(m.actions.length:Int))∧(0≤q.f∧q.f<(m.actions.length:Int))∧0≤q.target.index∧(q.target.hold=true→∀ a,idx m.actions q.e=some a→q.target.index<(a.effect.hold.length:Int))∧(q.target.hold=false→q.e≤q.f∧q.target.index<(m.constraints.length:Int)):=by
 simp only [questP,yb,yd] at h;obtain ⟨⟨⟨h1,h2⟩,h3⟩,h4⟩:=h;refine ⟨h1,h2,h3,λhh a ha=>?_,λhh=>?_⟩
 ·rw [if_pos hh,ha] at h4;simpa using h4
 ·rw [if_neg (by simp [hh])] at h4;simpa using h4
def inBox:List Range→List Int→Bool
 | r::rs,x::xs=>(decide (r.lo≤x)&&decide (x≤r.hi))&&inBox rs xs
 | [],[]=>true
 | _,_=>false
def termOK (k:Nat) (t:Term):Prop:=0≤t.cell∧t.cell<(k:Int)∧-1000≤t.factor∧t.factor≤1000
structure GraphIn (c:Constraint) (s:List Int) (size:Nat):Prop where
 sz:c.size=(size:Int)
 pos:1≤size
 six:size≤6
 first:0≤c.first
 fits:c.first+(size*size:Nat)≤(s.length:Int)
 len:s.length≤1000
inductive ConIn (c:Constraint) (k:Nat):Prop
 | row:c.kind=0→(∀ t∈c.row.terms,termOK k t)→c.row.terms.length≤1000→(-4000000000≤c.row.bound∧c.row.bound≤4000000000)→ConIn c k
 | graph (size:Nat):c.kind=1→c.size=(size:Int)→1≤size→size≤6→0≤c.first→c.first+(size*size:Nat)≤(k:Int)→ConIn c k
theorem ixP_spec {α:Type} (p):∀ (l:List α) (i:Nat),(ixP p l i = -1∧∀ x∈l,p x=false)∨∃ k,∃ h:k<l.length,ixP p l i=((i+k:Nat):Int)∧p l[k]=true∧∀ x∈l.take k,p x=false
 | [],i=>.inl ⟨rfl,λx hx=>by simp at hx⟩
 | x::l,i=>by
  rw [ixP];by_cases h:p x=true
  ·rw [if_pos h];exact .inr ⟨0,by simp,rfl,h,λy hy=>by simp at hy⟩
  ·rw [if_neg h];rcases ixP_spec p l (i+1) with ⟨h1,h2⟩ | ⟨k,hk,h1,h2,h3⟩
   ·refine .inl ⟨h1,λy hy=>?_⟩;simp only [yE] at hy;rcases hy with rfl | hy
    ·simpa using h
    ·exact h2 y hy
   ·refine .inr ⟨k+1,by simpa using hk,by rw [h1];omega,by simpa using h2,λy hy=>?_⟩;simp only [List.take_succ_cons,yE] at hy;rcases hy with rfl | hy
    ·simpa using h
    ·exact h3 y hy
def boxM (m:Model):List Range:=rangesP m.sorts true m.tables
theorem lay_fit {sizes} (hs:sizes.all sizeOK=true):∀ {l:List Table} {seen:List (List UInt8)} {a b:Int},layP sizes seen a b l=true→0≤a→a+216*(l.length:Int)≤1000000→∀ t∈l,strictP t.kind=true→a≤t.first∧t.first+widthP sizes t.columns 1≤a+((rangesP sizes true l).length:Int)
 | [],_,_,_,_,_,_,t,ht,_=>by simp at ht
 | x::l,seen,a,b,h,ha,hb,t,ht,hst=>by
  have htab:=layP_tab h x (by simp);simp only [tabP,yb,yd] at htab;have hw:=widthP_bound hs htab.1.2.2 htab.1.2.1;simp only [layP,yb] at h;have h2:=h.2;simp only [yP] at hb;have hcast:((l.length+1:Nat):Int)=(l.length:Int)+1:=by omega
  rw [hcast] at hb;by_cases hx:strictP x.kind=true
  ·rw [if_pos hx] at h2;simp only [yb,beq_iff_eq] at h2;have hadd:add64 a (widthP sizes x.columns 1)=a+widthP sizes x.columns 1:=by unfold add64;exact w64_id (by omega) (by omega)
   rw [hadd] at h2;have hlen:((rangesP sizes true (x::l)).length:Int)=widthP sizes x.columns 1+((rangesP sizes true l).length:Int):=by
    rw [rangesP,hx,if_pos (by rfl),yR,y0];omega
   rw [hlen];rcases yE.1 ht with rfl | ht
   ·omega
   ·have:=lay_fit hs h2.2 (by omega) (by omega) t ht hst;omega
  ·rw [if_neg hx] at h2;simp only [yb,beq_iff_eq] at h2;have hx':strictP x.kind=false:=by simpa using hx
   have hlen:(rangesP sizes true (x::l))=rangesP sizes true l:=by
    rw [rangesP,hx',if_neg (by decide)]
   rw [hlen];rcases yE.1 ht with rfl | ht
   ·rw [hst] at hx';cases hx'
   ·exact lay_fit hs h2.2 ha (by omega) t ht hst
theorem rowP_terms {K}:∀ {l:List Term} {last:Int},rowP K last l=true→-1≤last→∀ t∈l,termOK K t
 | [],_,_,_,t,ht=>by simp at ht
 | x::l,last,h,hl,t,ht=>by
  simp only [rowP,aroundP,yb,yd] at h;rcases yE.1 ht with rfl | ht
  ·exact ⟨by omega,h.1.1.1.2,by omega,by omega⟩
  ·exact rowP_terms h.2 (by omega) t ht
theorem con_in {m} (hS:SmallM m) (hV:ValidM m) {c} (hc:c∈m.constraints):ConIn c (boxM m).length:=by
 have hl:=hS.con c hc;rcases valid_con hV hc with h | h
 ·simp only [plainP,yb,beq_iff_eq] at h;have h2:=h.2;simp only [rowOK,aroundP,yb,yd] at h2;exact .row h.1.1.1 (rowP_terms h2.1 (by decide)) (by omega) (by omega)
 ·obtain ⟨l1,l2,l3,l4⟩:=layoutP_tab hV.lay;obtain ⟨hk,s1,s2⟩:=acy_size hV h;have hL:=hV.lay;simp only [layoutP,yb] at hL;simp only [acyP,graphP,yb,un,beq_iff_eq] at h;obtain ⟨-,-,t,ht,hg⟩:=h;simp only [graphT,yb,beq_iff_eq] at hg;obtain ⟨⟨g1,g2⟩,⟨g3,g4⟩,g5⟩:=hg;have hfit:=lay_fit l3 hL.2 (Int.le_refl _) (by omega) t ht (by simp [strictP,g1]);have hcols:=(l4 t ht).2.2.2.1;obtain ⟨⟨x,hx⟩,⟨y,hy⟩,-⟩:=graph_cols hcols g2;obtain ⟨p,q,hpq⟩:∃ p q,t.columns=[p,q]:=by
   match hcs:t.columns with
   | []=>rw [hcs] at g2;simp at g2
   | [_]=>rw [hcs] at g2;simp at g2
   | [p,q]=>exact ⟨p,q,rfl⟩
   | _::_::_::_=>rw [hcs] at g2;simp at g2;omega
  have hp0:idx t.columns 0=some p:=by rw [hpq];rfl
  have hq0:idx t.columns 1=some q:=by rw [hpq];rfl
  rw [hp0,hq0] at g3;rw [hp0] at g5;simp only [yh] at g3 g5;subst g3;have hcp:=yp.1 hcols p (by rw [hpq];simp);rw [idx_col hcp] at g5;simp only [yh] at g5;have hw:widthP m.sorts t.columns 1=c.size*c.size:=by
   rw [hpq];simp only [widthP,g5];have:c.size*c.size≤6*6:=Int.mul_le_mul s2 s2 (by omega) (by omega);have h0:0≤c.size*c.size:=Int.mul_nonneg (by omega) (by omega);unfold mul64;rw [Int.one_mul,w64_id (x:=c.size) (by omega) (by omega),w64_id (by omega) (by omega)]
  rw [hw] at hfit;have hsz:c.size=((c.size.toNat:Nat):Int):=by omega
  refine .graph c.size.toNat hk hsz (by omega) (by omega) (by omega) ?_;have e:((c.size.toNat*c.size.toNat:Nat):Int)=c.size*c.size:=by rw [uh,← hsz]
  rw [e];unfold boxM;omega
def smallD (d:List Change):Prop:=∀ x∈d,-1000000000≤x.add∧x.add≤1000000000
theorem ref16_Cells_eq {n m t} (hc:t.columns.all (colOK m.sorts)=true) (hl:t.columns.length≤1000) (hn:1000000≤n):ref16_Cells n m t=some (widthP m.sorts t.columns 1):=by
 have:=loopF_g (body:=ref16_Cells.l1 n m t) (len:=t.columns.length) (st:=λi=>(widthP m.sorts (t.columns.take i) 1,(i:Int))) (g:=λ_=>some (widthP m.sorts t.columns 1)) (λrec i hi hr=>?_) (λrec=>?_) n 0 (yr _) (by omega)
 ·simpa [ref16_Cells,widthP] using this
 ·rw [yw hi,widthP_append] at hr;simp only [widthP] at hr;simp only [ref16_Cells.l1,lt_len hi,if_true,idx_nat hi,ya,idx_col (yp.1 hc _ (yk hi)),add64_1 (i:=i) (by omega),hr]
 ·simp [ref16_Cells.l1]
structure StateOK (m:Model) (s:List Int):Prop where
 len:s.length=(boxM m).length
 small:∀ x∈s,-9999≤x∧x≤9999
theorem act_delta {m} (hV:ValidM m) {a} (ha:a∈m.actions):smallD a.effect.delta∧∀ r∈a.effect.hold,rowOK (boxM m).length r=true:=by
 have h:=(valid_act hV ha).1;simp only [effP,yb,yp] at h;obtain ⟨p1,-⟩:=deltaP_spec _ _ h.1;exact ⟨λx hx=>by have:=p1 x hx;omega,h.2.2.2⟩


def lexP:List Int→List Int→Int
 | [],[]=>0
 | [],_::_=>-1
 | _::_,[]=>1
 | a::l,b::m=>if a<b then -1 else if b<a then 1 else lexP l m
theorem lex_neg:∀ (a b:List Int),lexP b a = -lexP a b
 | [],[]=>rfl
 | [],_::_=>rfl
 | _::_,[]=>rfl
 | a::l,b::m=>by
  have:=lex_neg l m;simp only [lexP];split <;> split <;> omega
theorem lex_zero:∀ {a b:List Int},lexP a b=0→a=b
 | [],[],_=>rfl
 | [],_::_,h=>by simp [lexP] at h
 | _::_,[],h=>by simp [lexP] at h
 | a::l,b::m,h=>by
  simp only [lexP] at h;split at h
  ·omega
  ·split at h
   ·omega
   ·rw [lex_zero h,show a=b by omega]
theorem lex_trans:∀ {a b c:List Int},lexP a b<0→lexP b c<0→lexP a c<0
 | [],[],c,h,_=>by simp [lexP] at h
 | [],_::_,[],_,h=>by simp [lexP] at h
 | [],_::_,_::_,_,_=>by simp [lexP]
 | _::_,[],_,h,_=>by simp [lexP] at h
 | _::_,_::_,[],_,h=>by simp [lexP] at h
 | a::l,b::m,c::k,h1,h2=>by
  simp only [lexP] at *;have ih:=@lex_trans l m k;by_cases e1:a<b
  ·by_cases e2:b<c
   ·rw [if_pos (by omega)];omega
   ·by_cases e3:c<b
    ·rw [if_neg e2,if_pos e3] at h2;omega
    ·rw [if_pos (by omega)];omega
  ·by_cases e1':b<a
   ·rw [if_neg e1,if_pos e1'] at h1;omega
   ·rw [if_neg e1,if_neg e1'] at h1;by_cases e2:b<c
    ·rw [if_pos (by omega)];omega
    ·by_cases e3:c<b
     ·rw [if_neg e2,if_pos e3] at h2;omega
     ·rw [if_neg e2,if_neg e3] at h2;rw [if_neg (by omega),if_neg (by omega)];exact ih h1 h2
def cmpI (a b:Int):Int:=if a<b then -1 else if b<a then 1 else 0
theorem Compare_int_eq {n} (a b):cmp_Compare_int n a b=some (cmpI a b):=by
 unfold cmp_Compare_int cmp_isNaN_int cmpI;simp;split <;> (try split) <;> rfl
theorem Or_eq {n} (x y) (hn:1000000≤n):cmp_Or_int n [x,y]=some (if x≠0 then x else y):=by
 unfold cmp_Or_int;rw [loopF_1 (by omega)];have e0:idx [x,y] 0=some x:=rfl;have e1:idx [x,y] 1=some y:=rfl;simp only [cmp_Or_int.l1,e0,ya,yP,uC];rw [if_pos (by simp)];by_cases hx:x=0
 ·rw [if_neg (by simp [hx]),show add64 0 1=1 from rfl,loopF_1 (by omega)];simp only [cmp_Or_int.l1,e1,ya,yP,uC];rw [if_pos (by simp)];by_cases hy:y=0
  ·rw [if_neg (by simp [hy]),show add64 1 1=2 from rfl,loopF_1 (by omega)];simp [cmp_Or_int.l1,hx,hy]
  ·rw [if_pos (by simp [hy])];simp [hx]
 ·rw [if_pos (by simp [hx])];simp [hx]
theorem sortO_of {α:Type} {f:α→α→Option Int} {c:α→α→Int} {l:List α} (h1:∀ x∈l,∀ y∈l,f x y=some (c x y)) (irr:∀ x,¬ c x x<0) (tr:∀ x y z,c x y<0→c y z<0→c x z<0) (nt:∀ x y z,¬ c x y<0→¬ c y z<0→¬ c x z<0) (hl:l.length<4611686018427387904) :
  sortO f l=some (sortF (λx y=>(f x y).getD 0) l)∧swoB (λx y=>(f x y).getD 0) l=true:=by
 have hs:swoB (λx y=>(f x y).getD 0) l=true:=by
  unfold swoB;rw [yp];intro x hx;rw [yb,yp];refine ⟨by simpa [h1 x hx x hx] using irr x,λy hy=>?_⟩;rw [yp];intro z hz;simp only [h1 x hx y hy,h1 y hy z hz,h1 x hx z hz,yh,yb,yA,yG,uc,yd,yJ];have a1:=tr x y z;have a2:=nt x y z;constructor
  ·by_cases p:c x y<0
   ·by_cases q:c y z<0
    ·exact .inr (a1 p q)
    ·exact .inl (.inr q)
   ·exact .inl (.inl p)
  ·by_cases p:c x y<0
   ·exact .inl (.inl p)
   ·by_cases q:c y z<0
    ·exact .inl (.inr q)
    ·exact .inr (a2 p q)
 refine ⟨?_,hs⟩;unfold sortO;rw [if_pos];simp only [yb,yp,yd];exact ⟨⟨λx hx y hy=>by rw [h1 x hx y hy];rfl,hs⟩,hl⟩
theorem add64_sm {x y} (h1 : -9223372036854775808≤x+y) (h2:x+y≤9223372036854775807):add64 x y=x+y:=w64_id h1 h2
theorem mul64_sm {x y} (h1 : -9223372036854775808≤x*y) (h2:x*y≤9223372036854775807):mul64 x y=x*y:=w64_id h1 h2
theorem sub64_sm {x y} (h1 : -9223372036854775808≤x - y) (h2:x - y≤9223372036854775807):sub64 x y=x - y:=w64_id h1 h2


structure ConOK (K:Nat) (c:Constraint):Prop where
 kind:c.kind=0∨c.kind=1
 len:c.row.terms.length≤1000
 sz:c.kind=1→∃ s:Nat,c.size=(s:Int)∧1≤s∧s≤6∧0≤c.first∧c.first+((s*s:Nat):Int)≤(K:Int)
structure ActOK (a:Action):Prop where
 delta:a.effect.delta.length≤20
 hold:a.effect.hold.length≤10
 terms:∀ r∈a.effect.hold,r.terms.length≤1000


inductive Weaker:List Row→List Row→Prop
 | nil:Weaker [] []
 | cons {r s:Row} {R S:List Row}:r.terms=s.terms→r.bound≤s.bound→Weaker R S→Weaker (r::R) (s::S)

theorem con_ok {m} (hS:SmallM m) (hV:ValidM m) {c} (hc:c∈m.constraints):ConOK (boxM m).length c:=by
 have hl:=hS.con c hc;rcases con_in hS hV hc with ⟨h1,-,-,-⟩ | ⟨s,h1,h2,h3,h4,h5,h6⟩
 ·exact ⟨.inl h1,by omega,λh=>by omega⟩
 ·exact ⟨.inr h1,by omega,λ_=>⟨s,h2,h3,h4,h5,h6⟩⟩
theorem con_bound {m} (hV:ValidM m) {c} (hc:c∈m.constraints) (hk:c.kind=0):rowOK (rangesP m.sorts true m.tables).length c.row=true:=by
 rcases valid_con hV hc with h | h
 ·simp only [plainP,yb] at h;exact h.2
 ·have:=(acy_size hV h).1;omega
section
variable (E:Nat→Nat→Bool) (K:Nat)
end
theorem perm_uniq {α:Type} {R:α→α→Prop} (hanti:∀ a b,R a b→R b a→a=b):∀ {l m:List α},l.Perm m→l.Pairwise R→m.Pairwise R→l=m
 | [],m,h,_,_=>by simpa using h.length_eq.symm
 | a::l,[],h,_,_=>by simpa using h.length_eq
 | a::l,b::m,h,h1,h2=>by
  have e:a=b:=by
   rw [uo] at h1 h2;have ha:=h.mem_iff.1 (List.mem_cons_self (a:=a) (l:=l));have hb:=h.mem_iff.2 (List.mem_cons_self (a:=b) (l:=m));rcases yE.1 ha with ha | ha
   ·exact ha
   ·rcases yE.1 hb with hb | hb
    ·exact hb.symm
    ·exact hanti _ _ (h1.1 b hb) (h2.1 a ha)
  subst e;rw [perm_uniq hanti ((List.perm_cons a).1 h) (uo.1 h1).2 (uo.1 h2).2]
def ones (K:Nat):List (List Int):=(List.range K).map λ(i:Nat)=>[(i:Int)]
structure PathL (K:Nat) (l:List Int):Prop where
 nd:l.Nodup
 pos:1≤l.length
 mem:∀ x∈l,0≤x∧x<(K:Int)

structure SameA (a:Action):Prop where
 add:∀ c,addP c a.effect.delta 0=addedP a.effect.delta c
 len:a.effect.delta.length≤20
section
variable {n:Nat} {c:Constraint} {a b:Action} {K:Nat} (ha:SameA a) (hb:SameA b) (h6:K≤6) (hn:1000000≤n)
include ha hb h6 hn
end


section
variable {E:Nat→Nat→Bool} {K:Nat}
structure Walk (E:Nat→Nat→Bool) (K p:Nat) (f:Nat→Nat):Prop where
 per:∀ i,f (i+p)=f i
 lt:∀ i,f i<K
 edge:∀ i,E (f i) (f (i+1))=true
end
theorem sto_at {α:Type} {l:List α} {i:Nat} {x:α} (h:i<l.length):sto l (i:Int) x=some (l.set i x):=by
 unfold sto;simp [h]


section
variable {c:Constraint} {K:Nat} {box:List Range} {s:List Int} {da db:List Change}
end
structure Scene (n:Nat) (m:Model) (q:Question) (a b:Action) (s:List Int):Prop where
 small:SmallM m
 valid:ValidM m
 quest:questP m q=true
 ha:idx m.actions q.e=some a
 hb:idx m.actions q.f=some b
 box:inBox (boxM m) s=true
 len:(boxM m).length≤100
 fuel:4294967296≤n
section
variable {n:Nat} {m:Model} {q:Question} {rows:List Int} {a b:Action} {s:List Int}
end

def elemP (s:Swap) (x:Int):Int:=if x=s.a then s.b else if x=s.b then s.a else x
theorem element_eq {n s x}:ref16_element n s x=some (elemP s x):=by
 unfold ref16_element elemP;simp only [beq_iff_eq];by_cases h:x=s.a
 ·rw [if_pos h,if_pos h]
 ·rw [if_neg h,if_neg h];by_cases h2:x=s.b
  ·rw [if_pos h2,if_pos h2]
  ·rw [if_neg h2,if_neg h2]
structure SwapOK (sizes:List Int) (s:Swap):Prop where
 sort:colOK sizes s.sort=true
 a:0≤s.a
 ab:s.a<s.b
 b:s.b<sizes.getD s.sort.toNat 0
def nK (sizes:List Int) (c:Int):Nat:=(sizes.getD c.toNat 0).toNat
def colS (s:Swap) (c:Int) (x:Nat):Nat:=if c=s.sort then (elemP s (x:Int)).toNat else x
theorem nK_ok {sizes:List Int} (hs:sizes.all sizeOK=true) {c} (hc:colOK sizes c=true):((nK sizes c:Nat):Int)=sizes.getD c.toNat 0∧1≤nK sizes c∧nK sizes c≤6:=by
 have:=yp.1 hs _ (idx_mem (idx_col hc));simp only [sizeOK,yb,yd] at this;unfold nK;omega
section
variable {sizes:List Int} {s:Swap} (h:SwapOK sizes s)
include h
theorem elem_nat (x:Nat):((elemP s (x:Int)).toNat:Int)=elemP s (x:Int):=by
 have h1:=h.a;have h2:=h.ab;unfold elemP;split
 ·omega
 ·split <;> omega
theorem colS_lt {c:Int} {x:Nat} (hx:x<nK sizes c):colS s c x<nK sizes c:=by
 have h1:=h.a;have h2:=h.ab;have h3:=h.b;unfold colS;by_cases e:c=s.sort
 ·rw [if_pos e];subst e;unfold nK elemP at *;split
  ·omega
  ·split <;> omega
 ·rw [if_neg e];exact hx
theorem colS_inv {c:Int} {x:Nat}:colS s c (colS s c x)=x:=by
 have h1:=h.a;have h2:=h.ab;unfold colS;by_cases e:c=s.sort
 ·rw [if_pos e,if_pos e,elem_nat h];unfold elemP;by_cases e1:(x:Int)=s.a
  ·rw [if_pos e1,if_neg (by omega),if_pos rfl];omega
  ·rw [if_neg e1];by_cases e2:(x:Int)=s.b
   ·rw [if_pos e2,if_pos rfl];omega
   ·rw [if_neg e2,if_neg e1,if_neg e2];omega
 ·rw [if_neg e,if_neg e]
end
def digP (sizes:List Int) (s:Swap):List Int→Nat→Nat
 | [],_=>0
 | c::cs,r=>colS s c (r % nK sizes c)+nK sizes c*digP sizes s cs (r / nK sizes c)
def wN (sizes:List Int):List Int→Nat
 | []=>1
 | c::cs=>nK sizes c*wN sizes cs
theorem wN_append (sizes:List Int):∀ l m:List Int,wN sizes (l++m)=wN sizes l*wN sizes m
 | [],m=>by simp [wN]
 | c::l,m=>by simp only [ub,wN,wN_append sizes l m,Nat.mul_assoc]
theorem dig_pos {sizes:List Int} {c:Int} {cs:List Int} {r:Nat} (hr:r<wN sizes (c::cs)):0<nK sizes c∧r / nK sizes c<wN sizes cs:=by
 have h0:0<nK sizes c:=by
  rcases Nat.eq_zero_or_pos (nK sizes c) with e | e
  ·rw [wN,e] at hr;simp at hr
  ·exact e
 exact ⟨h0,Nat.div_lt_of_lt_mul hr⟩
theorem dig_lt {sizes:List Int} {s:Swap} (h:SwapOK sizes s):∀ (cs:List Int) (r:Nat),r<wN sizes cs→digP sizes s cs r<wN sizes cs
 | [],r,hr=>by simp [digP,wN]
 | c::cs,r,hr=>by
  obtain ⟨h0,h1⟩:=dig_pos hr;have h2:=colS_lt h (Nat.mod_lt r h0);have h3:=Nat.mul_le_mul_left (nK sizes c) (dig_lt h cs _ h1);rw [Nat.mul_succ] at h3;simp only [digP,wN];omega
theorem dig_inv {sizes:List Int} {s:Swap} (h:SwapOK sizes s):∀ (cs:List Int) (r:Nat),r<wN sizes cs→digP sizes s cs (digP sizes s cs r)=r
 | [],r,hr=>by simp [digP,wN] at hr ⊢;omega
 | c::cs,r,hr=>by
  obtain ⟨h0,h1⟩:=dig_pos hr;have h2:=colS_lt h (Nat.mod_lt r h0);simp only [digP];rw [Nat.add_mul_mod_self_left,Nat.mod_eq_of_lt h2,Nat.add_mul_div_left _ _ h0,Nat.div_eq_of_lt h2,ul,colS_inv h,dig_inv h cs _ h1];exact Nat.mod_add_div r _
theorem width_w {sizes:List Int} (hs:sizes.all sizeOK=true):∀ (cols:List Int) (x:Nat),cols.all (colOK sizes)=true→x*6 ^ cols.length≤1000000→widthP sizes cols (x:Int)=((x*wN sizes cols.reverse:Nat):Int)
 | [],x,_,_=>by simp [widthP,wN]
 | c::cols,x,hc,hx=>by
  simp only [uq,yb] at hc;obtain ⟨k1,k2,k3⟩:=nK_ok hs hc.1;rw [yP,Nat.pow_succ] at hx;have hp:1≤6 ^ cols.length:=Nat.one_le_pow _ _ (by decide);have h1:x*nK sizes c*6 ^ cols.length≤1000000:=by
   refine y9 ?_ hx;rw [Nat.mul_assoc];refine Nat.mul_le_mul_left _ ?_;rw [Nat.mul_comm];exact Nat.mul_le_mul_left _ k3
  have h2:x*nK sizes c≤1000000:=y9 (Nat.le_mul_of_pos_right _ hp) h1;have e:mul64 (x:Int) (sizes.getD c.toNat 0)=((x*nK sizes c:Nat):Int):=by
   rw [← k1,mul64_sm (by rw [← uh];omega) (by rw [← uh];omega),uh]
  rw [widthP,e,width_w hs cols _ hc.2 h1,List.reverse_cons,wN_append];simp only [wN,Nat.mul_one];rw [Nat.mul_assoc,Nat.mul_comm (nK sizes c)]
theorem width_3 {sizes:List Int} (hs:sizes.all sizeOK=true) {cols:List Int} (hc:cols.all (colOK sizes)=true) (h3:cols.length≤3):widthP sizes cols 1=((wN sizes cols.reverse:Nat):Int)∧1≤wN sizes cols.reverse∧wN sizes cols.reverse≤216:=by
 have hp:6 ^ cols.length≤6 ^ 3:=uL (by decide) h3;have e:=width_w hs cols 1 hc (by omega);rw [Nat.one_mul] at e;have:=widthP_bound hs hc h3;refine ⟨e,?_,?_⟩ <;> (rw [show ((1:Nat):Int)=1 from rfl] at e;omega)
theorem rem64_nat {r k:Nat} (h0:0<k) (hr:r≤1000000):rem64 (r:Int) (k:Int)=some ((r % k:Nat):Int):=by
 unfold rem64;rw [if_neg (by omega),Int.tmod_eq_emod_of_nonneg (by omega)];congr 1
theorem quo64_nat {r k:Nat} (h0:0<k) (hr:r≤1000000):quo64 (r:Int) (k:Int)=some ((r / k:Nat):Int):=by
 have:=Nat.div_le_self r k;have e:((r:Int) / (k:Int))=((r / k:Nat):Int):=by simp
 unfold quo64;rw [if_neg (by omega),Int.tdiv_eq_ediv_of_nonneg (by omega),e];generalize r / k=q at this;rw [w64_id (by omega) (by omega)]
theorem move_dig {n m s t} {rest:Nat} (h:SwapOK m.sorts s) (hs:m.sorts.all sizeOK=true) (hc:t.columns.all (colOK m.sorts)=true) (h3:t.columns.length≤3) (hr:rest<wN m.sorts t.columns.reverse) (hn:1000000≤n) :
  loopF (ref16_move.l2 n m s t) n ((rest:Int),0,1,sub64 (t.columns.length:Int) 1)=some (add64 t.first ((digP m.sorts s t.columns.reverse rest:Nat):Int)):=by
 have hw:=(width_3 hs hc h3).2.2;have hd:=dig_lt h _ _ hr;have hlen:t.columns.reverse.length=t.columns.length:=List.length_reverse;have:=loopF_I (body:=ref16_move.l2 n m s t) (len:=t.columns.length) (st:=λ(x:Nat×Nat×Nat) i=>((x.1:Int),(x.2.1:Int),(x.2.2:Int),(t.columns.length:Int) - 1 - (i:Int))) (g:=λ_ _=>some (add64 t.first ((digP m.sorts s t.columns.reverse rest:Nat):Int)))
  (λi x=>x.2.1+x.2.2*digP m.sorts s (t.columns.reverse.drop i) x.1=digP m.sorts s t.columns.reverse rest∧x.1<wN m.sorts (t.columns.reverse.drop i)∧x.1≤216∧x.2.2≤6 ^ i) (λrec i x hi hI hrec=>?_) (λrec x hI=>?_) n 0 (rest,0,1) (yr _) (by omega) ⟨by simp,hr,by omega,by simp⟩
 ·have e:sub64 (t.columns.length:Int) 1=(t.columns.length:Int) - 1 - ((0:Nat):Int):=by rw [sub64_sm (by omega) (by omega)];omega
  rw [e];exact this
 ·obtain ⟨r,out,unit⟩:=x;obtain ⟨I1,I2,I3,I4⟩:=hI;simp only at I1 I2 I3 I4;have hi':i<t.columns.reverse.length:=by omega
  rw [drop_cons hi'] at I1 I2;obtain ⟨c,hcdef⟩:∃ c,c=t.columns.reverse[i]:=⟨_,rfl⟩
  rw [← hcdef] at I1 I2;have hidx:idx t.columns ((t.columns.length:Int) - 1 - (i:Int))=some c:=by
   have e:(t.columns.length:Int) - 1 - (i:Int)=((t.columns.length - 1 - i:Nat):Int):=by omega
   rw [e,idx_nat (by omega),hcdef,List.getElem_reverse]
  have hcol:=yp.1 hc c (idx_mem hidx);obtain ⟨k1,k2,k3⟩:=nK_ok hs hcol;obtain ⟨p0,p1⟩:=dig_pos I2;simp only [digP] at I1;have hp6:6 ^ i≤6 ^ 2:=uL (by decide) (by omega);have hcs:=colS_lt h (Nat.mod_lt r p0);have hge:decide ((0:Int)≤(t.columns.length:Int) - 1 - (i:Int))=true:=by simp;omega
  have hm1:unit*colS s c (r % nK m.sorts c)≤216:=by
   rw [Nat.mul_add] at I1;omega
  have hm2:unit*nK m.sorts c≤36*6:=uO (by omega) k3;have hlast:sub64 ((t.columns.length:Int) - 1 - (i:Int)) 1=(t.columns.length:Int) - 1 - ((i+1:Nat):Int):=by rw [sub64_sm (by omega) (by omega)];omega
  have ecol:(if (c==s.sort)=true then (ref16_element n s ((r % nK m.sorts c:Nat):Int)) else some ((r % nK m.sorts c:Nat):Int))=some ((colS s c (r % nK m.sorts c):Nat):Int):=by
   unfold colS;by_cases e:c=s.sort
   ·rw [if_pos (by simpa using e),if_pos e,element_eq,elem_nat h]
   ·rw [if_neg (by simpa using e),if_neg e]
  have hnext:=hrec (r / nK m.sorts c,out+unit*colS s c (r % nK m.sorts c),unit*nK m.sorts c) ⟨by rw [← I1];simp only [];rw [Nat.mul_add,Nat.mul_assoc,Nat.add_assoc],p1,by have:=Nat.div_le_self r (nK m.sorts c);simp only [];omega,by
   rw [Nat.pow_succ];exact uO I4 k3⟩
  simp only [ref16_move.l2,hge,if_true,hidx,ya,idx_col hcol,← k1,rem64_nat p0 (show r≤1000000 by omega),jn,quo64_nat p0 (show r≤1000000 by omega),hlast];have hfin:∀ y:Nat,y=colS s c (r % nK m.sorts c)→rec (((r / nK m.sorts c:Nat):Int),add64 (out:Int) (mul64 (y:Int) (unit:Int)),mul64 (unit:Int) (nK m.sorts c:Int),(t.columns.length:Int) - 1 - ((i+1:Nat):Int))=some (add64 t.first ((digP m.sorts s t.columns.reverse rest:Nat):Int)):=λy hy=>by
   subst hy;have e1:mul64 ((colS s c (r % nK m.sorts c):Nat):Int) (unit:Int)=((unit*colS s c (r % nK m.sorts c):Nat):Int):=by
    rw [mul64_sm (by rw [← uh,Nat.mul_comm];omega) (by rw [← uh,Nat.mul_comm];omega),← uh,Nat.mul_comm]
   have e2:mul64 (unit:Int) (nK m.sorts c:Int)=((unit*nK m.sorts c:Nat):Int):=by
    rw [mul64_sm (by rw [← uh];omega) (by rw [← uh];omega),← uh]
   rw [e1,e2,add64_nat (by omega)];exact hnext
  by_cases e:(c==s.sort)=true
  ·rw [if_pos e] at ecol;rw [if_pos e,ecol,ya];exact hfin _ rfl
  ·rw [if_neg e] at ecol;rw [if_neg e];have:=Option.some.inj ecol;exact hfin _ (by omega)
 ·obtain ⟨r,out,unit⟩:=x;obtain ⟨I1,-⟩:=hI;simp only [ref16_move.l2];rw [if_neg (by simp;omega)];rw [← hlen,List.drop_length] at I1;simp only [digP,Nat.mul_zero,ut] at I1;rw [I1]
def mvT (sizes:List Int) (s:Swap) (strict:Bool):List Table→Int→Int
 | [],_=>-1
 | t::l,c=>if (strictP t.kind==strict&&(decide (t.first≤c)&&decide (c<t.first+widthP sizes t.columns 1)))=true then t.first+((digP sizes s t.columns.reverse (c - t.first).toNat:Nat):Int) else mvT sizes s strict l c
theorem tab_ok {sizes:List Int} {t:Table} (h:tabP sizes t=true):t.columns.length≤3∧t.columns.all (colOK sizes)=true:=by
 simp only [tabP,yb,yd] at h;exact h.1.2
theorem lay_first {sizes:List Int} (hs:sizes.all sizeOK=true):∀ {l:List Table} {seen:List (List UInt8)} {a b:Int},layP sizes seen a b l=true→0≤a→0≤b→a+216*(l.length:Int)≤1000000→b+216*(l.length:Int)≤1000000 →
  ∀ t∈l,0≤t.first∧t.first≤1000000∧(if strictP t.kind=true then a else b)≤t.first
 | [],_,_,_,_,_,_,_,_,t,ht=>by simp at ht
 | x::l,seen,a,b,h,ha,hb,h1,h2,t,ht=>by
  have hw:=width_3 hs (tab_ok (layP_tab h x (by simp))).2 (tab_ok (layP_tab h x (by simp))).1;simp only [layP,yb] at h;have h3:=h.2;simp only [yP] at h1 h2;have hcast:((l.length+1:Nat):Int)=(l.length:Int)+1:=by omega
  rw [hcast] at h1 h2;by_cases hx:strictP x.kind=true
  ·rw [if_pos hx] at h3;simp only [yb,beq_iff_eq] at h3;rw [add64_sm (by omega) (by omega)] at h3;rcases yE.1 ht with rfl | ht
   ·rw [if_pos hx];omega
   ·have:=lay_first hs h3.2 (by omega) hb (by omega) (by omega) t ht;by_cases e2:strictP t.kind=true
    ·rw [if_pos e2] at this ⊢;omega
    ·rw [if_neg e2] at this ⊢;omega
  ·rw [if_neg hx] at h3;simp only [yb,beq_iff_eq] at h3;rw [add64_sm (by omega) (by omega)] at h3;rcases yE.1 ht with rfl | ht
   ·rw [if_neg hx];omega
   ·have:=lay_first hs h3.2 ha (by omega) (by omega) (by omega) t ht;by_cases e2:strictP t.kind=true
    ·rw [if_pos e2] at this ⊢;omega
    ·rw [if_neg e2] at this ⊢;omega
theorem lay_big {m:Model} (hL:layoutP m.sorts m.tables=true):m.sorts.all sizeOK=true∧layP m.sorts [] 0 0 m.tables=true∧m.tables.length≤12:=by
 obtain ⟨-,l2,l3,-⟩:=layoutP_tab hL;simp only [layoutP,yb] at hL;exact ⟨l3,hL.2,l2⟩
def mvS (sizes:List Int) (s:Swap) (strict:Bool):List Table→Int→Int
 | [],_=>-1
 | t::l,c=>if (strictP t.kind==strict&&(decide (0≤sub64 c t.first)&&decide (sub64 c t.first<widthP sizes t.columns 1)))=true then t.first+((digP sizes s t.columns.reverse (sub64 c t.first).toNat:Nat):Int) else mvS sizes s strict l c
theorem mvS_eq {sizes:List Int} {s:Swap} {strict:Bool} {c:Int} (hc : -1000000≤c∧c≤1000000):∀ {l:List Table},(∀ t∈l,0≤t.first∧t.first≤1000000)→mvS sizes s strict l c=mvT sizes s strict l c
 | [],_=>rfl
 | t::l,h=>by
  have ht:=h t (by simp);have e:sub64 c t.first=c - t.first:=sub64_sm (by omega) (by omega)
  have e1:(decide (0≤c - t.first)&&decide (c - t.first<widthP sizes t.columns 1))=(decide (t.first≤c)&&decide (c<t.first+widthP sizes t.columns 1)):=by
   rw [Bool.eq_iff_iff];simp only [yb,yd];omega
  rw [mvS,mvT,e,e1,mvS_eq hc λu hu=>h u (by simp [hu])]
theorem moveS_eq {m s n c strict} (h:SwapOK m.sorts s) (hL:layoutP m.sorts m.tables=true) (hn:1000000≤n):ref16_move n m s c strict=some (mvS m.sorts s strict m.tables c):=by
 obtain ⟨hs,hlay,hl⟩:=lay_big hL;have:=loopF_g (body:=ref16_move.l1 n m s c strict) (len:=m.tables.length) (st:=λi=>(i:Int)) (g:=λi=>some (mvS m.sorts s strict (m.tables.drop i) c)) (λrec i hi hr=>?_) (λrec=>?_) n 0 (yr _) (by omega)
 ·simpa [ref16_move] using this
 ·have ht:=yk hi;obtain ⟨f1,f2,-⟩:=lay_first hs hlay (Int.le_refl _) (Int.le_refl _) (by omega) (by omega) _ ht;obtain ⟨t1,t2⟩:=tab_ok (layP_tab hlay _ ht);obtain ⟨w1,w2,w3⟩:=width_3 hs t2 t1;have hst:ref16_Strict n m.tables[i].kind=some (strictP m.tables[i].kind):=rfl;rw [drop_cons hi,mvS];simp only [ref16_move.l1,lt_len hi,if_true,idx_nat hi,ya,hst,ref16_Cells_eq t2 (by omega) hn,yj,yC,grd,yh,add64_1 (i:=i) (by omega)];generalize hd:sub64 c m.tables[i].first=d
  by_cases hcond:(strictP m.tables[i].kind==strict&&(decide (0≤d)&&decide (d<widthP m.sorts m.tables[i].columns 1)))=true
  ·rw [if_pos hcond];simp only [yb,beq_iff_eq,yd] at hcond;obtain ⟨c1,c2,c3⟩:=hcond;rw [if_neg (by simp [c1];omega)];obtain ⟨rest,rfl⟩:=yM c2;have hlt:rest<wN m.sorts m.tables[i].columns.reverse:=by omega
   have hd:=dig_lt h _ _ hlt;rw [move_dig h hs t2 t1 hlt hn,yv,add64_sm (by omega) (by omega)]
  ·rw [if_neg hcond,if_pos,hr];simp only [yb,beq_iff_eq,yd,not_and,Int.not_lt] at hcond;by_cases e1:strictP m.tables[i].kind=strict
   ·by_cases e2:0≤d
    ·have:=hcond e1 e2;simp only [yA,yd];exact .inr (by omega)
    ·simp only [yA,yd];exact .inl (.inr (by omega))
   ·simp [e1]
 ·simp [ref16_move.l1,mvS]
theorem move_eq {m s n c strict} (h:SwapOK m.sorts s) (hL:layoutP m.sorts m.tables=true) (hc : -1000000≤c∧c≤1000000) (hn:1000000≤n):ref16_move n m s c strict=some (mvT m.sorts s strict m.tables c):=by
 obtain ⟨hs,hlay,hl⟩:=lay_big hL;rw [moveS_eq h hL hn,mvS_eq hc λt ht=>by
  have:=lay_first hs hlay (Int.le_refl _) (Int.le_refl _) (by omega) (by omega) t ht;exact ⟨this.1,this.2.1⟩]
section
variable {sizes:List Int} {s:Swap} (h:SwapOK sizes s) (hs:sizes.all sizeOK=true)
include h hs
theorem mvT_main (strict:Bool):∀ {l:List Table} {seen:List (List UInt8)} {a b:Int},layP sizes seen a b l=true→0≤a→0≤b→a+216*(l.length:Int)≤1000000→b+216*(l.length:Int)≤1000000 →
  ∀ c,(if strict=true then a else b)≤c→c<(if strict=true then a else b)+((rangesP sizes strict l).length:Int) →
   ((if strict=true then a else b)≤mvT sizes s strict l c∧mvT sizes s strict l c<(if strict=true then a else b)+((rangesP sizes strict l).length:Int))∧mvT sizes s strict l (mvT sizes s strict l c)=c ∧
   (rangesP sizes strict l)[(mvT sizes s strict l c - (if strict=true then a else b)).toNat]? = (rangesP sizes strict l)[(c - (if strict=true then a else b)).toNat]?
 | [],_,_,_,_,_,_,_,_,c,h1,h2=>by simp [rangesP] at h2;omega
 | t::l,seen,a,b,hl,ha,hb,la,lb,c,h1,h2=>by
  obtain ⟨t1,t2⟩:=tab_ok (layP_tab hl t (by simp));obtain ⟨w1,w2,w3⟩:=width_3 hs t2 t1;simp only [layP,yb] at hl;have h3:=hl.2;simp only [yP] at la lb;have hcast:((l.length+1:Nat):Int)=(l.length:Int)+1:=by omega
  rw [hcast] at la lb;obtain ⟨w,hw⟩:∃ w,w=wN sizes t.columns.reverse:=⟨_,rfl⟩
  by_cases hk:strictP t.kind=strict
  ·have hfirst:t.first=if strict=true then a else b:=by
    rw [← hk];split at h3 <;> rename_i e
    ·simp only [yb,beq_iff_eq] at h3;rw [if_pos e];exact h3.1
    ·simp only [yb,beq_iff_eq] at h3;rw [if_neg e];exact h3.1
   have hnext:∃ seen' a' b',layP sizes seen' a' b' l=true∧(if strict=true then a' else b')=t.first+(w:Int)∧0≤a'∧0≤b'∧a'+216*(l.length:Int)≤1000000∧b'+216*(l.length:Int)≤1000000:=by
    rw [hfirst];split at h3 <;> rename_i e
    ·simp only [yb,beq_iff_eq] at h3;rw [w1,add64_sm (by omega) (by omega)] at h3;rw [← hk,if_pos e];exact ⟨_,_,_,h3.2,by rw [if_pos e,hw],by omega,hb,by omega,by omega⟩
    ·simp only [yb,beq_iff_eq] at h3;rw [w1,add64_sm (by omega) (by omega)] at h3;rw [← hk,if_neg e];exact ⟨_,_,_,h3.2,by rw [if_neg e,hw],ha,by omega,by omega,by omega⟩
   obtain ⟨seen',a',b',n1,n2,n3,n4,n5,n6⟩:=hnext;have hr:rangesP sizes strict (t::l)=List.replicate w t.range++rangesP sizes strict l:=by
    rw [rangesP,if_pos (by simp [hk]),w1,hw,yv]
   rw [← hfirst] at h1 h2 ⊢;rw [hr,yR,y0] at h2;rw [hr];have hcond:∀ x,(strictP t.kind==strict&&(decide (t.first≤x)&&decide (x<t.first+widthP sizes t.columns 1)))=decide (t.first≤x∧x<t.first+(w:Int)):=λx=>by
    rw [hk,w1,← hw,Bool.eq_iff_iff];simp
   by_cases hc:c<t.first+(w:Int)
   ·obtain ⟨r,hrr⟩:=yM (show 0≤c - t.first by omega);have hrw:r<wN sizes t.columns.reverse:=by omega
    have hd:=dig_lt h _ _ hrw;have hm:mvT sizes s strict (t::l) c=t.first+((digP sizes s t.columns.reverse r:Nat):Int):=by
     rw [mvT,hcond,if_pos (by simp only [yd];omega),hrr,yv]
    have hm2:mvT sizes s strict (t::l) (t.first+((digP sizes s t.columns.reverse r:Nat):Int))=c:=by
     rw [mvT,hcond,if_pos (by simp only [yd];omega)];have e:(t.first+((digP sizes s t.columns.reverse r:Nat):Int) - t.first).toNat=digP sizes s t.columns.reverse r:=by omega
     rw [e,dig_inv h _ _ hrw];omega
    rw [hm,hm2];refine ⟨⟨by omega,by rw [yR,y0];omega⟩,rfl,?_⟩;rw [yg (by rw [y0];omega),yg (by rw [y0];omega),List.getElem?_replicate,List.getElem?_replicate,if_pos (by omega),if_pos (by omega)]
   ·have hskip:∀ x,t.first+(w:Int)≤x→mvT sizes s strict (t::l) x=mvT sizes s strict l x:=λx hx=>by
     rw [mvT,hcond,if_neg (by simp only [yd];omega)]
    obtain ⟨i1,i2,i3⟩:=mvT_main strict n1 n3 n4 n5 n6 c (by rw [n2];omega) (by rw [n2];omega);rw [n2] at i1 i3;rw [hskip c (by omega),hskip _ i1.1];refine ⟨⟨by omega,by rw [yR,y0];omega⟩,i2,?_⟩;rw [yo (by rw [y0];omega),yo (by rw [y0];omega),y0];have e1:(mvT sizes s strict l c - t.first).toNat - w=(mvT sizes s strict l c - (t.first+(w:Int))).toNat:=by omega
    have e2:(c - t.first).toNat - w=(c - (t.first+(w:Int))).toNat:=by omega
    rw [e1,e2,i3]
  ·have hnext:∃ seen' a' b',layP sizes seen' a' b' l=true∧(if strict=true then a' else b')=(if strict=true then a else b)∧0≤a'∧0≤b'∧a'+216*(l.length:Int)≤1000000∧b'+216*(l.length:Int)≤1000000:=by
    split at h3 <;> rename_i e
    ·simp only [yb,beq_iff_eq] at h3;rw [w1,add64_sm (by omega) (by omega)] at h3;have hf:strict=false:=by cases strict <;> simp_all
     subst hf;exact ⟨_,_,_,h3.2,by simp,by omega,hb,by omega,by omega⟩
    ·simp only [yb,beq_iff_eq] at h3;rw [w1,add64_sm (by omega) (by omega)] at h3;have hf:strict=true:=by cases strict <;> simp_all
     subst hf;exact ⟨_,_,_,h3.2,by simp,ha,by omega,by omega,by omega⟩
   obtain ⟨seen',a',b',n1,n2,n3,n4,n5,n6⟩:=hnext;have hr:rangesP sizes strict (t::l)=rangesP sizes strict l:=by
    rw [rangesP,if_neg (by simpa using hk)]
   have hskip:∀ x,mvT sizes s strict (t::l) x=mvT sizes s strict l x:=λx=>by
    rw [mvT,if_neg (by simp [hk])]
   rw [hr,← n2] at h2 ⊢;rw [← n2] at h1;rw [hskip,hskip];exact mvT_main strict n1 n3 n4 n5 n6 c h1 h2
theorem mvT_at (strict:Bool):∀ {l:List Table} {seen:List (List UInt8)} {a b:Int},layP sizes seen a b l=true→0≤a→0≤b→a+216*(l.length:Int)≤1000000→b+216*(l.length:Int)≤1000000 →
  ∀ t∈l,strictP t.kind=strict→∀ c,t.first≤c→c<t.first+widthP sizes t.columns 1→mvT sizes s strict l c=t.first+((digP sizes s t.columns.reverse (c - t.first).toNat:Nat):Int)
 | [],_,_,_,_,_,_,_,_,t,ht,_,c,_,_=>by simp at ht
 | x::l,seen,a,b,hl,ha,hb,la,lb,t,ht,hk,c,h1,h2=>by
  rw [mvT];rcases yE.1 ht with rfl | ht'
  ·rw [if_pos (by rw [hk];simp [h1,h2])]
  ·obtain ⟨t1,t2⟩:=tab_ok (layP_tab hl x (by simp));obtain ⟨w1,w2,w3⟩:=width_3 hs t2 t1;simp only [layP,yb] at hl;have h3:=hl.2;simp only [yP] at la lb;have hcast:((l.length+1:Nat):Int)=(l.length:Int)+1:=by omega
   rw [hcast] at la lb;split at h3 <;> rename_i e
   ·simp only [yb,beq_iff_eq] at h3;rw [w1,add64_sm (by omega) (by omega)] at h3;have:=(lay_first hs h3.2 (by omega) hb (by omega) (by omega) t ht').2.2;rw [if_neg]
    ·exact mvT_at strict h3.2 (by omega) hb (by omega) (by omega) t ht' hk c h1 h2
    ·simp only [yb,beq_iff_eq,yd];rintro ⟨e1,e2,e3⟩;rw [hk,← e1,if_pos e] at this;omega
   ·simp only [yb,beq_iff_eq] at h3;rw [w1,add64_sm (by omega) (by omega)] at h3;have:=(lay_first hs h3.2 ha (by omega) (by omega) (by omega) t ht').2.2;rw [if_neg]
    ·exact mvT_at strict h3.2 ha (by omega) (by omega) (by omega) t ht' hk c h1 h2
    ·simp only [yb,beq_iff_eq,yd];rintro ⟨e1,e2,e3⟩;rw [hk,← e1,if_neg e] at this;omega
end
def mvC (m:Model) (s:Swap) (c:Int):Int:=mvT m.sorts s true m.tables c
theorem mvC_ok {m s} (h:SwapOK m.sorts s) (hL:layoutP m.sorts m.tables=true) {c:Int} (h0:0≤c) (h1:c<((boxM m).length:Int)):(0≤mvC m s c∧mvC m s c<((boxM m).length:Int))∧mvC m s (mvC m s c)=c∧(boxM m)[(mvC m s c).toNat]? = (boxM m)[c.toNat]?:=by
 obtain ⟨hs,hlay,hl⟩:=lay_big hL;have:=mvT_main h hs true hlay (Int.le_refl _) (Int.le_refl _) (by omega) (by omega) c (by simpa using h0) (by simpa [boxM] using h1);simpa [mvC,boxM] using this
structure Swp (m:Model) (s:Swap):Prop where
 ok:SwapOK m.sorts s
 lay:layoutP m.sorts m.tables=true
theorem Swp.cell {m s} (h:Swp m s) {c:Int} (h0:0≤c) (h1:c<((boxM m).length:Int)):(0≤mvC m s c∧mvC m s c<((boxM m).length:Int))∧mvC m s (mvC m s c)=c∧(boxM m)[(mvC m s c).toNat]? = (boxM m)[c.toNat]?:=mvC_ok h.ok h.lay h0 h1
theorem Swp.move {m s n} (h:Swp m s) {c:Int} (hc : -1000000≤c∧c≤1000000) (hn:1000000≤n):ref16_move n m s c true=some (mvC m s c):=move_eq h.ok h.lay hc hn
def stP (m:Model) (s:Swap) (x:List Int):List Int:=(List.range x.length).map λi:Nat=>x.getD (mvC m s (i:Int)).toNat 0
theorem stP_len {m s x}:(stP m s x).length=x.length:=by simp [stP]
theorem stP_get {m s x} {c:Int} (h0:0≤c) (h1:c<(x.length:Int)):(stP m s x).getD c.toNat 0=x.getD (mvC m s c).toNat 0:=by
 obtain ⟨k,rfl⟩:=yM h0;have:k<x.length:=by omega
 simp [stP,uk,this]
theorem list_ext {a b:List Int} (hl:a.length=b.length) (h:∀ i:Nat,i<a.length→a.getD i 0=b.getD i 0):a=b:=by
 refine uH hl λi h1 h2=>?_
 have:=h i h1;simpa [uk,h1,h2] using this
theorem stP_inv {m s} {x:List Int} (h:Swp m s) (hx:x.length=(boxM m).length):stP m s (stP m s x)=x:=by
 refine list_ext (by simp [stP_len]) λi hi=>?_
 simp only [stP_len] at hi;obtain ⟨⟨c1,c2⟩,c3,-⟩:=h.cell (c:=(i:Int)) (by omega) (by omega);have h1:=stP_get (m:=m) (s:=s) (x:=stP m s x) (c:=(i:Int)) (by omega) (by rw [stP_len];omega);have h2:=stP_get (m:=m) (s:=s) (x:=x) c1 (by omega);rw [yv] at h1;rw [h1,h2,c3,yv]
def insT (t:Term):List Term→List Term
 | []=>[t]
 | u::l=>if t.cell<u.cell then t::u::l else u::insT t l
def mvt (m:Model) (s:Swap) (t:Term):Term:=⟨mvC m s t.cell,t.factor⟩
def rowL (m:Model) (s:Swap) (l:List Term) (acc:List Term):List Term:=l.foldl (λacc t=>insT (mvt m s t) acc) acc
def rowM (m:Model) (s:Swap) (r:Row):Row:=⟨rowL m s r.terms [],r.bound⟩
theorem insT_perm (t:Term):∀ l,(insT t l).Perm (t::l)
 | []=>.refl _
 | u::l=>by
  rw [insT];split
  ·exact .refl _
  ·exact ((insT_perm t l).cons u).trans (.swap t u l)
theorem rowL_perm (m s):∀ l acc,(rowL m s l acc).Perm (l.map (mvt m s)++acc)
 | [],acc=>.refl _
 | t::l,acc=>by
  have ih:=rowL_perm m s l (insT (mvt m s t) acc);refine ih.trans ?_;refine ((insT_perm (mvt m s t) acc).append_left _).trans ?_;simp only [yN,ub];exact List.perm_middle
theorem rowM_perm (m s r):(rowM m s r).terms.Perm (r.terms.map (mvt m s)):=by
 have:=rowL_perm m s r.terms []
 rwa [uv] at this
theorem insert_eq {n:Nat} {acc:List Term} {j:Int} {rec:List Term×Int→Option Row} {c:Int} {u:Term} (hl:acc.length≤1000) (hn:1000000≤n):loopF (ref16_row.l2 n acc j rec c u) n (([]:List Term),false,0)=rec (insT ⟨c,u.factor⟩ acc,add64 j 1):=by
 have:=loopF_I (body:=ref16_row.l2 n acc j rec c u) (len:=acc.length) (st:=λ(x:List Term×Bool) i=>(x.1,x.2,(i:Int))) (g:=λ_ _=>rec (insT ⟨c,u.factor⟩ acc,add64 j 1))
  (λi x=>x.1.length≤i+1∧(if x.2=true then x.1++acc.drop i=insT ⟨c,u.factor⟩ acc else x.1=acc.take i∧insT ⟨c,u.factor⟩ acc=acc.take i++insT ⟨c,u.factor⟩ (acc.drop i))) (λrec2 i x hi hI hr=>?_) (λrec2 x hI=>?_) n 0 ([],false) (yr _) (by omega) ⟨by simp,by simp⟩
 ·exact this
 ·obtain ⟨b,p⟩:=x;obtain ⟨I1,I2⟩:=hI;simp only at I1 I2;have htk:acc.take (i+1)=acc.take i++[acc[i]]:=yw hi;have hnext:∀ (b':List Term) (p':Bool),b'.length≤i+1+1→(if p'=true then b'++acc.drop (i+1)=insT ⟨c,u.factor⟩ acc else b'=acc.take (i+1)∧insT ⟨c,u.factor⟩ acc=acc.take (i+1)++insT ⟨c,u.factor⟩ (acc.drop (i+1)))→rec2 (b',p',((i+1:Nat):Int))=rec (insT ⟨c,u.factor⟩ acc,add64 j 1):=λb' p' h1 h2=>hr (b',p') ⟨h1,h2⟩
  simp only [ref16_row.l2,lt_len hi,if_true,jn,idx_nat hi,yj,yC,grd,yh,ya,add64_1 (i:=i) (by omega)];cases p with
  | true=>
   simp only [yS,yT,yf,if_false];rw [app_some (by simp;omega),ya];refine hnext _ true (by simp;omega) ?_;rw [if_pos rfl] at I2 ⊢;rw [← I2,drop_cons hi,yX];rfl
  | false=>
   rw [if_neg (by simp)] at I2;obtain ⟨rfl,I3⟩:=I2;rw [drop_cons hi,insT] at I3;simp only [uj,yB];have hlt:(acc.take i).length≤i:=by rw [yO];omega
   by_cases hc:c<acc[i].cell
   ·rw [if_pos (by simpa using hc)];rw [if_pos (show (⟨c,u.factor⟩:Term).cell<acc[i].cell from hc)] at I3;rw [app_some (by simp;omega),ya,app_some (by simp;omega),ya];refine hnext _ true (by simp;omega) ?_;rw [if_pos rfl,I3];simp
   ·rw [if_neg (by simpa using hc)];rw [if_neg (show ¬ (⟨c,u.factor⟩:Term).cell<acc[i].cell from hc)] at I3;rw [app_some (by simp;omega),ya];refine hnext _ false (by simp;omega) ?_;rw [if_neg (by simp),htk,I3,yX];exact ⟨rfl,rfl⟩
 ·obtain ⟨b,p⟩:=x;obtain ⟨I1,I2⟩:=hI;simp only at I1 I2;simp only [ref16_row.l2,ge_len,yf,if_false,jn];cases p with
  | true=>
   rw [if_pos rfl,List.drop_length,uv] at I2;simp only [yS,yf,if_false,I2]
  | false=>
   rw [if_neg (by simp),List.drop_length,List.take_length] at I2;simp only [uj,if_true];rw [app_some (by simp;omega),ya,I2.2,I2.1];rfl
theorem row_eq {m s n} {r:Row} (h:Swp m s) (ht:∀ t∈r.terms,-1000000≤t.cell∧t.cell≤1000000) (hl:r.terms.length≤500) (hn:1000000≤n):ref16_row n m s r=some (rowM m s r):=by
 have:=loopF_I (body:=ref16_row.l1 n m s r) (len:=r.terms.length) (st:=λ(x:List Term) i=>(x,(i:Int))) (g:=λ_ _=>some (rowM m s r)) (λi x=>rowL m s (r.terms.drop i) x=rowL m s r.terms []∧x.length≤i) (λrec i x hi hI hr=>?_) (λrec x hI=>?_) n 0 [] (yr _) (by omega) ⟨by simp,by simp⟩
 ·exact this
 ·obtain ⟨I1,I2⟩:=hI;simp only [ref16_row.l1,lt_len hi,if_true,idx_nat hi,ya,h.move (ht _ (yk hi)) hn];rw [insert_eq (by omega) hn,add64_1 (by omega)];refine hr _ ⟨?_,?_⟩
  ·rw [← I1,drop_cons hi];rfl
  ·have:=(insT_perm ⟨mvC m s r.terms[i].cell,r.terms[i].factor⟩ x).length_eq;simp at this;omega
 ·obtain ⟨I1,-⟩:=hI;simp only [ref16_row.l1,ge_len,yf,if_false];rw [List.drop_length] at I1;rw [rowM,← I1];rfl
theorem same16_eq {n} {r t:Row} (hl:r.terms.length≤100000) (hn:1000000≤n):ref16_SameRow n r t=some (decide (r=t)):=by
 unfold ref16_SameRow;have hrow:(r=t)↔(r.bound=t.bound∧r.terms=t.terms):=by
  cases r;cases t;simp [and_comm]
 by_cases h:((r.bound != t.bound)||((r.terms.length:Int) != (t.terms.length:Int)))=true
 ·rw [if_pos h];simp only [yA,bne_iff_ne] at h;congr 1;symm;rw [yJ,hrow];rintro ⟨h1,h2⟩;rcases h with h | h
  ·exact h h1
  ·exact h (by rw [h2])
 ·rw [if_neg h];simp only [yA,bne_iff_ne,not_or,Decidable.not_not] at h;obtain ⟨hb,hlen⟩:=h;have hlen:r.terms.length=t.terms.length:=by omega
  have:=loopF_g (body:=ref16_SameRow.l1 n r t) (len:=r.terms.length) (st:=λi=>(i:Int)) (g:=λi=>some (decide (r.terms.drop i=t.terms.drop i))) (λrec i hi hr=>?_) (λrec=>?_) n 0 (yr _) (by omega)
  ·rw [List.drop_zero,List.drop_zero] at this;rw [show ((0:Nat):Int)=0 from rfl] at this;rw [this];congr 1;exact decide_eq_decide.2 (by rw [hrow];exact ⟨λh=>⟨hb,h⟩,λh=>h.2⟩)
  ·have hi':i<t.terms.length:=by omega
   simp only [ref16_SameRow.l1,lt_len hi,if_true,idx_nat hi,idx_nat hi',ya,add64_1 (i:=i) (by omega),hr];have e2:(r.terms.drop i=t.terms.drop i)↔(r.terms[i]=t.terms[i]∧r.terms.drop (i+1)=t.terms.drop (i+1)):=by rw [drop_cons hi,drop_cons hi',List.cons.injEq]
   rw [decide_eq_decide.2 e2,Bool.decide_and];by_cases e:r.terms[i]=t.terms[i]
   ·rw [if_neg (by simp [e]),decide_eq_true e,yB]
   ·rw [if_pos (by simp [e]),decide_eq_false e,yT]
  ·simp only [ref16_SameRow.l1,ge_len,yf,if_false];simp [hlen]
theorem count_snoc {α:Type} [DecidableEq α] {l:List α} {i:Nat} (hi:i<l.length) (x:α):(l.take (i+1)).count x=(l.take i).count x+(if l[i]=x then 1 else 0):=by
 rw [yw hi,List.count_append,List.count_singleton];congr 1;by_cases e:l[i]=x <;> simp [e]
theorem times_eq {n} {l:List Row} {k:Nat} {r:Row} (hk:k≤l.length) (hl:l.length≤100000) (ht:∀ x∈l,x.terms.length≤100000) (hn:1000000≤n):ref16_times n l (k:Int) r=some (((l.take k).count r:Nat):Int):=by
 have:=loopF_g (body:=ref16_times.l1 n l (k:Int) r) (len:=k) (st:=λi=>((((l.take i).count r:Nat):Int),(i:Int))) (g:=λ_=>some (((l.take k).count r:Nat):Int)) (λrec i hi hr=>?_) (λrec=>?_) n 0 (yr _) (by omega)
 ·simpa [ref16_times] using this
 ·have hi':i<l.length:=by omega
  have hcl:(l.take i).count r≤i:=y9 List.count_le_length (by rw [yO];omega);rw [count_snoc hi'] at hr;simp only [ref16_times.l1,lt_nat hi,if_true,jn,idx_nat hi',ya,same16_eq (ht _ (yk hi')) hn,add64_1 (i:=i) (by omega),add64_1 (show (l.take i).count r<4611686018427387904 by omega)];by_cases e:l[i]=r
  ·rw [if_pos (by simpa using e)];rw [if_pos e] at hr;exact hr
  ·rw [if_neg (by simpa using e)];rw [if_neg e] at hr;exact hr
 ·simp only [ref16_times.l1,ge_nat (yn k),yf,if_false]
theorem updates_eq {n} {l:List Update} {u:Update} (hl:l.length≤100000) (hn:1000000≤n):ref16_updates n l u=some ((l.count u:Nat):Int):=by
 have:=loopF_g (body:=ref16_updates.l1 n l u) (len:=l.length) (st:=λi=>((((l.take i).count u:Nat):Int),(i:Int))) (g:=λ_=>some ((l.count u:Nat):Int)) (λrec i hi hr=>?_) (λrec=>?_) n 0 (yr _) (by omega)
 ·simpa [ref16_updates] using this
 ·have hcl:(l.take i).count u≤i:=y9 List.count_le_length (by rw [yO];omega);rw [count_snoc hi] at hr;simp only [ref16_updates.l1,lt_len hi,if_true,jn,idx_nat hi,ya,add64_1 (i:=i) (by omega),add64_1 (show (l.take i).count u<4611686018427387904 by omega)];by_cases e:l[i]=u
  ·rw [if_pos (by simpa using e)];rw [if_pos e] at hr;exact hr
  ·rw [if_neg (by simpa using e)];rw [if_neg e] at hr;exact hr
 ·simp only [ref16_updates.l1,ge_len,yf,if_false,List.take_length]
def deltaB (m:Model) (s:Swap) (e f:Effect):Bool:=e.delta.all λd=>f.delta.any λg=>(g.cell==mvC m s d.cell)&&(g.add==d.add)
def holdB (m:Model) (s:Swap) (e f:Effect):Bool:=e.hold.all λr=>decide (e.hold.count r=f.hold.count (rowM m s r))
def updB (m:Model) (s:Swap) (e f:Effect):Bool:=e.updates.all λu=>decide (e.updates.count u=f.updates.count ⟨u.kind,mvS m.sorts s false m.tables u.cell,u.value⟩)
def alikeB (m:Model) (s:Swap) (e f:Effect):Bool:=(decide (e.delta.length=f.delta.length)&&(decide (e.hold.length=f.hold.length)&&decide (e.updates.length=f.updates.length)))&&(deltaB m s e f&&(holdB m s e f&&updB m s e f))
structure EffS (e:Effect):Prop where
 delta:e.delta.length≤1000∧∀ d∈e.delta,-1000000≤d.cell∧d.cell≤1000000
 hold:e.hold.length≤1000∧∀ r∈e.hold,r.terms.length≤500∧∀ t∈r.terms,-1000000≤t.cell∧t.cell≤1000000
 upd:e.updates.length≤1000
theorem alike_eq {m s n} {e f:Effect} (h:Swp m s) (he:EffS e) (hf:EffS f) (hn:1000000≤n):ref16_alike n m s e f=some (alikeB m s e f):=by
 obtain ⟨d1,d2⟩:=he.delta;obtain ⟨h1,h2⟩:=he.hold;have u1:=he.upd;obtain ⟨fd1,fd2⟩:=hf.delta;obtain ⟨fh1,fh2⟩:=hf.hold;have fu1:=hf.upd;have l4:loopF (ref16_alike.l4 n m s e f) n 0=some (updB m s e f):=by
  have:=loopF_lall (body:=ref16_alike.l4 n m s e f) (l:=e.updates) (n:=n) (st:=λi=>(i:Int)) (λu=>decide (e.updates.count u=f.updates.count ⟨u.kind,mvS m.sorts s false m.tables u.cell,u.value⟩)) (some false) (some true) (λrec i hi=>?_) (λrec=>?_) (by omega)
  ·rw [show ((0:Nat):Int)=0 from rfl] at this;rw [this];unfold updB;cases (e.updates.all λu=>decide (e.updates.count u=f.updates.count ⟨u.kind,mvS m.sorts s false m.tables u.cell,u.value⟩)) <;> simp
  ·simp only [ref16_alike.l4,lt_len hi,if_true,idx_nat hi,ya,moveS_eq h.ok h.lay hn,updates_eq (show e.updates.length≤100000 by omega) hn,updates_eq (show f.updates.length≤100000 by omega) hn,add64_1 (i:=i) (by omega)];by_cases hc:e.updates.count e.updates[i]=f.updates.count ⟨e.updates[i].kind,mvS m.sorts s false m.tables e.updates[i].cell,e.updates[i].value⟩
   ·rw [if_neg (by simp [hc]),if_pos (by simpa using hc)]
   ·rw [if_pos (by simp;omega),if_neg (by simpa using hc)]
  ·simp only [ref16_alike.l4,ge_len,yf,if_false]
 have l3:loopF (ref16_alike.l3 n m s e f) n 0=some (holdB m s e f&&updB m s e f):=by
  have:=loopF_lall (body:=ref16_alike.l3 n m s e f) (l:=e.hold) (n:=n) (st:=λi=>(i:Int)) (λr=>decide (e.hold.count r=f.hold.count (rowM m s r))) (some false) (some (updB m s e f)) (λrec i hi=>?_) (λrec=>?_) (by omega)
  ·rw [show ((0:Nat):Int)=0 from rfl] at this;rw [this];unfold holdB;cases (e.hold.all λr=>decide (e.hold.count r=f.hold.count (rowM m s r))) <;> simp
  ·obtain ⟨r1,r2⟩:=h2 _ (yk hi);have t1:=times_eq (n:=n) (l:=e.hold) (k:=e.hold.length) (r:=e.hold[i]) (yn _) (by omega) (λx hx=>by have:=(h2 x hx).1;omega) hn;have t2:=times_eq (n:=n) (l:=f.hold) (k:=f.hold.length) (r:=rowM m s e.hold[i]) (yn _) (by omega) (λx hx=>by have:=(fh2 x hx).1;omega) hn;rw [List.take_length] at t1 t2;simp only [ref16_alike.l3,lt_len hi,if_true,idx_nat hi,ya,row_eq h r2 r1 hn,t1,t2,add64_1 (i:=i) (by omega)];by_cases hc:e.hold.count e.hold[i]=f.hold.count (rowM m s e.hold[i])
   ·rw [if_neg (by simp [hc]),if_pos (by simpa using hc)]
   ·rw [if_pos (by simp;omega),if_neg (by simpa using hc)]
  ·simp only [ref16_alike.l3,ge_len,yf,if_false];exact l4
 have l1:loopF (ref16_alike.l1 n m s e f) n 0=some (deltaB m s e f&&(holdB m s e f&&updB m s e f)):=by
  have:=loopF_lall (body:=ref16_alike.l1 n m s e f) (l:=e.delta) (n:=n) (st:=λi=>(i:Int)) (λd=>f.delta.any λg=>(g.cell==mvC m s d.cell)&&(g.add==d.add)) (some false) (some (holdB m s e f&&updB m s e f)) (λrec i hi=>?_) (λrec=>?_) (by omega)
  ·rw [show ((0:Nat):Int)=0 from rfl] at this;rw [this];unfold deltaB;cases (e.delta.all λd=>f.delta.any λg=>(g.cell==mvC m s d.cell)&&(g.add==d.add)) <;> simp
  ·simp only [ref16_alike.l1,lt_len hi,if_true];have inner:=loopF_I (body:=ref16_alike.l2 n m s e f (i:Int) rec) (len:=f.delta.length) (st:=λ(b:Bool) k=>(b,(k:Int))) (g:=λk b=>if (b||(f.delta.drop k).any λg=>(g.cell==mvC m s e.delta[i].cell)&&(g.add==e.delta[i].add))=true then rec ((i+1:Nat):Int) else some false) (λ_ _=>True) (λrec2 k b hk _ hr=>?_) (λrec2 b _=>?_) n 0 false (yr _) (by omega) trivial
   ·simpa using inner
   ·simp only [ref16_alike.l2,lt_len hk,if_true,jn,idx_nat hk,idx_nat hi,ya,h.move (d2 _ (yk hi)) hn,yj,yC,grd,yh,add64_1 (i:=k) (by omega)];rw [drop_cons hk,uQ];by_cases hc:((f.delta[k].cell==mvC m s e.delta[i].cell)&&(f.delta[k].add==e.delta[i].add))=true
    ·rw [if_pos hc,hr true trivial,hc];simp
    ·rw [if_neg hc,hr b trivial];simp only [yD] at hc;rw [hc,y8]
   ·simp only [ref16_alike.l2,ge_len,yf,if_false,add64_1 (i:=i) (by omega)];cases b <;> simp
  ·simp only [ref16_alike.l1,ge_len,yf,if_false];exact l3
 unfold ref16_alike alikeB;by_cases hc:((((e.delta.length:Int) != (f.delta.length:Int))||((e.hold.length:Int) != (f.hold.length:Int)))||((e.updates.length:Int) != (f.updates.length:Int)))=true
 ·rw [if_pos hc];congr 1;symm;rw [uc];left;simp only [yA,bne_iff_ne] at hc;rw [Bool.eq_false_iff];simp only [ne_eq,yb,yd];omega
 ·rw [if_neg hc,l1];congr 1;simp only [yA,bne_iff_ne,not_or,Decidable.not_not] at hc;rw [decide_eq_true (by omega),decide_eq_true (by omega),decide_eq_true (by omega)];simp
def argM (s:Swap) (sorts args:List Int):List Int:=(List.range args.length).map λi:Nat=>if sorts.getD i 0=s.sort then elemP s (args.getD i 0) else args.getD i 0
def actB (m:Model) (s:Swap) (a b:Action):Bool:=(b.operation==a.operation&&decide (b.arguments=argM s (opAt m a).sorts a.arguments))&&alikeB m s a.effect b.effect
structure ActS (m:Model):Prop where
 len:m.actions.length≤1000
 act:∀ a∈m.actions,EffS a.effect∧(∃ o,idx m.operations a.operation=some o∧o.sorts.length=a.arguments.length)∧a.arguments.length≤100
theorem moveAction_eq {m s n} {k:Int} {a:Action} (h:Swp m s) (hA:ActS m) (ha:idx m.actions k=some a) (hn:1000000≤n):ref16_moveAction n m s k=some (if 0≤ixP (actB m s a) m.actions 0 then (ixP (actB m s a) m.actions 0,true) else (0,false)):=by
 obtain ⟨he,⟨o,ho,hol⟩,hal⟩:=hA.act a (idx_mem ha);have hml:=hA.len;have hop:opAt m a=o:=by unfold opAt;rw [ho];rfl
 unfold ref16_moveAction;rw [ha,ya,ho,ya];have:=loopF_g (body:=ref16_moveAction.l1 n m s a o) (len:=m.actions.length) (st:=λi=>(i:Int)) (g:=λi=>some (if 0≤ixP (actB m s a) (m.actions.drop i) i then (ixP (actB m s a) (m.actions.drop i) i,true) else (0,false))) (λrec i hi hr=>?_) (λrec=>?_) n 0 (yr _) (by omega)
 ·simpa using this
 ·obtain ⟨b,hb⟩:∃ b,b=m.actions[i]:=⟨_,rfl⟩
  obtain ⟨hbe,-,-⟩:=hA.act _ (yk hi);have hidx:idx m.actions (i:Int)=some b:=by rw [idx_nat hi,hb]
  rw [drop_cons hi,← hb,ixP];rw [← hb] at hbe;simp only [ref16_moveAction.l1,lt_len hi,if_true,hidx,ya];have hargl:(argM s o.sorts a.arguments).length=a.arguments.length:=by simp [argM]
  have hget:∀ j,(hj:j<a.arguments.length)→(argM s o.sorts a.arguments)[j]'(by omega)=if o.sorts.getD j 0=s.sort then elemP s (a.arguments.getD j 0) else a.arguments.getD j 0:=λj hj=>by simp [argM]
  have inner:=loopF_I (body:=ref16_moveAction.l2 n m s a o (i:Int) rec b) (len:=a.arguments.length) (st:=λ(x:Bool) j=>(x,(j:Int))) (g:=λj x=>if (x&&(decide (b.arguments.drop j=(argM s o.sorts a.arguments).drop j)&&alikeB m s a.effect b.effect))=true then some ((i:Int),true) else rec ((i+1:Nat):Int)) (λj x=>x=true→b.arguments.length=a.arguments.length) (λrec2 j x hj hI hr2=>?_) (λrec2 x hI=>?_) n 0 ((b.operation==a.operation)&&((b.arguments.length:Int)==(a.arguments.length:Int))) (yr _) (by omega) (λhx=>by
    simp only [yb,beq_iff_eq] at hx;omega)
  ·rw [show ((0:Nat):Int)=0 from rfl] at inner;rw [inner,List.drop_zero,List.drop_zero,hr];have hact:(((b.operation==a.operation)&&((b.arguments.length:Int)==(a.arguments.length:Int)))&&(decide (b.arguments=argM s o.sorts a.arguments)&&alikeB m s a.effect b.effect))=actB m s a b:=by
    unfold actB;rw [hop,Bool.eq_iff_iff];simp only [yb,beq_iff_eq,yd];constructor
    ·rintro ⟨⟨x1,x2⟩,x3,x4⟩;exact ⟨⟨x1,x3⟩,x4⟩
    ·rintro ⟨⟨x1,x3⟩,x4⟩;exact ⟨⟨x1,by rw [x3,hargl]⟩,x3,x4⟩
   rw [hact];by_cases hc:actB m s a b=true
   ·rw [if_pos hc,if_pos hc,if_pos (by omega)]
   ·rw [if_neg hc,if_neg hc]
  ·simp only [ref16_moveAction.l2,lt_len hj,ux];cases x with
   | false=>simp [alike_eq h he hbe hn,grd,add64_1 (i:=i) (by omega)]
   | true=>
    have hbl:=hI rfl;have hj':j<b.arguments.length:=by omega
    have hjo:j<o.sorts.length:=by omega
    have hjm:j<(argM s o.sorts a.arguments).length:=by omega
    have eo:o.sorts.getD j 0=o.sorts[j]:=by simp [uk,hjo]
    have ea:a.arguments.getD j 0=a.arguments[j]:=by simp [uk,hj]
    have hg:=hget j hj;rw [eo,ea] at hg;have hstep:∀ w:Int,w=(argM s o.sorts a.arguments)[j]→rec2 (b.arguments[j]==w,((j+1:Nat):Int))=if (true&&(decide (b.arguments.drop j=(argM s o.sorts a.arguments).drop j)&&alikeB m s a.effect b.effect))=true then some ((i:Int),true) else rec ((i+1:Nat):Int):=λw hw=>by
     rw [hr2 _ λ_=>hbl,drop_cons hj',drop_cons hjm,hw];have hc:(b.arguments[j]::b.arguments.drop (j+1)=(argM s o.sorts a.arguments)[j]::(argM s o.sorts a.arguments).drop (j+1))↔(b.arguments[j]=(argM s o.sorts a.arguments)[j]∧b.arguments.drop (j+1)=(argM s o.sorts a.arguments).drop (j+1)):=by rw [List.cons.injEq]
     have hb2:(b.arguments[j]==(argM s o.sorts a.arguments)[j])=decide (b.arguments[j]=(argM s o.sorts a.arguments)[j]):=by rw [Bool.eq_iff_iff];simp
     rw [decide_eq_decide.2 hc,hb2,Bool.decide_and,yB,Bool.and_assoc]
    simp only [if_true,idx_nat hj,idx_nat hj',idx_nat hjo,ya,jn,add64_1 (i:=j) (by omega)];by_cases e:o.sorts[j]=s.sort
    ·rw [if_pos (by simpa using e),element_eq,ya];rw [if_pos e] at hg;exact hstep _ hg.symm
    ·rw [if_neg (by simpa using e)];rw [if_neg e] at hg;exact hstep _ hg.symm
  ·simp only [ref16_moveAction.l2,ge_len,Bool.and_false,yf,if_false,alike_eq h he hbe hn,yj,yC,grd,if_true,yh,add64_1 (i:=i) (by omega)];cases x with
   | false=>simp
   | true=>
    have hbl:=hI rfl;have e1:b.arguments.drop a.arguments.length=[]:=by rw [← hbl,List.drop_length]
    have e2:(argM s o.sorts a.arguments).drop a.arguments.length=[]:=by rw [← hargl,List.drop_length]
    rw [e1,e2];simp
 ·simp [ref16_moveAction.l1,ixP]
def fstP (p:Nat→Bool):Nat→Nat→Option Nat
 | _,0=>none
 | i,k+1=>if p i=true then some i else fstP p (i+1) k
theorem fstP_some {p:Nat→Bool}:∀ {k i j:Nat},fstP p i k=some j→(i≤j∧j<i+k)∧p j=true∧∀ x,i≤x→x<j→p x=false
 | 0,i,j,h=>by simp [fstP] at h
 | k+1,i,j,h=>by
  rw [fstP] at h;by_cases hp:p i=true
  ·rw [if_pos hp] at h;cases h;exact ⟨by omega,hp,λx h1 h2=>by omega⟩
  ·rw [if_neg hp] at h;obtain ⟨h1,h2,h3⟩:=fstP_some h;refine ⟨by omega,h2,λx x1 x2=>?_⟩;by_cases e:x=i
   ·subst e;simpa using hp
   ·exact h3 x (by omega) x2
theorem fstP_none {p:Nat→Bool}:∀ {k i:Nat},fstP p i k=none→∀ x,i≤x→x<i+k→p x=false
 | 0,i,h,x,h1,h2=>by omega
 | k+1,i,h,x,h1,h2=>by
  rw [fstP] at h;by_cases hp:p i=true
  ·rw [if_pos hp] at h;cases h
  ·rw [if_neg hp] at h;by_cases e:x=i
   ·subst e;simpa using hp
   ·exact fstP_none h x (by omega) (by omega)
def conAt (m:Model) (i:Nat):Constraint:=m.constraints.getD i default
theorem conAt_eq {m:Model} {i:Nat} (hi:i<m.constraints.length):conAt m i=m.constraints[i]:=by simp [conAt,hi]
def sameC (c d:Constraint):Bool:=((d.kind==c.kind)&&(d.family==c.family))&&decide (d.row=c.row)
def rankP (m:Model) (i:Nat):Nat:=(m.constraints.take i).countP (sameC (conAt m i))
def conB (m:Model) (s:Swap) (i j:Nat):Bool:=((((conAt m j).kind==(conAt m i).kind)&&((conAt m j).family==(conAt m i).family))&&decide ((conAt m j).row=rowM m s (conAt m i).row))&&decide (rankP m j=rankP m i)
structure ConS (m:Model):Prop where
 len:m.constraints.length≤1000
 con:∀ c∈m.constraints,c.row.terms.length≤500∧∀ t∈c.row.terms,-1000000≤t.cell∧t.cell≤1000000
theorem rank_eq {m n} {i:Nat} (hC:ConS m) (hi:i<m.constraints.length) (hn:1000000≤n):ref16_rank n m (i:Int)=some ((rankP m i:Nat):Int):=by
 have hl:=hC.len;unfold ref16_rank;rw [idx_nat hi,ya];have:=loopF_g (body:=ref16_rank.l1 n m (i:Int) m.constraints[i]) (len:=i) (st:=λk=>((((m.constraints.take k).countP (sameC m.constraints[i]):Nat):Int),(k:Int))) (g:=λ_=>some ((rankP m i:Nat):Int)) (λrec k hk hr=>?_) (λrec=>?_) n 0 (yr _) (by omega)
 ·simpa using this
 ·have hk':k<m.constraints.length:=by omega
  have hcl:(m.constraints.take k).countP (sameC m.constraints[i])≤k:=y9 List.countP_le_length (by rw [yO];omega);rw [yw hk',List.countP_append,List.countP_singleton] at hr;simp only [ref16_rank.l1,lt_nat hk,if_true,jn,idx_nat hk',ya,same16_eq (show m.constraints[k].row.terms.length≤100000 by have:=(hC.con _ (yk hk')).1;omega) hn,yj,yC,grd,yh,add64_1 (i:=k) (by omega),add64_1 (show (m.constraints.take k).countP (sameC m.constraints[i])<4611686018427387904 by omega)];by_cases e:sameC m.constraints[i] m.constraints[k]=true
  ·rw [if_pos e] at hr;rw [if_pos (by simpa [sameC] using e)];exact hr
  ·rw [if_neg e] at hr;rw [if_neg (by simpa [sameC] using e)];exact hr
 ·simp only [ref16_rank.l1,ge_nat (yn i),yf,if_false];rw [rankP,conAt_eq hi]
theorem moveConstraint_eq {m s n} {i:Nat} (h:Swp m s) (hC:ConS m) (hi:i<m.constraints.length) (hn:1000000≤n):ref16_moveConstraint n m s (i:Int)=some (if (conAt m i).kind=1 then ((i:Int),true) else match fstP (conB m s i) 0 m.constraints.length with
  | some j=>((j:Int),true)
  | none=>(0,false)):=by
 have hl:=hC.len;unfold ref16_moveConstraint;rw [idx_nat hi,ya,← conAt_eq hi];by_cases hk:(conAt m i).kind=1
 ·rw [if_pos hk,if_pos (by simpa using hk)]
 ·rw [if_neg hk,if_neg (by simpa using hk)];obtain ⟨c1,c2⟩:=hC.con _ (yk hi);rw [← conAt_eq hi] at c1 c2;rw [row_eq h c2 c1 hn,ya];have:=loopF_g (body:=ref16_moveConstraint.l1 n m (i:Int) (conAt m i) (rowM m s (conAt m i).row)) (len:=m.constraints.length) (st:=λj=>(j:Int)) (g:=λj=>some (match fstP (conB m s i) j (m.constraints.length - j) with
   | some j=>((j:Int),true)
   | none=>((0:Int),false))) (λrec j hj hr=>?_) (λrec=>?_) n 0 (yr _) (by omega)
  ·rw [Nat.sub_zero] at this;exact this
  ·have hcj:=(hC.con _ (yk hj)).1;simp only [ref16_moveConstraint.l1,lt_len hj,if_true,idx_nat hj,ya];rw [← conAt_eq hj] at hcj ⊢;simp only [same16_eq (show (conAt m j).row.terms.length≤100000 by omega) hn,rank_eq hC hj hn,rank_eq hC hi hn,yj,yC,grd,if_true,yh,add64_1 (i:=j) (by omega)];rw [show m.constraints.length - j=(m.constraints.length - (j+1))+1 by omega,fstP];have hb:(((((conAt m j).kind==(conAt m i).kind)&&((conAt m j).family==(conAt m i).family))&&decide ((conAt m j).row=rowM m s (conAt m i).row))&&(((rankP m j:Nat):Int)==((rankP m i:Nat):Int)))=conB m s i j:=by
    unfold conB;congr 1;rw [Bool.eq_iff_iff];simp;omega
   rw [hb];by_cases hc:conB m s i j=true
   ·rw [if_pos hc,if_pos hc]
   ·rw [if_neg hc,if_neg hc,hr]
  ·simp [ref16_moveConstraint.l1,fstP]
def risT (l:List Term):Prop:=l.Pairwise λa b=>a.cell<b.cell
theorem insT_ris {t:Term}:∀ {l:List Term},risT l→(∀ u∈l,u.cell≠t.cell)→risT (insT t l)
 | [],_,_=>by simp [insT,risT]
 | u::l,h,hne=>by
  obtain ⟨h1,h2⟩:=uo.1 h;rw [insT];split
  ·rename_i hlt;exact uo.2 ⟨λv hv=>by
    rcases yE.1 hv with rfl | hv
    ·exact hlt
    ·have:=h1 v hv;omega,h⟩
  ·rename_i hge;refine uo.2 ⟨λv hv=>?_,insT_ris h2 λv hv=>hne v (by simp [hv])⟩;rcases yE.1 ((insT_perm t l).mem_iff.1 hv) with rfl | hv
   ·have:=hne u (by simp);omega
   ·exact h1 v hv
theorem rowL_ris {m s}:∀ {l acc:List Term},risT acc→((acc++l.map (mvt m s)).Pairwise λa b=>a.cell≠b.cell)→risT (rowL m s l acc)
 | [],acc,h,_=>h
 | t::l,acc,h,hp=>by
  have hp':=hp;simp only [yN] at hp;rw [List.pairwise_append] at hp;obtain ⟨p1,p2,p3⟩:=hp;obtain ⟨p4,p5⟩:=uo.1 p2;refine rowL_ris (l:=l) (acc:=insT (mvt m s t) acc) (insT_ris h λu hu=>p3 u hu _ (by simp)) ?_;rw [List.pairwise_append];refine ⟨?_,p5,λu hu v hv=>?_⟩
  ·refine List.Pairwise.imp (λ{a b} hab=>?_) (insT_ris h λu hu=>p3 u hu _ (by simp));omega
  ·rcases yE.1 ((insT_perm _ _).mem_iff.1 hu) with rfl | hu
   ·exact p4 v hv
   ·exact p3 u hu v (by simp [hv])
theorem ris_uniq {l k:List Term} (hp:l.Perm k) (h1:risT l) (h2:risT k):l=k:=
 perm_uniq (R:=λa b:Term=>a.cell<b.cell) (λa b x y=>by omega) hp h1 h2
structure RowIn (m:Model) (r:Row):Prop where
 ris:risT r.terms
 term:∀ t∈r.terms,termOK (boxM m).length t
section
variable {m:Model} {s:Swap} (h:Swp m s)
include h
theorem mv_inj {c d:Int} (c0:0≤c) (c1:c<((boxM m).length:Int)) (d0:0≤d) (d1:d<((boxM m).length:Int)) (e:mvC m s c=mvC m s d):c=d:=by
 rw [← (h.cell c0 c1).2.1,e,(h.cell d0 d1).2.1]
theorem mvt_pair {l:List Term} (hr:risT l) (ht:∀ t∈l,termOK (boxM m).length t):(l.map (mvt m s)).Pairwise λa b=>a.cell≠b.cell:=by
 rw [List.pairwise_map];refine List.Pairwise.imp_of_mem (λ{a b} ha hb hab e=>?_) hr;obtain ⟨a1,a2,-⟩:=ht a ha;obtain ⟨b1,b2,-⟩:=ht b hb;have:=mv_inj h a1 a2 b1 b2 e;omega
theorem RowIn.mv {r:Row} (hr:RowIn m r):RowIn m (rowM m s r):=by
 refine ⟨rowL_ris (acc:=[]) (by simp [risT]) (by simpa using mvt_pair h hr.ris hr.term),λt ht=>?_⟩;obtain ⟨u,hu,rfl⟩:=yV.1 ((rowM_perm m s r).mem_iff.1 ht);obtain ⟨u1,u2,u3,u4⟩:=hr.term u hu;obtain ⟨c,-⟩:=h.cell u1 u2;exact ⟨c.1,c.2,u3,u4⟩
theorem row_twice {r:Row} (hr:RowIn m r):rowM m s (rowM m s r)=r:=by
 have h1:=hr.mv h;have h2:=h1.mv h;have hp:(rowM m s (rowM m s r)).terms.Perm r.terms:=by
  refine (rowM_perm m s _).trans ?_;refine ((rowM_perm m s r).map (mvt m s)).trans ?_;have:(r.terms.map (mvt m s)).map (mvt m s)=r.terms:=by
   rw [uy];refine (List.map_congr_left λt ht=>?_).trans (List.map_id _);obtain ⟨t1,t2,-⟩:=hr.term t ht;simp only [Function.comp_apply,mvt,id_eq,(h.cell t1 t2).2.1]
  rw [this]
 have e:=ris_uniq hp h2.ris hr.ris;have e2:(rowM m s (rowM m s r)).bound=r.bound:=rfl;cases hx:rowM m s (rowM m s r) with
 | mk a b=>rw [hx] at e e2;cases r;simp only at e e2;rw [e,e2]
theorem row_inj {r t:Row} (hr:RowIn m r) (ht:RowIn m t) (e:rowM m s r=rowM m s t):r=t:=by
 rw [← row_twice h hr,e,row_twice h ht]
end
theorem rowP_ris {K:Nat}:∀ {l:List Term} {last:Int},rowP K last l=true→risT l∧∀ t∈l,last<t.cell
 | [],_,_=>⟨by simp [risT],by simp⟩
 | t::l,last,h=>by
  simp only [rowP,yb,yd] at h;obtain ⟨i1,i2⟩:=rowP_ris h.2;refine ⟨uo.2 ⟨i2,i1⟩,λu hu=>?_⟩;rcases yE.1 hu with rfl | hu
  ·exact h.1.1.1.1
  ·have:=i2 u hu;have:=h.1.1.1.1;omega
theorem rowOK_in {m:Model} {r:Row} (h:rowOK (boxM m).length r=true):RowIn m r:=by
 simp only [rowOK,yb] at h;exact ⟨(rowP_ris h.1).1,rowP_terms h.1 (by decide)⟩
theorem nodup_sub {α:Type} [DecidableEq α]:∀ {A B:List α},A.Nodup→(∀ x∈A,x∈B)→A.length≤B.length
 | [],B,_,_=>by simp
 | x::A,B,hn,hs=>by
  obtain ⟨h1,h2⟩:=List.nodup_cons.1 hn;have hx:=hs x (by simp);have:=nodup_sub (A:=A) (B:=B.erase x) h2 λy hy=>(List.mem_erase_of_ne (show y≠x from λe=>h1 (by rw [← e];exact hy))).2 (hs y (by simp [hy]))
  rw [List.length_erase_of_mem hx] at this;have:=List.length_pos_of_mem hx;simp;omega
theorem nodup_all {α:Type} [DecidableEq α] {A B:List α} (hn:A.Nodup) (hs:∀ x∈A,x∈B) (hl:B.length≤A.length):∀ y∈B,y∈A:=λy hy=>by
 refine Classical.byContradiction λhno=>?_
 have:=nodup_sub (A:=A) (B:=B.erase y) hn λx hx=>(List.mem_erase_of_ne (show x≠y from λe=>hno (by rw [← e];exact hx))).2 (hs x hx)
 rw [List.length_erase_of_mem hy] at this;have:=List.length_pos_of_mem hy;omega
theorem perm_count {α:Type} [DecidableEq α]:∀ {A B:List α},(∀ x∈A,A.count x=B.count x)→A.length=B.length→A.Perm B
 | [],B,_,hl=>by
  have:B=[]:=List.length_eq_zero_iff.1 hl.symm;rw [this]
 | x::A,B,hc,hl=>by
  have hx:x∈B:=by
   have:=hc x (by simp);rw [List.count_cons_self] at this;exact List.count_pos_iff.1 (by omega)
  have hp:=List.perm_cons_erase hx;refine (List.Perm.cons x (perm_count (A:=A) (B:=B.erase x) (λy hy=>?_) ?_)).trans hp.symm
  ·have h1:=hc y (by simp [hy]);by_cases e:y=x
   ·subst e;rw [List.count_cons_self] at h1;rw [List.count_erase_self];omega
   ·rw [List.count_cons_of_ne (λh=>e h.symm)] at h1;rw [List.count_erase_of_ne e,h1]
  ·rw [List.length_erase_of_mem hx];simp at hl;omega
theorem count_map {α:Type} [DecidableEq α] {f:α→α} {x:α}:∀ {l:List α},(∀ y∈l,f y=f x→y=x)→(l.map f).count (f x)=l.count x
 | [],_=>by simp
 | y::l,h=>by
  rw [yN,List.count_cons,List.count_cons,count_map (λz hz=>h z (by simp [hz]))];congr 1;by_cases e:y=x
  ·subst e;simp
  ·have:f y≠f x:=λhe=>e (h y (by simp) he)
   simp [e,this]
structure EffIn (m:Model) (e:Effect):Prop where
 nd:(e.delta.map (·.cell)).Nodup
 cell:∀ d∈e.delta,0≤d.cell∧d.cell<((boxM m).length:Int)
 hold:∀ r∈e.hold,RowIn m r
theorem eff_in {m:Model} (hV:ValidM m) {a:Action} (ha:a∈m.actions):EffIn m a.effect:=by
 have h:=(valid_act hV ha).1;simp only [effP,yb] at h;obtain ⟨h1,h2⟩:=deltaP_spec _ _ h.1;exact ⟨h2,λd hd=>by have:=h1 d hd;unfold boxM;omega,λr hr=>rowOK_in ((act_delta hV ha).2 r hr)⟩
section
variable {m:Model} {s:Swap} (h:Swp m s)
include h
theorem hold_mv {e f:Effect} (he:EffIn m e) (hf:EffIn m f) (hl:e.hold.length=f.hold.length) (hd:holdB m s e f=true):(e.hold.map (rowM m s)).Perm f.hold:=by
 refine perm_count (λy hy=>?_) (by simp [hl]);obtain ⟨r,hr,rfl⟩:=yV.1 hy;rw [count_map λz hz e2=>row_inj h (he.hold z hz) (he.hold r hr) e2];exact of_decide_eq_true (yp.1 hd r hr)
end
theorem box_len {m:Model} (hS:SmallM m) (hL:layoutP m.sorts m.tables=true):(boxM m).length≤2592:=by
 obtain ⟨l1,l2,l3,l4⟩:=layoutP_tab hL;have:=rangesP_len (sizes:=m.sorts) (s:=true) (l:=m.tables) λt ht=>(l4 t ht).2.2.2.2
 have:=hS.tables;unfold boxM;omega
theorem valid_actA {m:Model} (hV:ValidM m) {a:Action} (ha:a∈m.actions):a.arguments.length=(opAt m a).sorts.length∧(0≤a.operation∧a.operation<(m.operations.length:Int)):=by
 have h:=hV.acts;simp only [actsP,yb] at h;obtain ⟨i,hi,rfl⟩:=List.mem_iff_getElem.1 ha;have:=allR_0.1 h.2 i hi;simp only [idx_nat hi,yh,actP,yb,yd,beq_iff_eq] at this;exact ⟨this.1.1.1.2,this.1.1.1.1⟩
theorem actS_of {m:Model} (hS:SmallM m) (hV:ValidM m):ActS m:=by
 have hb:=box_len hS hV.lay;refine ⟨by have:=hS.actions;omega,λa ha=>⟨?_,?_,?_⟩⟩
 ·obtain ⟨-,d,ho,u,ht⟩:=hS.act a ha;have he:=eff_in hV ha;refine ⟨⟨by omega,λd hd=>by have:=he.cell d hd;omega⟩,⟨by omega,λr hr=>⟨by have:=ht r hr;omega,λt htm=>by
   obtain ⟨t1,t2,-⟩:=(he.hold r hr).term t htm;omega⟩⟩,by omega⟩
 ·obtain ⟨h1,h2⟩:=valid_actA hV ha;obtain ⟨o,ho⟩:=idx_some h2.1 h2.2;refine ⟨o,ho,?_⟩;rw [h1];unfold opAt;rw [ho];rfl
 ·have:=(hS.act a ha).1;omega
theorem con_rowIn {m:Model} (hV:ValidM m) {c:Constraint} (hc:c∈m.constraints) (hk:c.kind=0):RowIn m c.row:=rowOK_in (con_bound hV hc hk)
theorem conS_of {m:Model} (hS:SmallM m) (hV:ValidM m):ConS m:=by
 have hb:=box_len hS hV.lay;refine ⟨by have:=hS.constraints;omega,λc hc=>⟨by have:=hS.con c hc;omega,λt ht=>?_⟩⟩;rcases valid_con hV hc with h | h
 ·simp only [plainP,yb,beq_iff_eq] at h;obtain ⟨t1,t2,-⟩:=(rowOK_in (m:=m) h.2).term t ht;omega
 ·simp only [acyP,graphP,yb,beq_iff_eq] at h;have:c.row.terms=[]:=List.length_eq_zero_iff.1 (by omega);rw [this] at ht;simp at ht
def rhoI (m:Model) (s:Swap) (a:Action):Int:=ixP (actB m s a) m.actions 0
def sigI (m:Model) (s:Swap) (i:Nat):Nat:=if (conAt m i).kind=1 then i else (fstP (conB m s i) 0 m.constraints.length).getD 0
def symB (m:Model) (s:Swap):Bool:=(m.actions.all λa=>decide (0≤rhoI m s a))&&allR (λi=>decide ((conAt m i).kind=1)||(fstP (conB m s i) 0 m.constraints.length).isSome) 0 m.constraints.length
theorem symmetric_eq {m s n} (h:Swp m s) (hA:ActS m) (hC:ConS m) (hn:1000000≤n):ref16_symmetric n m s=some (symB m s):=by
 have hal:=hA.len;have hcl:=hC.len;have l2:loopF (ref16_symmetric.l2 n m s) n 0=some (allR (λi=>decide ((conAt m i).kind=1)||(fstP (conB m s i) 0 m.constraints.length).isSome) 0 m.constraints.length):=by
  have:=loopF_all (body:=ref16_symmetric.l2 n m s) (len:=m.constraints.length) (n:=n) (st:=λi=>(i:Int)) (λi=>decide ((conAt m i).kind=1)||(fstP (conB m s i) 0 m.constraints.length).isSome) (some false) (some true) (λrec i hi=>?_) (λrec=>?_) (by omega)
  ·rw [show ((0:Nat):Int)=0 from rfl] at this;rw [this];cases allR (λi=>decide ((conAt m i).kind=1)||(fstP (conB m s i) 0 m.constraints.length).isSome) 0 m.constraints.length <;> simp
  ·simp only [ref16_symmetric.l2,lt_len hi,if_true,moveConstraint_eq h hC hi hn,ya,add64_1 (i:=i) (by omega)];by_cases hk:(conAt m i).kind=1
   ·simp [hk]
   ·simp only [hk,if_false,decide_false,y8];cases fstP (conB m s i) 0 m.constraints.length <;> simp
  ·simp only [ref16_symmetric.l2,ge_len,yf,if_false]
 unfold ref16_symmetric symB;have:=loopF_lall (body:=ref16_symmetric.l1 n m s) (l:=m.actions) (n:=n) (st:=λi=>(i:Int)) (λa=>decide (0≤rhoI m s a)) (some false) (loopF (ref16_symmetric.l2 n m s) n 0) (λrec i hi=>?_) (λrec=>?_) (by omega)
 ·rw [show ((0:Nat):Int)=0 from rfl] at this;rw [this,l2];cases (m.actions.all λa=>decide (0≤rhoI m s a)) <;> simp
 ·simp only [ref16_symmetric.l1,lt_len hi,if_true,moveAction_eq h hA (idx_nat hi) hn,ya,add64_1 (i:=i) (by omega)];have e:ixP (actB m s m.actions[i]) m.actions 0=rhoI m s m.actions[i]:=rfl;rw [e];by_cases hr:0≤rhoI m s m.actions[i]
  ·simp [hr]
  ·simp [hr]
 ·simp only [ref16_symmetric.l1,ge_len,yf,if_false]
structure Sym (m:Model) (s:Swap):Prop where
 small:SmallM m
 valid:ValidM m
 swap:SwapOK m.sorts s
 sym:symB m s=true
def swpB (m:Model) (s:Swap):Bool:=(((decide (0≤s.sort)&&decide (s.sort<(m.sorts.length:Int)))&&decide (0≤s.a))&&decide (s.a<s.b))&&decide (s.b<((idx m.sorts s.sort).getD default))
theorem swpB_ok {m s} (h:swpB m s=true):SwapOK m.sorts s:=by
 simp only [swpB,yb,yd] at h;obtain ⟨⟨⟨⟨h1,h2⟩,h3⟩,h4⟩,h5⟩:=h;have hc:colOK m.sorts s.sort=true:=by simp [colOK,h1,h2]
 rw [idx_col hc,yh] at h5;exact ⟨hc,h3,h4,h5⟩
theorem Swap_eq {m s n} (hn:4294967296≤n) (hS:SmallM m):ref16_Swap n m s=some (validP m&&swpB m s):=by
 unfold ref16_Swap;rw [ref13_Valid_eq hn hS,ya];unfold swpB;by_cases hc:((((validP m&&decide (0≤s.sort))&&decide (s.sort<(m.sorts.length:Int)))&&decide (0≤s.a))&&decide (s.a<s.b))=true
 ·have hc':=hc;simp only [yb,yd] at hc';obtain ⟨⟨⟨⟨h0,h1⟩,h2⟩,h3⟩,h4⟩:=hc';obtain ⟨k,hk⟩:=idx_some h1 h2;rw [hk];simp [h0,h1,h2,h3,h4,grd]
 ·simp only [yD] at hc;rw [hc];simp only [uj,uM,grd,if_true,yT];congr 1;symm;rw [uc] at hc ⊢;cases hv:validP m with
  | false=>exact .inl rfl
  | true=>
   right;rw [hv] at hc;simp only [yB] at hc;rw [uc];left;rw [uc];exact hc
theorem Holds16_eq {m s n} (hn:4294967296≤n) (hS:SmallM m):ref16_Holds n m s=some ((validP m&&swpB m s)&&symB m s):=by
 unfold ref16_Holds;rw [Swap_eq hn hS,ya];cases hc:(validP m&&swpB m s) with
 | false=>simp [grd]
 | true=>
  simp only [yb] at hc;have hV:=validP_iff.1 hc.1;rw [symmetric_eq ⟨swpB_ok hc.2,hV.lay⟩ (actS_of hS hV) (conS_of hS hV) (by omega)];simp [grd]
theorem sym_of {m s} (hS:SmallM m) (h:((validP m&&swpB m s)&&symB m s)=true):Sym m s:=by
 simp only [yb] at h;exact ⟨hS,validP_iff.1 h.1.1,swpB_ok h.1.2,h.2⟩
section
variable {m:Model} {s:Swap} (h:Sym m s)
include h
theorem Sym.swp:Swp m s:=⟨h.swap,h.valid.lay⟩
theorem Sym.rho {a:Action} (ha:a∈m.actions):∃ (k:Nat) (hk:k<m.actions.length),rhoI m s a=(k:Int)∧actB m s a m.actions[k]=true:=by
 have:=h.sym;simp only [symB,yb,yp] at this;have hr:=of_decide_eq_true (this.1 a ha);unfold rhoI at *;rcases ixP_spec (actB m s a) m.actions 0 with ⟨h1,-⟩ | ⟨k,hk,h1,h2,-⟩
 ·omega
 ·exact ⟨k,hk,by rw [h1];simp,h2⟩
theorem Sym.sig {i:Nat} (hi:i<m.constraints.length):sigI m s i<m.constraints.length∧(conAt m (sigI m s i)).kind=(conAt m i).kind∧(((conAt m i).kind=1∧sigI m s i=i)∨((conAt m i).kind=0∧conB m s i (sigI m s i)=true∧∀ x,x<sigI m s i→conB m s i x=false)):=by
 have:=h.sym;simp only [symB,yb] at this;have hc:=allR_0.1 this.2 i hi;have hkind:=(con_ok h.small h.valid (yk hi)).kind;rw [← conAt_eq hi] at hkind;unfold sigI;by_cases hk:(conAt m i).kind=1
 ·rw [if_pos hk];exact ⟨hi,rfl,.inl ⟨hk,rfl⟩⟩
 ·rw [if_neg hk];simp only [hk,decide_false,y8] at hc;obtain ⟨j,hj⟩:=Option.isSome_iff_exists.1 hc;rw [hj,yh];obtain ⟨j1,j2,j3⟩:=fstP_some hj;have j2':=j2;simp only [conB,yb,beq_iff_eq] at j2';exact ⟨by omega,j2'.1.1.1,.inr ⟨by omega,j2,λx hx=>j3 x (yr _) hx⟩⟩
theorem rank_inj {i j:Nat} (hi:i<m.constraints.length) (hj:j<m.constraints.length) (hs:sameC (conAt m i) (conAt m j)=true) (hr:rankP m i=rankP m j):i=j:=by
 have key:∀ {i j:Nat},i<j→j<m.constraints.length→sameC (conAt m i) (conAt m j)=true→rankP m i<rankP m j:=λ{i j} hij hj hs=>by
  have hs':=hs;simp only [sameC,yb,beq_iff_eq,yd] at hs';have hf:sameC (conAt m j)=sameC (conAt m i):=by
   funext d;simp only [sameC,hs'.1.1,hs'.1.2,hs'.2]
  unfold rankP;rw [hf];have hii:i<m.constraints.length:=by omega
  have h1:(m.constraints.take (i+1)).countP (sameC (conAt m i))=(m.constraints.take i).countP (sameC (conAt m i))+1:=by
   rw [yw hii,List.countP_append,List.countP_singleton,← conAt_eq hii];rw [if_pos (by simp [sameC])]
  have h2:(m.constraints.take (i+1)).countP (sameC (conAt m i))≤(m.constraints.take j).countP (sameC (conAt m i)):=by
   have:m.constraints.take (i+1)=(m.constraints.take j).take (i+1):=by rw [List.take_take];congr 1;omega
   rw [this];exact (List.take_sublist _ _).countP_le
  omega
 rcases Nat.lt_trichotomy i j with hlt | e | hlt
 ·have:=key hlt hj hs;omega
 ·exact e
 ·have hs2:sameC (conAt m j) (conAt m i)=true:=by
   simp only [sameC,yb,beq_iff_eq,yd] at hs ⊢;exact ⟨⟨hs.1.1.symm,hs.1.2.symm⟩,hs.2.symm⟩
  have:=key hlt hi hs2;omega
theorem Sym.rowIn {i:Nat} (hi:i<m.constraints.length) (hk:(conAt m i).kind=0):RowIn m (conAt m i).row:=by
 rw [conAt_eq hi] at hk ⊢;exact con_rowIn h.valid (yk hi) hk
theorem Sym.sig_sig {i:Nat} (hi:i<m.constraints.length):sigI m s (sigI m s i)=i:=by
 obtain ⟨i1,i2,i3⟩:=h.sig hi;rcases i3 with ⟨ik,ie⟩ | ⟨ik,ie,-⟩
 ·rw [ie,ie]
 ·obtain ⟨j1,j2,j3⟩:=h.sig i1;rcases j3 with ⟨jk,-⟩ | ⟨jk,je,-⟩
  ·rw [i2] at jk;omega
  ·simp only [conB,yb,beq_iff_eq,yd] at ie je;refine rank_inj h j1 hi ?_ (by omega);simp only [sameC,yb,beq_iff_eq,yd];refine ⟨⟨by omega,by omega⟩,?_⟩;rw [je.1.2,ie.1.2,row_twice h.swp (h.rowIn hi ik)]
end
structure TgtMv (m:Model) (s:Swap) (q p:Question) (a A:Action):Prop where
 hold:p.target.hold=q.target.hold
 con:q.target.hold=false→∃ i:Nat,i<m.constraints.length∧q.target.index=(i:Int)∧p.target.index=((sigI m s i:Nat):Int)
 row:q.target.hold=true→∃ r,idx a.effect.hold q.target.index=some r∧idx A.effect.hold p.target.index=some (rowM m s r)
section
variable {m:Model} {s:Swap} {q p:Question} {a b A B:Action} (h:Sym m s)
include h
end
structure QMv (m:Model) (s:Swap) (q p:Question) (a b:Action):Prop where
 out:∃ (k l:Nat) (hk:k<m.actions.length) (hl:l<m.actions.length),actB m s a m.actions[k]=true∧actB m s b m.actions[l]=true∧(q.e=q.f→k=l)∧TgtMv m s q p a m.actions[k] ∧
  (q.target.hold=true→p.e=(k:Int)∧p.f=(l:Int))∧(q.target.hold=false→p.e≤p.f∧((p.e=(k:Int)∧p.f=(l:Int))∨(p.e=(l:Int)∧p.f=(k:Int))))

structure Pair (m:Model) (s:Swap) (a b A B a' b':Action):Prop where
 ma:a∈m.actions
 mb:b∈m.actions
 mA:A∈m.actions
 mB:B∈m.actions
 aA:actB m s a A=true
 bB:actB m s b B=true
 or:(a'=A∧b'=B)∨(a'=B∧b'=A)
section
variable {n:Nat} {m:Model} {s:Swap} (h:Sym m s) (hn:4294967296≤n)
include h
include hn
end
theorem idx_get {α:Type} {l:List α} {c:Int} (h0:0≤c):idx l c=l[c.toNat]?:=by
 unfold idx;rw [if_pos h0]
section
variable {n:Nat} {m:Model} {s:Swap} (h:Sym m s) (hn:4294967296≤n) {a b A B a' b':Action} (hp:Pair m s a b A B a' b')
include h hp
end
section
variable {n:Nat} {m:Model} {s:Swap} (h:Sym m s) (hn:4294967296≤n) {a b A B a' b':Action} (hp:Pair m s a b A B a' b') {q p:Question} (ht:TgtMv m s q p a A)
include h hn hp
include ht in
end

theorem CompareI_eq {n:Nat} {a b:Int}:cmp_Compare_int n a b=some (if a<b then -1 else if b<a then 1 else 0):=by
 have hN:∀ x,cmp_isNaN_int n x=some false:=λx=>by simp [cmp_isNaN_int]
 unfold cmp_Compare_int
 simp only [hN,ya,yf,if_false,yd]
 split
 ·rfl
 ·split <;> rfl
def hI (q:Question):Int:=if q.target.hold=true then 1 else 0
def cI (a b:Int):Int:=if a<b then -1 else if b<a then 1 else 0
theorem cI_neg {a b:Int}:cI a b<0↔a<b:=by
 unfold cI;split
 ·simp;omega
 ·split
  ·simp;omega
  ·simp;omega
theorem quest_ext {a b:Question} (h1:a.e=b.e) (h2:a.f=b.f) (h3:a.target.hold=b.target.hold) (h4:a.target.index=b.target.index):a=b:=by
 rcases a with ⟨_,_,⟨_,_⟩⟩;rcases b with ⟨_,_,⟨_,_⟩⟩
 simp only at h1 h2 h3 h4
 subst h1 h2 h3 h4;rfl
def tupN (sizes:List Int):List Int→Nat→List Nat
 | [],_=>[]
 | c::cs,r=>tupN sizes cs (r / nK sizes c)++[r % nK sizes c]
theorem tupN_len {sizes:List Int}:∀ {cs:List Int} {r:Nat},(tupN sizes cs r).length=cs.length
 | [],_=>rfl
 | c::cs,r=>by simp [tupN,tupN_len (cs:=cs)]
def castL (l:List Nat):List Int:=l.map λx:Nat=>(x:Int)
theorem step_range {k:Nat} (f:Nat→List Int):∀ w,stepT k ((List.range w).map f)=(List.range (k*w)).map λr=>f (r / k)++[((r % k:Nat):Int)]
 | 0=>by simp [stepT]
 | w+1=>by
  rw [List.range_succ,uf,stepT_append,step_range f w,Nat.mul_succ,List.range_add,uf]
  congr 1
  simp only [stepT,yN,List.map_nil,uz,List.flatMap_nil,uv,uy]
  apply List.map_congr_left
  intro e he
  have he:=ui.1 he
  simp only [Function.comp]
  rw [Nat.mul_add_div (by omega),Nat.mul_add_mod,Nat.div_eq_of_lt he,Nat.mod_eq_of_lt he,ut]
theorem tuples_tup {sizes:List Int}:∀ {rc:List Int},tuplesP sizes rc.reverse=(List.range (wN sizes rc)).map λr=>castL (tupN sizes rc r)
 | []=>by simp [tuplesP,tuplesF,wN,tupN,castL]
 | c::cs=>by
  have ih:=tuples_tup (sizes:=sizes) (rc:=cs)
  unfold tuplesP at ih ⊢
  rw [List.reverse_cons,tuplesF_append,ih]
  simp only [tuplesF]
  rw [show (sizeAt sizes c).toNat=nK sizes c from rfl,step_range,wN]
  apply List.map_congr_left
  intro r _
  simp [castL,tupN]
def fD (sizes:List Int) (s:Swap) (l:List (Int×Nat)):Nat:=l.foldl (λa p=>a*nK sizes p.1+colS s p.1 p.2) 0
theorem fD_snoc {sizes s l p}:fD sizes s (l++[p])=fD sizes s l*nK sizes p.1+colS s p.1 p.2:=by simp [fD]
theorem fD_dig {sizes:List Int} {s:Swap}:∀ {rc:List Int} {r:Nat},fD sizes s (rc.reverse.zip (tupN sizes rc r))=digP sizes s rc r
 | [],_=>by simp [fD,digP]
 | c::cs,r=>by
  rw [List.reverse_cons,tupN,List.zip_append (by simp [tupN_len])]
  simp only [List.zip_cons_cons,List.zip_nil_right]
  rw [fD_snoc,fD_dig,digP,Nat.mul_comm,Nat.add_comm]
theorem tup_lt {sizes:List Int}:∀ {rc:List Int} {r:Nat},r<wN sizes rc→∀ p∈rc.reverse.zip (tupN sizes rc r),p.2<nK sizes p.1
 | [],_,_,p,hp=>by simp at hp
 | c::cs,r,hr,p,hp=>by
  obtain ⟨h0,h1⟩:=dig_pos hr
  rw [List.reverse_cons,tupN,List.zip_append (by simp [tupN_len])] at hp
  rcases yH.1 hp with hp | hp
  ·exact tup_lt h1 p hp
  ·simp only [List.zip_cons_cons,List.zip_nil_right,yK] at hp
   subst hp;exact Nat.mod_lt _ h0
theorem fD_lt {sizes:List Int} {s:Swap} (h:SwapOK sizes s) {l:List (Int×Nat)} (hl:∀ p∈l,p.2<nK sizes p.1∧nK sizes p.1≤6):fD sizes s l<6 ^ l.length:=by
 have key:∀ (l:List (Int×Nat)) (a:Nat),(∀ p∈l,p.2<nK sizes p.1∧nK sizes p.1≤6)→l.foldl (λa p=>a*nK sizes p.1+colS s p.1 p.2) a<(a+1)*6 ^ l.length:=by
  intro l
  induction l with
  | nil=>intro a _;simp
  | cons p l ih=>
   intro a hp
   have hp0:=hp p (by simp)
   have:=ih (a*nK sizes p.1+colS s p.1 p.2) λx hx=>hp x (by simp [hx])
   have hc:=colS_lt h (c:=p.1) hp0.1
   simp only [List.foldl_cons,yP,Nat.pow_succ]
   have e1:a*nK sizes p.1+colS s p.1 p.2+1≤(a+1)*6:=by
    have:a*nK sizes p.1≤a*6:=Nat.mul_le_mul_left _ hp0.2
    omega
   calc _<_:=this
    _≤((a+1)*6)*6 ^ l.length:=ua _ e1
    _=(a+1)*(6 ^ l.length*6):=by rw [Nat.mul_assoc,Nat.mul_comm 6]
 have:=key l 0 hl
 simpa [fD] using this
theorem welement_eq {n:Nat} {L:Layout} {s:Swap} {c x:Int}:symmetry_swapping_element n ⟨L,s⟩ c x=some (if c=s.sort then elemP s x else x):=by
 unfold symmetry_swapping_element elemP
 simp only [bne_iff_ne,beq_iff_eq,ne_eq]
 by_cases h:c=s.sort
 ·rw [if_neg (by simp [h]),if_pos h]
  by_cases h1:x=s.a
  ·rw [if_pos h1,if_pos h1]
  ·rw [if_neg h1,if_neg h1]
   by_cases h2:x=s.b
   ·rw [if_pos h2,if_pos h2]
   ·rw [if_neg h2,if_neg h2]
 ·rw [if_pos (by simpa using h),if_neg h]
theorem wcell_dig {n:Nat} {L:Layout} {s:Swap} {t:Table} {p:Place} {r:Nat} (h:SwapOK L.m.sorts s) (hs:L.m.sorts.all sizeOK=true) (hc:t.columns.all (colOK L.m.sorts)=true) (h3:t.columns.length≤3) (hr:r<wN L.m.sorts t.columns.reverse)
  (hp:p.tuple=castL (tupN L.m.sorts t.columns.reverse r)) (hn:1000000≤n):loopF (symmetry_swapping_cell.l1 n ⟨L,s⟩ t p) n (0,0)=some (add64 t.first ((digP L.m.sorts s t.columns.reverse r:Nat):Int)):=by
 obtain ⟨Z,hZ⟩:∃ Z,Z=t.columns.zip (tupN L.m.sorts t.columns.reverse r):=⟨_,rfl⟩
 have hlen:(tupN L.m.sorts t.columns.reverse r).length=t.columns.length:=by simp [tupN_len]
 have hZl:Z.length=t.columns.length:=by rw [hZ,List.length_zip,hlen];omega
 have hpl:p.tuple.length=t.columns.length:=by rw [hp];simp [castL,tupN_len]
 have hlt:∀ q∈Z,q.2<nK L.m.sorts q.1∧nK L.m.sorts q.1≤6:=λq hq=>by
  refine ⟨tup_lt hr q (by rw [List.reverse_reverse,← hZ];exact hq),?_⟩
  rw [hZ] at hq
  exact (nK_ok hs (yp.1 hc _ (List.of_mem_zip hq).1)).2.2
 have:=loopF_g (body:=symmetry_swapping_cell.l1 n ⟨L,s⟩ t p) (len:=t.columns.length) (st:=λk=>(((fD L.m.sorts s (Z.take k):Nat):Int),(k:Int))) (g:=λ_=>some (add64 t.first ((digP L.m.sorts s t.columns.reverse r:Nat):Int))) (λrec i hi hr'=>?_) (λrec=>?_) n 0 (yr _) (by omega)
 ·simpa [fD] using this
 ·have hZi:i<Z.length:=by omega
  have hcol:=yp.1 hc _ (yk hi)
  have hx:idx p.tuple (i:Int)=some (((Z[i]).2:Nat):Int):=by
   rw [idx_nat (by omega)]
   simp [hp,castL,hZ]
  have hz1:(Z[i]).1=t.columns[i]:=by simp [hZ]
  simp only [symmetry_swapping_cell.l1]
  rw [if_pos (by simp;omega),hx,ya,idx_nat hi,ya,idx_col hcol,ya,ya,welement_eq,ya,add64_1 (by omega)]
  obtain ⟨k1,k2,k3⟩:=nK_ok hs hcol
  have hb:fD L.m.sorts s (Z.take i)<6 ^ 3:=by
   have:=fD_lt h (l:=Z.take i) λq hq=>hlt q (List.mem_of_mem_take hq)
   refine yF this (uL (by decide) (by simp;omega))
  have hxl:=colS_lt h (c:=(Z[i]).1) (hlt _ (yk hZi)).1
  have he:(if t.columns[i]=s.sort then elemP s ((Z[i]).2:Int) else ((Z[i]).2:Int))=((colS s (Z[i]).1 (Z[i]).2:Nat):Int):=by
   rw [hz1,colS]
   split
   ·rw [elem_nat h]
   ·rfl
  rw [he,← k1]
  have hk6:fD L.m.sorts s (Z.take i)*nK L.m.sorts t.columns[i]≤216*6:=uO (by omega) k3
  rw [mul64_sm (by rw [← uh];omega) (by rw [← uh];omega),← uh,add64_nat (by have:=(hlt _ (yk hZi)).2;omega)]
  have e:fD L.m.sorts s (Z.take i)*nK L.m.sorts t.columns[i]+colS s (Z[i]).1 (Z[i]).2=fD L.m.sorts s (Z.take (i+1)):=by
   rw [yw hZi,fD_snoc,hz1]
  rw [e];exact hr'
 ·simp only [symmetry_swapping_cell.l1]
  rw [if_neg (by simp;omega),List.take_of_length_le (by omega),hZ]
  have:=fD_dig (sizes:=L.m.sorts) (s:=s) (rc:=t.columns.reverse) (r:=r)
  rw [List.reverse_reverse] at this
  rw [this]
theorem strict_le {k:Int} (h:0≤k):decide (k≤1)=strictP k:=by
 unfold strictP
 rw [Bool.eq_iff_iff];simp;omega
theorem tab_kind {sizes:List Int} {t:Table} (h:tabP sizes t=true):0≤t.kind:=by
 simp only [tabP,yb,yd] at h
 exact h.1.1.2.1
theorem place_at {sizes:List Int} (hs:sizes.all sizeOK=true) (strict:Bool):∀ {l:List Table} {seen:List (List UInt8)} {a b:Int} (i0:Nat),layP sizes seen a b l=true→0≤a→0≤b→a+216*(l.length:Int)≤1000000→b+216*(l.length:Int)≤1000000 →
  ∀ k,k<(placesP sizes strict l i0).length→∃ (j:Nat) (t:Table) (r:Nat),l[j]? = some t∧strictP t.kind=strict∧r<wN sizes t.columns.reverse∧(placesP sizes strict l i0)[k]? = some ⟨((i0+j:Nat):Int),castL (tupN sizes t.columns.reverse r)⟩∧(if strict=true then a else b)+(k:Int)=t.first+(r:Int)
 | [],_,_,_,_,_,_,_,_,_,k,hk=>by simp [placesP] at hk
 | t::l,seen,a,b,i0,hl,ha,hb,la,lb,k,hk=>by
  have htab:=layP_tab hl t (by simp)
  obtain ⟨t1,t2⟩:=tab_ok htab
  obtain ⟨w1,w2,w3⟩:=width_3 hs t2 t1
  simp only [layP,yb] at hl
  have h3:=hl.2
  simp only [yP] at la lb
  have hcast:((l.length+1:Nat):Int)=(l.length:Int)+1:=by omega
  rw [hcast] at la lb
  obtain ⟨w,hw⟩:∃ w,w=wN sizes t.columns.reverse:=⟨_,rfl⟩
  have hpl:placesP sizes strict (t::l) i0=(if strictP t.kind=strict then placeP i0 ((List.range w).map λr=>castL (tupN sizes t.columns.reverse r)) else [])++placesP sizes strict l (i0+1):=by
   have e:=tuples_tup (sizes:=sizes) (rc:=t.columns.reverse)
   rw [List.reverse_reverse] at e
   rw [placesP,strict_le (tab_kind htab),e,hw]
  rw [hpl] at hk ⊢
  by_cases hkd:strictP t.kind=strict
  ·rw [if_pos hkd] at hk ⊢
   have hfirst:t.first=if strict=true then a else b:=by
    rw [← hkd]
    split at h3 <;> rename_i e
    ·simp only [yb,beq_iff_eq] at h3;rw [if_pos e];exact h3.1
    ·simp only [yb,beq_iff_eq] at h3;rw [if_neg e];exact h3.1
   have hnext:∃ seen' a' b',layP sizes seen' a' b' l=true∧(if strict=true then a' else b')=t.first+(w:Int)∧0≤a'∧0≤b'∧a'+216*(l.length:Int)≤1000000∧b'+216*(l.length:Int)≤1000000:=by
    rw [hfirst]
    split at h3 <;> rename_i e
    ·simp only [yb,beq_iff_eq] at h3
     rw [w1,add64_sm (by omega) (by omega)] at h3
     rw [← hkd,if_pos e]
     exact ⟨_,_,_,h3.2,by rw [if_pos e,hw],by omega,hb,by omega,by omega⟩
    ·simp only [yb,beq_iff_eq] at h3
     rw [w1,add64_sm (by omega) (by omega)] at h3
     rw [← hkd,if_neg e]
     exact ⟨_,_,_,h3.2,by rw [if_neg e,hw],ha,by omega,by omega,by omega⟩
   obtain ⟨seen',a',b',n1,n2,n3,n4,n5,n6⟩:=hnext
   have hlen:(placeP i0 ((List.range w).map λr=>castL (tupN sizes t.columns.reverse r))).length=w:=by simp [placeP]
   rw [yR,hlen] at hk
   by_cases hc:k<w
   ·refine ⟨0,t,k,rfl,hkd,by omega,?_,by rw [hfirst]⟩
    rw [yg (by omega),placeP,uy,yQ,List.getElem?_range hc]
    rfl
   ·obtain ⟨j,u,r,p1,p2,p3,p4,p5⟩:=place_at hs strict (i0+1) n1 n3 n4 n5 n6 (k - w) (by omega)
    refine ⟨j+1,u,r,by simpa using p1,p2,p3,?_,?_⟩
    ·rw [yo (by omega),hlen,p4,show i0+1+j=i0+(j+1) by omega]
    ·rw [n2] at p5;rw [← hfirst];omega
  ·rw [if_neg hkd,ud] at hk ⊢
   have hnext:∃ seen' a' b',layP sizes seen' a' b' l=true∧(if strict=true then a' else b')=(if strict=true then a else b)∧0≤a'∧0≤b'∧a'+216*(l.length:Int)≤1000000∧b'+216*(l.length:Int)≤1000000:=by
    split at h3 <;> rename_i e
    ·simp only [yb,beq_iff_eq] at h3
     rw [w1,add64_sm (by omega) (by omega)] at h3
     have hf:strict=false:=by cases strict <;> simp_all
     subst hf
     exact ⟨_,_,_,h3.2,by simp,by omega,hb,by omega,by omega⟩
    ·simp only [yb,beq_iff_eq] at h3
     rw [w1,add64_sm (by omega) (by omega)] at h3
     have hf:strict=true:=by cases strict <;> simp_all
     subst hf
     exact ⟨_,_,_,h3.2,by simp,ha,by omega,by omega,by omega⟩
   obtain ⟨seen',a',b',n1,n2,n3,n4,n5,n6⟩:=hnext
   obtain ⟨j,u,r,p1,p2,p3,p4,p5⟩:=place_at hs strict (i0+1) n1 n3 n4 n5 n6 k hk
   exact ⟨j+1,u,r,by simpa using p1,p2,p3,by rw [p4,show i0+1+j=i0+(j+1) by omega],by rw [← p5,n2]⟩
theorem places_ranges {sizes:List Int} (hs:sizes.all sizeOK=true) (strict:Bool):∀ {l:List Table} (i0:Nat),(∀ t∈l,tabP sizes t=true)→(placesP sizes strict l i0).length=(rangesP sizes strict l).length
 | [],_,_=>by simp [placesP,rangesP]
 | t::l,i0,ht=>by
  have htab:=ht t (by simp)
  obtain ⟨t1,t2⟩:=tab_ok htab
  obtain ⟨w1,w2,w3⟩:=width_3 hs t2 t1
  have e:=tuples_tup (sizes:=sizes) (rc:=t.columns.reverse)
  rw [List.reverse_reverse] at e
  have ih:=places_ranges hs strict (l:=l) (i0+1) λx hx=>ht x (by simp [hx])
  rw [placesP,rangesP,strict_le (tab_kind htab),e,yR,ih,w1]
  by_cases hk:strictP t.kind=strict
  ·rw [if_pos hk,if_pos (by simpa using hk)];simp [placeP]
  ·rw [if_neg hk,if_neg (by simpa using hk)];simp
theorem strict_len {m:Model} (hL:layoutP m.sorts m.tables=true):(layoutM m).strict.length=(boxM m).length:=by
 obtain ⟨hs,hlay,hl⟩:=lay_big hL
 exact places_ranges hs true 0 (layP_tab hlay)
theorem wcell_eq {m:Model} {s:Swap} {n:Nat} {strict:Bool} {c:Int} (h:Swp m s) (h0:0≤c) (h1:c<((placesP m.sorts strict m.tables 0).length:Int)) (hn:1000000≤n):symmetry_swapping_cell n ⟨layoutM m,s⟩ (placesP m.sorts strict m.tables 0) c=some (mvT m.sorts s strict m.tables c):=by
 obtain ⟨hs,hlay,hl⟩:=lay_big h.lay
 obtain ⟨k,rfl⟩:=yM h0
 obtain ⟨j,t,r,p1,p2,p3,p4,p5⟩:=place_at hs strict 0 hlay (by omega) (by omega) (by omega) (by omega) k (by omega)
 have hz:(if strict=true then (0:Int) else 0)=0:=by cases strict <;> rfl
 rw [hz,Int.zero_add] at p5
 have ht:t∈m.tables:=yu p1
 have htab:=layP_tab hlay t ht
 obtain ⟨t1,t2⟩:=tab_ok htab
 obtain ⟨w1,w2,w3⟩:=width_3 hs t2 t1
 have hf:=lay_first hs hlay (by omega) (by omega) (by omega) (by omega) t ht
 have hd:=dig_lt h.ok _ _ p3
 have hpl:idx (placesP m.sorts strict m.tables 0) ((k:Nat):Int)=some ⟨(j:Int),castL (tupN m.sorts t.columns.reverse r)⟩:=by
  rw [idx_get (by omega),yv,p4,ul]
 have htb:idx m.tables (j:Int)=some t:=by rw [idx_get (by omega),yv,p1]
 unfold symmetry_swapping_cell
 rw [hpl,ya,show (layoutM m).m=m from rfl,htb,ya,ya,wcell_dig (L:=layoutM m) h.ok hs t2 t1 p3 rfl hn,add64_sm (by show -9223372036854775808≤t.first+((digP m.sorts s t.columns.reverse r:Nat):Int);omega) (by show t.first+((digP m.sorts s t.columns.reverse r:Nat):Int)≤9223372036854775807;omega)]
 rw [mvT_at h.ok hs strict hlay (by omega) (by omega) (by omega) (by omega) t ht p2 _ (by omega) (by omega),show ((k:Int) - t.first).toNat=r by omega]
 rfl
theorem wcellC_eq {m:Model} {s:Swap} {n:Nat} {c:Int} (h:Swp m s) (h0:0≤c) (h1:c<((boxM m).length:Int)) (hn:1000000≤n):symmetry_swapping_cell n ⟨layoutM m,s⟩ (layoutM m).strict c=some (mvC m s c):=
 wcell_eq h h0 (by rw [← strict_len h.lay] at h1;exact h1) hn
theorem swapOK_swp {m:Model} {s:Swap} (hV:ValidM m) (h:swpB m s=true):Swp m s:=⟨swpB_ok h,hV.lay⟩
theorem with_eq {n:Nat} {m:Model} {s:Swap} (hF:Fuel n) (hS:SmallM m):symmetry_with n m s=some (if (validP m&&swpB m s)=true then (some ⟨layoutM m,s⟩,true) else (none,false)):=by
 unfold symmetry_with
 rw [symmetry_open_eq hF hS,ya]
 cases hv:validP m with
 | false=>simp [grd]
 | true=>
  have hf:symmetry_layout_fits n (layoutM m) s=some (swpB m s):=by
   unfold symmetry_layout_fits swpB
   rw [show (layoutM m).m=m from rfl]
   by_cases hc:((((decide (0≤s.sort))&&(decide (s.sort<(m.sorts.length:Int))))&&(decide (0≤s.a)))&&(decide (s.a<s.b)))=true
   ·obtain ⟨x,hx⟩:=idx_some (l:=m.sorts) (i:=s.sort) (by simp only [yb,yd] at hc;exact hc.1.1.1) (by simp only [yb,yd] at hc;exact hc.1.1.2)
    rw [hx];simp [grd]
   ·simp only [yD] at hc
    rw [hc];simp [grd]
  simp only [if_true,yS,y8,yh,hf,yj,grd,yB]
  cases swpB m s <;> simp
structure TotC {α:Type} (c:α→α→Int):Prop where
 neg:∀ a b,c b a = -c a b
 zero:∀ a b,c a b=0→a=b
 tr:∀ a b d,c a b<0→c b d<0→c a d<0
theorem lexP_tot {α:Type} {enc:α→List Int} (hi:∀ a b,enc a=enc b→a=b):TotC λa b=>lexP (enc a) (enc b):=
 ⟨λa b=>lex_neg _ _,λa b h=>hi _ _ (lex_zero h),λa b d h1 h2=>lex_trans h1 h2⟩
theorem sort_tot {α:Type} {f:α→α→Option Int} {c:α→α→Int} {l:List α} (T:TotC c) (h1:∀ x∈l,∀ y∈l,f x y=some (c x y)) (hl:l.length<4611686018427387904):∃ r,sortO f l=some r∧r.Perm l∧r.Pairwise λx y=>c x y≤0:=by
 obtain ⟨s1,s2⟩:=sortO_of (c:=c) h1 (λx=>by have:=T.neg x x;omega) T.tr (λx y z n1 n2 n3=>by
  have a1:=T.neg x y
  have a2:=T.neg y z
  have a3:=T.neg x z
  by_cases e1:c x y=0
  ·rw [T.zero _ _ e1] at n3;exact n2 n3
  ·by_cases e2:c y z=0
   ·rw [← T.zero _ _ e2] at n3;exact n1 n3
   ·have:=T.tr z y x (by omega) (by omega)
    have a4:=T.neg z x
    omega) hl
 refine ⟨_,s1,sortF_perm s2,?_⟩
 have hp:=sortF_perm s2
 refine List.Pairwise.imp_of_mem (λ{x y} hx hy hxy=>?_) (sortF_sorted s2)
 have:=h1 y (hp.mem_iff.1 hy) x (hp.mem_iff.1 hx)
 rw [this,yh] at hxy
 have:=T.neg x y
 omega
theorem sorted_iff {α:Type} {c:α→α→Int} {A B rA rB:List α} (T:TotC c) (a1:rA.Perm A) (a2:rA.Pairwise λx y=>c x y≤0) (b1:rB.Perm B) (b2:rB.Pairwise λx y=>c x y≤0):rA=rB↔A.Perm B:=
 ⟨λe=>a1.symm.trans (e▸b1),λhp=>perm_uniq (R:=λx y=>c x y≤0) (λx y h1 h2=>T.zero _ _ (by have:=T.neg x y;omega)) ((a1.trans hp).trans b1.symm) a2 b2⟩
theorem cI_sort {α:Type} {f:α→α→Option Int} {k:α→Int} {l:List α} (h1:∀ x∈l,∀ y∈l,f x y=some (cI (k x) (k y))) (hl:l.length<4611686018427387904):∃ r,sortO f l=some r∧r.Perm l∧r.Pairwise λx y=>k x≤k y:=by
 have hneg:∀ {a b:Int},¬ cI a b<0↔b≤a:=λ{a b}=>by rw [cI_neg];omega
 obtain ⟨s1,s2⟩:=sortO_of (c:=λx y=>cI (k x) (k y)) h1 (λx=>by rw [hneg];omega) (λx y z p q=>by rw [cI_neg] at *;omega) (λx y z p q=>by rw [hneg] at *;omega) hl
 have hp:=sortF_perm s2
 refine ⟨_,s1,hp,?_⟩
 refine List.Pairwise.imp_of_mem (λ{x y} hx hy hxy=>?_) (sortF_sorted s2)
 rw [h1 y (hp.mem_iff.1 hy) x (hp.mem_iff.1 hx),yh] at hxy
 exact hneg.1 hxy
theorem loopF_idx {α R:Type} {body:(List α×Int→Option R)→List α×Int→Option R} {β:Type} {l:List β} {n:Nat} (h:β→α) (fin:Option R)
  (step:∀ rec (b:List α) i (hi:i<l.length),b.length=i→body rec (b,(i:Int))=rec (b++[h l[i]],((i+1:Nat):Int))) (done:∀ rec,body rec (l.map h,(l.length:Int))=fin) (hn:l.length<n) :
  loopF body n ([],0)=fin:=by
 have:=loopF_g (body:=body) (len:=l.length) (st:=λi=>((l.take i).map h,(i:Int))) (g:=λ_=>fin) (λrec i hi hr=>?_) (λrec=>?_) n 0 (yr _) (by omega)
 ·simpa using this
 ·rw [step rec _ i hi (by simp;omega)]
  have e:(l.take i).map h++[h l[i]]=(l.take (i+1)).map h:=by rw [yw hi,uf];rfl
  rw [e];exact hr
 ·rw [List.take_length];exact done rec
theorem wrow_eq {m:Model} {s:Swap} {n:Nat} {r:Row} (h:Swp m s) (hr:RowIn m r) (hl:r.terms.length≤100000) (hn:1000000≤n):symmetry_swapping_row n ⟨layoutM m,s⟩ r=some (rowM m s r):=by
 unfold symmetry_swapping_row
 refine loopF_idx (l:=r.terms) (mvt m s) _ (λrec b i hi hb=>?_) (λrec=>?_) (by omega)
 ·obtain ⟨t1,t2,-⟩:=hr.term _ (yk hi)
  simp only [symmetry_swapping_row.l1,lt_len hi,if_true,idx_nat hi,ya,wcellC_eq h t1 t2 hn]
  rw [app_some (by simp;omega),ya,add64_1 (by omega)]
  rfl
 ·simp only [symmetry_swapping_row.l1,ge_len,yf,if_false]
  obtain ⟨q,s1,s2,s3⟩:=cI_sort (f:=λq0 q1=>symmetry_swapping_row_1 n q0 q1) (k:=λt:Term=>t.cell) (l:=r.terms.map (mvt m s)) (λx _ y _=>by unfold symmetry_swapping_row_1;rw [CompareI_eq];rfl) (by simp;omega)
  rw [s1,ya]
  have hne:q.Pairwise λa b:Term=>a.cell≠b.cell:=(s2.pairwise_iff (λ{a b} hab=>Ne.symm hab)).2 (mvt_pair h hr.ris hr.term)
  have e:q=(rowM m s r).terms:=ris_uniq (s2.trans (rowM_perm m s r).symm) (s3.imp₂ (λa b h1 h2=>by omega) hne) (RowIn.mv h hr).ris
  rw [e];rfl
def encT (t:Term):List Int:=[t.cell,t.factor]
def listT (l:List Term):List Int:=l.flatMap encT
def encR (r:Row):List Int:=r.bound::listT r.terms
def encU (u:Update):List Int:=[u.cell,u.kind,u.value]
theorem listT_inj:∀ {a b:List Term},listT a=listT b→a=b
 | [],[],_=>rfl
 | [],_::_,h=>by simp [listT,encT] at h
 | _::_,[],h=>by simp [listT,encT] at h
 | x::a,y::b,h=>by
  simp only [listT,encT,uz,ub,ud,List.cons.injEq] at h
  obtain ⟨h1,h2,h3⟩:=h
  have ih:=listT_inj (a:=a) (b:=b) h3
  cases x;cases y;simp_all
theorem encR_inj {a b:Row} (h:encR a=encR b):a=b:=by
 simp only [encR,List.cons.injEq] at h
 have:=listT_inj h.2
 cases a;cases b;simp_all
theorem encU_inj {a b:Update} (h:encU a=encU b):a=b:=by
 simp only [encU,List.cons.injEq] at h
 cases a;cases b;simp_all
theorem totR:TotC λa b:Row=>lexP (encR a) (encR b):=lexP_tot λ_ _=>encR_inj
theorem totU:TotC λa b:Update=>lexP (encU a) (encU b):=lexP_tot λ_ _=>encU_inj
theorem order1_eq {n:Nat} {a b:Term} (hn:1000000≤n):symmetry_order_1 n a b=some (lexP (encT a) (encT b)):=by
 unfold symmetry_order_1
 rw [Compare_int_eq,ya,Compare_int_eq,ya,Or_eq _ _ hn,ya]
 simp only [encT,lexP,cmpI]
 congr 1
 split <;> split <;> (try split) <;> simp_all
theorem lexP_pair {x y:Term} {a b:List Int}:lexP (encT x++a) (encT y++b)=if lexP (encT x) (encT y)≠0 then lexP (encT x) (encT y) else lexP a b:=by
 simp only [encT,lexP,ub,ud]
 repeat' split
 all_goals first | rfl | simp_all
theorem CompareT_eq {n:Nat} {a b:List Term} (ha:a.length<1000000) (hn:1000000≤n):slices_CompareFunc_LTerm_LTerm_api_Term_api_Term n a b (λq0 q1=>symmetry_order_1 n q0 q1)=some (lexP (listT a) (listT b)):=by
 unfold slices_CompareFunc_LTerm_LTerm_api_Term_api_Term
 have:=loopF_I (σ:=Unit) (body:=slices_CompareFunc_LTerm_LTerm_api_Term_api_Term.l1 n a b (λq0 q1=>symmetry_order_1 n q0 q1)) (len:=a.length) (st:=λ_ i=>(i:Int)) (g:=λi _=>some (lexP (listT (a.drop i)) (listT (b.drop i)))) (λi _=>i≤b.length) (λrec i s hi hI hr=>?_) (λrec s hI=>?_) n 0 () (yr _) (by omega) (yr _)
 ·simpa using this
 ·simp only [slices_CompareFunc_LTerm_LTerm_api_Term_api_Term.l1,lt_len hi,if_true,idx_nat hi,ya]
  by_cases hb:b.length≤i
  ·have e:b.drop i=[]:=List.drop_eq_nil_of_le hb
   rw [if_pos (by simp;omega),e,drop_cons hi];rfl
  ·have hib:i<b.length:=by omega
   rw [if_neg (by simp;omega),idx_nat hib,ya,order1_eq hn,ya,add64_1 (by omega),hr () (by omega),drop_cons hi,drop_cons hib]
   simp only [listT,uz,lexP_pair,bne_iff_ne]
   split <;> rfl
 ·simp only [slices_CompareFunc_LTerm_LTerm_api_Term_api_Term.l1,ge_len,yf,if_false]
  rw [List.drop_length]
  by_cases hb:a.length<b.length
  ·rw [if_pos (by simp;omega),drop_cons hb];rfl
  ·rw [if_neg (by simp;omega),List.drop_eq_nil_of_le (by omega)];rfl
theorem order_eq {n:Nat} {a b:Row} (ha:a.terms.length<1000000) (hn:1000000≤n):symmetry_order n a b=some (lexP (encR a) (encR b)):=by
 unfold symmetry_order
 rw [Compare_int_eq,ya,CompareT_eq ha hn,ya,Or_eq _ _ hn,ya]
 simp only [encR,lexP,cmpI]
 congr 1
 split <;> (try split) <;> simp_all
theorem Or3_eq {n:Nat} (hn:10≤n) {a b c:Int}:cmp_Or_int n [a,b,c]=some (if a≠0 then a else if b≠0 then b else c):=by
 obtain ⟨k,rfl⟩:∃ k,n=k+4:=⟨n - 4,by omega⟩
 have e1:add64 0 1=1:=by decide
 have e2:add64 1 1=2:=by decide
 have e3:add64 2 1=3:=by decide
 simp only [cmp_Or_int,loopF,cmp_Or_int.l1,idx,e1,e2,e3]
 by_cases ha:a=0 <;> by_cases hb:b=0 <;> by_cases hc:c=0 <;> simp [ha,hb,hc]
theorem sorted1_eq {n:Nat} {a b:Update} (hn:1000000≤n):symmetry_sorted_1 n a b=some (lexP (encU a) (encU b)):=by
 unfold symmetry_sorted_1
 rw [Compare_int_eq,ya,Compare_int_eq,ya,Compare_int_eq,ya,Or3_eq (by omega),ya]
 simp only [encU,lexP,cmpI]
 congr 1
 repeat' split
 all_goals first | rfl | (simp_all;done) | omega
theorem EqualChange_eq {n:Nat} {a b:List Change} (hl:a.length<1000000) (hn:1000000≤n):slices_Equal_LChange_api_Change n a b=some (decide (a=b)):=by
 unfold slices_Equal_LChange_api_Change
 by_cases h:a.length=b.length
 ·rw [if_neg (by simp [h])]
  have:=loopF_g (body:=slices_Equal_LChange_api_Change.l1 n a b) (len:=a.length) (st:=λi=>(i:Int)) (g:=λi=>some (decide (a.drop i=b.drop i))) (λrec i hi hr=>?_) (λrec=>?_) n 0 (yr _) (by omega)
  ·simpa using this
  ·have hib:i<b.length:=by omega
   simp only [slices_Equal_LChange_api_Change.l1,lt_len hi,if_true,idx_nat hi,idx_nat hib,ya,add64_1 (i:=i) (by omega),hr]
   rw [drop_cons hi,drop_cons hib]
   by_cases e:a[i]=b[i]
   ·simp only [e,decide_true,yS,yf,if_false,List.cons.injEq,true_and]
   ·simp only [e,decide_false,uj,if_true,List.cons.injEq,false_and]
  ·simp [slices_Equal_LChange_api_Change.l1,h]
 ·rw [if_pos (by simp;omega)]
  have:¬ a=b:=λe=>h (by rw [e])
  simp [this]
theorem EqualUpdate_eq {n:Nat} {a b:List Update} (hl:a.length<1000000) (hn:1000000≤n):slices_Equal_LUpdate_api_Update n a b=some (decide (a=b)):=by
 unfold slices_Equal_LUpdate_api_Update
 by_cases h:a.length=b.length
 ·rw [if_neg (by simp [h])]
  have:=loopF_g (body:=slices_Equal_LUpdate_api_Update.l1 n a b) (len:=a.length) (st:=λi=>(i:Int)) (g:=λi=>some (decide (a.drop i=b.drop i))) (λrec i hi hr=>?_) (λrec=>?_) n 0 (yr _) (by omega)
  ·simpa using this
  ·have hib:i<b.length:=by omega
   simp only [slices_Equal_LUpdate_api_Update.l1,lt_len hi,if_true,idx_nat hi,idx_nat hib,ya,add64_1 (i:=i) (by omega),hr]
   rw [drop_cons hi,drop_cons hib]
   by_cases e:a[i]=b[i]
   ·simp only [e,decide_true,yS,yf,if_false,List.cons.injEq,true_and]
   ·simp only [e,decide_false,uj,if_true,List.cons.injEq,false_and]
  ·simp [slices_Equal_LUpdate_api_Update.l1,h]
 ·rw [if_pos (by simp;omega)]
  have:¬ a=b:=λe=>h (by rw [e])
  simp [this]
theorem wsame_eq {n:Nat} {a b:Row} (hl:a.terms.length<1000000) (hn:1000000≤n):symmetry_same n a b=some (decide (a=b)):=by
 unfold symmetry_same
 rw [EqualTerm_eq hl hn]
 simp only [yj,yC,grd,if_true,yh]
 congr 1
 cases a;cases b
 rw [Bool.eq_iff_iff]
 simp only [Row.mk.injEq,yb,beq_iff_eq,yd]
 exact ⟨λh=>⟨h.2,h.1⟩,λh=>⟨h.2,h.1⟩⟩
theorem EqualRow_eq {n:Nat} {a b:List Row} (hl:a.length<1000000) (ht:∀ r∈a,r.terms.length<1000000) (hn:1000000≤n):slices_EqualFunc_LRow_LRow_api_Row_api_Row n a b (λq0 q1=>symmetry_same n q0 q1)=some (decide (a=b)):=by
 unfold slices_EqualFunc_LRow_LRow_api_Row_api_Row
 by_cases h:a.length=b.length
 ·rw [if_neg (by simp [h])]
  have:=loopF_g (body:=slices_EqualFunc_LRow_LRow_api_Row_api_Row.l1 n a b (λq0 q1=>symmetry_same n q0 q1)) (len:=a.length) (st:=λi=>(i:Int)) (g:=λi=>some (decide (a.drop i=b.drop i))) (λrec i hi hr=>?_) (λrec=>?_) n 0 (yr _) (by omega)
  ·simpa using this
  ·have hib:i<b.length:=by omega
   simp only [slices_EqualFunc_LRow_LRow_api_Row_api_Row.l1,lt_len hi,if_true,idx_nat hi,idx_nat hib,ya,add64_1 (i:=i) (by omega),hr,wsame_eq (ht _ (yk hi)) hn]
   rw [drop_cons hi,drop_cons hib]
   by_cases e:a[i]=b[i]
   ·simp only [e,decide_true,yS,yf,if_false,List.cons.injEq,true_and]
   ·simp only [e,decide_false,uj,if_true,List.cons.injEq,false_and]
  ·simp [slices_EqualFunc_LRow_LRow_api_Row_api_Row.l1,h]
 ·rw [if_pos (by simp;omega)]
  have:¬ a=b:=λe=>h (by rw [e])
  simp [this]
structure EffZ (e:Effect):Prop where
 hold:e.hold.length≤1000
 upd:e.updates.length≤1000
 delta:e.delta.length≤1000
 term:∀ r∈e.hold,r.terms.length≤1000
theorem sorted_told {n:Nat} {e:Effect} (h:EffZ e) (hn:1000000≤n):∃ H U,symmetry_sorted n e=some ⟨e.delta,H,U⟩∧(H.Perm e.hold∧H.Pairwise λx y=>lexP (encR x) (encR y)≤0)∧(U.Perm e.updates∧U.Pairwise λx y=>lexP (encU x) (encU y)≤0):=by
 have h1:=h.hold
 have h2:=h.upd
 unfold symmetry_sorted
 rw [app_some (by simp;omega),ya,app_some (by simp;omega),ya,ud,ud]
 obtain ⟨H,a1,a2,a3⟩:=sort_tot (f:=λq0 q1=>symmetry_order n q0 q1) totR (λx hx y _=>order_eq (by have:=h.term x hx;omega) hn) (by omega:e.hold.length<4611686018427387904)
 obtain ⟨U,b1,b2,b3⟩:=sort_tot (f:=λq0 q1=>symmetry_sorted_1 n q0 q1) totU (λx _ y _=>sorted1_eq hn) (by omega:e.updates.length<4611686018427387904)
 rw [a1,ya,b1,ya]
 exact ⟨H,U,rfl,⟨a2,a3⟩,b2,b3⟩
theorem walike_told {n:Nat} {e f:Effect} (he:EffZ e) (hf:EffZ f) (hn:1000000≤n):∃ b,symmetry_alike n e f=some b∧(b=true↔e.delta=f.delta∧e.hold.Perm f.hold∧e.updates.Perm f.updates):=by
 obtain ⟨H,U,e1,⟨e2,e3⟩,e4,e5⟩:=sorted_told he hn
 obtain ⟨H',U',f1,⟨f2,f3⟩,f4,f5⟩:=sorted_told hf hn
 have l1:=e2.length_eq
 have l2:=e4.length_eq
 have:=he.hold
 have:=he.upd
 have:=he.delta
 unfold symmetry_alike
 rw [e1,ya,f1,ya,EqualChange_eq (by show e.delta.length<1000000;omega) hn,ya,EqualRow_eq (by show H.length<1000000;omega) (λr hr=>by have:=he.term r (e2.mem_iff.1 hr);omega) hn,EqualUpdate_eq (by show U.length<1000000;omega) hn]
 simp only [yj,yC,grd,if_true,yh]
 refine ⟨_,rfl,?_⟩
 simp only [yb,yd,sorted_iff totR e2 e3 f2 f3,sorted_iff totU e4 e5 f4 f5,and_assoc]
def Rng (m:Model):Prop:=∀ a∈m.actions,∀ u∈a.effect.updates,-9223372036854775808≤u.cell∧u.cell≤9223372036854775807
theorem lay_room {sizes:List Int} (hs:sizes.all sizeOK=true) (strict:Bool):∀ {l:List Table} {seen:List (List UInt8)} {a b:Int},layP sizes seen a b l=true→0≤a→0≤b→a+216*(l.length:Int)≤1000000→b+216*(l.length:Int)≤1000000 →
  ∀ t∈l,strictP t.kind=strict→t.first+widthP sizes t.columns 1≤(if strict=true then a else b)+((rangesP sizes strict l).length:Int)
 | [],_,_,_,_,_,_,_,_,t,ht,_=>by simp at ht
 | x::l,seen,a,b,hl,ha,hb,la,lb,t,ht,hk=>by
  obtain ⟨t1,t2⟩:=tab_ok (layP_tab hl x (by simp))
  obtain ⟨w1,w2,w3⟩:=width_3 hs t2 t1
  simp only [layP,yb] at hl
  have h3:=hl.2
  simp only [yP] at la lb
  have hcast:((l.length+1:Nat):Int)=(l.length:Int)+1:=by omega
  rw [hcast] at la lb
  have hlen:(rangesP sizes strict (x::l)).length=(if strictP x.kind=strict then wN sizes x.columns.reverse else 0)+(rangesP sizes strict l).length:=by
   by_cases e:strictP x.kind=strict
   ·rw [rangesP,if_pos (by simp [e]),if_pos e,w1];simp
   ·rw [rangesP,if_neg (by simp [e]),if_neg e];simp
  rw [hlen]
  by_cases hx:strictP x.kind=true
  ·rw [if_pos hx] at h3
   simp only [yb,beq_iff_eq] at h3
   rw [w1,add64_sm (by omega) (by omega)] at h3
   rw [hx]
   rcases yE.1 ht with rfl | ht
   ·rw [hx] at hk;subst hk
    simp only [if_true]
    omega
   ·have ih:=lay_room hs strict h3.2 (by omega) hb (by omega) (by omega) t ht hk
    cases strict with
    | true=>simp only [if_true] at ih ⊢;omega
    | false=>simp only [yf,Bool.true_eq_false,if_false] at ih ⊢;omega
  ·rw [if_neg hx] at h3
   simp only [yb,beq_iff_eq] at h3
   rw [w1,add64_sm (by omega) (by omega)] at h3
   have hx':strictP x.kind=false:=by simpa using hx
   rw [hx']
   rcases yE.1 ht with rfl | ht
   ·rw [hx'] at hk;subst hk
    simp only [yf,if_false,if_true]
    omega
   ·have ih:=lay_room hs strict h3.2 ha (by omega) (by omega) (by omega) t ht hk
    cases strict with
    | true=>simp only [yf,if_true,if_false] at ih ⊢;omega
    | false=>simp only [yf,if_true,if_false] at ih ⊢;omega
theorem res_hit {sizes:List Int} {s:Bool} {c:Int}:∀ {l:List Table} {i:Nat},(resT sizes s c l i).2.2=true→∃ t∈l,hitP sizes s c t=true
 | [],_,h=>by simp [resT] at h
 | t::l,i,h=>by
  by_cases e:hitP sizes s c t=true
  ·exact ⟨t,by simp,e⟩
  ·rw [resT,if_neg e] at h
   obtain ⟨u,h1,h2⟩:=res_hit h
   exact ⟨u,by simp [h1],h2⟩
theorem upds_all {m:Model}:∀ {l:List Update} {last:Int},updsP m last l=true→∀ u∈l,updP m u=true
 | [],_,_,u,hu=>by simp at hu
 | x::l,last,h,u,hu=>by
  simp only [updsP,yb] at h
  rcases yE.1 hu with rfl | hu
  ·exact h.1.2
  ·exact upds_all h.2 u hu
def RoomU (m:Model) (c:Int):Prop:=0≤c∧c<((rangesP m.sorts false m.tables).length:Int)
theorem upd_room {m:Model} (hV:ValidM m) (hR:Rng m) {a:Action} (ha:a∈m.actions):∀ u∈a.effect.updates,RoomU m u.cell:=λu hu=>by
 have h:=(valid_act hV ha).1
 simp only [effP,yb] at h
 have hu2:=upds_all h.2.1 u hu
 simp only [updP,yb] at hu2
 have hc:=hu2.1
 unfold cellP at hc
 by_cases hx:(layoutP m.sorts m.tables&&decide (0≤u.cell))=true
 ·rw [if_pos hx] at hc
  simp only [yb,yd] at hx
  obtain ⟨t,ht,hh⟩:=res_hit hc
  obtain ⟨hs,hlay,hl⟩:=lay_big hx.1
  obtain ⟨f1,f2,-⟩:=lay_first hs hlay (Int.le_refl _) (Int.le_refl _) (by omega) (by omega) t ht
  simp only [hitP,yb,beq_iff_eq,yd] at hh
  have hr:=lay_room hs false hlay (Int.le_refl _) (Int.le_refl _) (by omega) (by omega) t ht hh.1
  obtain ⟨r1,r2⟩:=hR a ha u hu
  rw [sub64_sm (by omega) (by omega)] at hh
  simp only [yf,if_false] at hr
  exact ⟨hx.2,by omega⟩
 ·rw [if_neg hx] at hc;simp at hc
theorem room_small {m:Model} (hL:layoutP m.sorts m.tables=true) {c:Int} (h:RoomU m c):c≤2592:=by
 obtain ⟨l1,l2,l3,l4⟩:=layoutP_tab hL
 have:=rangesP_len (sizes:=m.sorts) (s:=false) (l:=m.tables) λt ht=>(l4 t ht).2.2.2.2
 have:=h.2
 omega
def mvU (m:Model) (s:Swap) (c:Int):Int:=mvT m.sorts s false m.tables c
theorem mvU_ok {m s} (h:Swp m s) {c:Int} (hc:RoomU m c):RoomU m (mvU m s c)∧mvU m s (mvU m s c)=c:=by
 obtain ⟨hs,hlay,hl⟩:=lay_big h.lay
 obtain ⟨h0,h1⟩:=hc
 have:=mvT_main h.ok hs false hlay (Int.le_refl _) (Int.le_refl _) (by omega) (by omega) c (by simpa using h0) (by simpa using h1)
 simp only [yf,if_false,Int.zero_add] at this
 exact ⟨this.1,this.2.1⟩
theorem mvU_S {m s} (h:Swp m s) {c:Int} (hc:RoomU m c):mvS m.sorts s false m.tables c=mvU m s c:=by
 have:=room_small h.lay hc
 have:=hc.1
 obtain ⟨hs,hlay,hl⟩:=lay_big h.lay
 exact mvS_eq (by omega) λt ht=>by
  have:=lay_first hs hlay (Int.le_refl _) (Int.le_refl _) (by omega) (by omega) t ht
  exact ⟨this.1,this.2.1⟩
def updM (m:Model) (s:Swap) (u:Update):Update:=⟨u.kind,mvU m s u.cell,u.value⟩
def chgM (m:Model) (s:Swap) (d:Change):Change:=⟨mvC m s d.cell,d.add⟩
theorem updM_inj {m s} (h:Swp m s) {u v:Update} (hu:RoomU m u.cell) (hv:RoomU m v.cell) (e:updM m s u=updM m s v):u=v:=by
 have e1:=congrArg Update.kind e
 have e2:=congrArg Update.cell e
 have e3:=congrArg Update.value e
 simp only [updM] at e1 e2 e3
 have:u.cell=v.cell:=by rw [← (mvU_ok h hu).2,e2,(mvU_ok h hv).2]
 cases u;cases v;simp_all
theorem wcellU_eq {m:Model} {s:Swap} {n:Nat} {c:Int} (h:Swp m s) (hc:RoomU m c) (hn:1000000≤n):symmetry_swapping_cell n ⟨layoutM m,s⟩ (layoutM m).merged c=some (mvU m s c):=by
 obtain ⟨hs,hlay,hl⟩:=lay_big h.lay
 exact wcell_eq (strict:=false) h hc.1 (by have:=places_ranges hs false 0 (layP_tab hlay);have:=hc.2;omega) hn
theorem weffect_told {m s n} {e:Effect} (h:Swp m s) (he:EffIn m e) (hz:EffZ e) (hu:∀ u∈e.updates,RoomU m u.cell) (hn:1000000≤n):∃ D,symmetry_swapping_effect n ⟨layoutM m,s⟩ e=some ⟨D,e.hold.map (rowM m s),e.updates.map (updM m s)⟩∧D.Perm (e.delta.map (chgM m s))∧D.Pairwise λx y=>x.cell≤y.cell:=by
 have z1:=hz.delta
 have z2:=hz.hold
 have z3:=hz.upd
 obtain ⟨D,s1,s2,s3⟩:=cI_sort (f:=λq0 q1=>symmetry_swapping_effect_1 n q0 q1) (k:=λt:Change=>t.cell) (l:=e.delta.map (chgM m s)) (λx _ y _=>by unfold symmetry_swapping_effect_1;rw [CompareI_eq];rfl) (by simp;omega)
 refine ⟨D,?_,s2,s3⟩
 unfold symmetry_swapping_effect
 refine loopF_idx (l:=e.delta) (chgM m s) _ (λrec b i hi hb=>?_) (λrec=>?_) (by omega)
 ·obtain ⟨c1,c2⟩:=he.cell _ (yk hi)
  simp only [symmetry_swapping_effect.l1,lt_len hi,if_true,idx_nat hi,ya,wcellC_eq h c1 c2 hn]
  rw [app_some (by simp;omega),ya,add64_1 (by omega)]
  rfl
 ·simp only [symmetry_swapping_effect.l1,ge_len,yf,if_false]
  rw [s1,ya]
  refine loopF_idx (l:=e.hold) (rowM m s) _ (λrec b i hi hb=>?_) (λrec=>?_) (by omega)
  ·have hr:=he.hold _ (yk hi)
   have ht:=hz.term _ (yk hi)
   simp only [symmetry_swapping_effect.l2,lt_len hi,if_true,idx_nat hi,ya,wrow_eq h hr (by omega) hn]
   rw [app_some (by simp;omega),ya,add64_1 (by omega)]
  ·simp only [symmetry_swapping_effect.l2,ge_len,yf,if_false]
   refine loopF_idx (l:=e.updates) (updM m s) _ (λrec b i hi hb=>?_) (λrec=>?_) (by omega)
   ·have hr:=hu _ (yk hi)
    simp only [symmetry_swapping_effect.l3,lt_len hi,if_true,idx_nat hi,ya,wcellU_eq h hr hn]
    rw [app_some (by simp;omega),ya,add64_1 (by omega)]
    rfl
   ·simp only [symmetry_swapping_effect.l3,ge_len,yf,if_false]
theorem delta_ris {K:Nat}:∀ {l:List Change} {last:Int},deltaP K last l=true→(l.Pairwise λa b=>a.cell<b.cell)∧∀ d∈l,last<d.cell
 | [],_,_=>⟨by simp,by simp⟩
 | x::l,last,h=>by
  simp only [deltaP,yb,yd] at h
  obtain ⟨i1,i2⟩:=delta_ris h.2
  refine ⟨uo.2 ⟨i2,i1⟩,λd hd=>?_⟩
  rcases yE.1 hd with rfl | hd
  ·exact h.1.1.1.1
  ·have:=i2 d hd;have:=h.1.1.1.1;omega
structure EffV (m:Model) (e:Effect):Prop where
 inn:EffIn m e
 sz:EffZ e
 room:∀ u∈e.updates,RoomU m u.cell
 ris:e.delta.Pairwise λa b=>a.cell<b.cell
theorem effV_of {m:Model} (hS:SmallM m) (hV:ValidM m) (hR:Rng m) {a:Action} (ha:a∈m.actions):EffV m a.effect:=by
 obtain ⟨-,d,ho,u,ht⟩:=hS.act a ha
 have h:=(valid_act hV ha).1
 simp only [effP,yb] at h
 exact ⟨eff_in hV ha,⟨by omega,by omega,by omega,λr hr=>by have:=ht r hr;omega⟩,upd_room hV hR ha,(delta_ris h.1).1⟩
theorem nd_chg {m s} (h:Swp m s) {e:Effect} (he:EffV m e):(e.delta.map (chgM m s)).Pairwise λa b=>a.cell≠b.cell:=by
 rw [List.pairwise_map]
 refine List.Pairwise.imp_of_mem (λ{a b} ha hb hab e2=>?_) he.ris
 obtain ⟨a1,a2⟩:=he.inn.cell a ha
 obtain ⟨b1,b2⟩:=he.inn.cell b hb
 have:=mv_inj h a1 a2 b1 b2 e2
 omega
theorem alike_iff {m s} {e f:Effect} (h:Swp m s) (he:EffV m e) (hf:EffV m f) {D:List Change} (d1:D.Perm (e.delta.map (chgM m s))) (d2:D.Pairwise λx y=>x.cell≤y.cell) :
  alikeB m s e f=true↔f.delta=D∧f.hold.Perm (e.hold.map (rowM m s))∧f.updates.Perm (e.updates.map (updM m s)):=by
 have hupd:updB m s e f=true↔∀ u∈e.updates,e.updates.count u=f.updates.count (updM m s u):=by
  simp only [updB,yp,yd]
  refine forall_congr' λu=>forall_congr' λhu=>?_
  rw [mvU_S h (he.room u hu)];rfl
 have hcu:∀ u∈e.updates,(e.updates.map (updM m s)).count (updM m s u)=e.updates.count u:=λu hu=>count_map λz hz e2=>updM_inj h (he.room z hz) (he.room u hu) e2
 have hcr:∀ u∈e.hold,(e.hold.map (rowM m s)).count (rowM m s u)=e.hold.count u:=λu hu=>count_map λz hz e2=>row_inj h (he.inn.hold z hz) (he.inn.hold u hu) e2
 have hne:D.Pairwise λa b=>a.cell≠b.cell:=(d1.pairwise_iff (λ{a b} hab=>Ne.symm hab)).2 (nd_chg h he)
 have hlt:D.Pairwise λa b=>a.cell<b.cell:=d2.imp₂ (λa b h1 h2=>by omega) hne
 have nd:∀ {l:List Change},(l.Pairwise λa b=>a.cell≠b.cell)→l.Nodup:=λ{l} hp=>hp.imp λ{a b} hab e2=>hab (by rw [e2])
 unfold alikeB
 simp only [yb,yd]
 constructor
 ·rintro ⟨⟨l1,l2,l3⟩,q1,q2,q3⟩
  refine ⟨?_,(hold_mv h he.inn hf.inn l2 q2).symm,?_⟩
  ·have hsub:∀ x∈e.delta.map (chgM m s),x∈f.delta:=λx hx=>by
    obtain ⟨d,hd,rfl⟩:=yV.1 hx
    obtain ⟨g,hg,h2⟩:=un.1 (yp.1 q1 d hd)
    simp only [yb,beq_iff_eq] at h2
    have:g=chgM m s d:=by cases g;simp only at h2;rw [chgM,← h2.1,← h2.2]
    rw [← this];exact hg
   have n1:(e.delta.map (chgM m s)).Nodup:=nd (nd_chg h he)
   have n2:f.delta.Nodup:=nd (hf.ris.imp λ{a b} hab=>by omega)
   have hp:f.delta.Perm (e.delta.map (chgM m s)):=(List.perm_ext_iff_of_nodup n2 n1).2 λx=>⟨λhx=>nodup_all n1 hsub (by simp;omega) x hx,hsub x⟩
   exact perm_uniq (R:=λa b:Change=>a.cell<b.cell) (λa b x y=>by omega) (hp.trans d1.symm) hf.ris hlt
  ·refine (perm_count (λy hy=>?_) (by simp [l3])).symm
   obtain ⟨u,hu,rfl⟩:=yV.1 hy
   rw [hcu u hu]
   exact hupd.1 q3 u hu
 ·rintro ⟨p1,p2,p3⟩
  refine ⟨⟨?_,?_,?_⟩,?_,?_,?_⟩
  ·rw [p1,d1.length_eq];simp
  ·rw [p2.length_eq];simp
  ·rw [p3.length_eq];simp
  ·refine yp.2 λd hd=>un.2 ⟨chgM m s d,?_,by simp [chgM]⟩
   rw [p1,d1.mem_iff]
   exact yV.2 ⟨d,hd,rfl⟩
  ·refine yp.2 λr hr=>decide_eq_true ?_
   rw [p2.count_eq,hcr r hr]
  ·refine hupd.2 λu hu=>?_
   rw [p3.count_eq,hcu u hu]
theorem walike_eq {m s n} {e f:Effect} (h:Swp m s) (he:EffV m e) (hf:EffV m f) (hn:1000000≤n):∃ g,symmetry_swapping_effect n ⟨layoutM m,s⟩ e=some g∧symmetry_alike n f g=some (alikeB m s e f):=by
 obtain ⟨D,w1,w2,w3⟩:=weffect_told h he.inn he.sz he.room hn
 have z1:=he.sz.delta
 have z2:=he.sz.hold
 have z3:=he.sz.upd
 have hg:EffZ ⟨D,e.hold.map (rowM m s),e.updates.map (updM m s)⟩:=by
  refine ⟨by simpa using z2,by simpa using z3,?_,λr hr=>?_⟩
  ·have:=w2.length_eq;simp at this ⊢;omega
  ·obtain ⟨x,hx,rfl⟩:=yV.1 hr
   have:=he.sz.term x hx
   have:=(rowM_perm m s x).length_eq
   simp at this;omega
 obtain ⟨b,b1,b2⟩:=walike_told hf.sz hg hn
 refine ⟨_,w1,?_⟩
 rw [b1]
 congr 1
 rw [Bool.eq_iff_iff,b2,alike_iff h he hf w2 w3]
theorem lessP_irr:∀ a,lessP a a=false
 | []=>rfl
 | x::l=>by rw [lessP,if_pos rfl];exact lessP_irr l
theorem lessP_tr:∀ {a b c:List Int},lessP a b=true→lessP b c=true→lessP a c=true
 | [],[],_,h,_=>by simp [lessP] at h
 | [],_::_,[],_,h=>by simp [lessP] at h
 | [],_::_,_::_,_,_=>rfl
 | _::_,[],_,h,_=>by simp [lessP] at h
 | _::_,_::_,[],_,h=>by simp [lessP] at h
 | x::a,y::b,z::c,h1,h2=>by
  simp only [lessP] at h1 h2 ⊢
  by_cases e1:x=y
  ·subst e1
   rw [if_pos rfl] at h1
   by_cases e2:x=z
   ·rw [if_pos e2] at h2 ⊢;exact lessP_tr h1 h2
   ·rw [if_neg e2] at h2 ⊢;exact h2
  ·rw [if_neg e1,yd] at h1
   by_cases e2:y=z
   ·subst e2;rw [if_neg e1];simpa using h1
   ·rw [if_neg e2,yd] at h2
    rw [if_neg (by omega)];simp;omega
def keyA (a:Action):List Int:=a.operation::a.arguments
theorem ord_key {b a:Action} (h:ordP b a=true):lessP (keyA b) (keyA a)=true:=by
 unfold keyA
 rw [lessP]
 by_cases e:b.operation=a.operation
 ·rw [if_pos e]
  simp only [ordP,yb] at h
  simpa [e] using h.2
 ·rw [if_neg e]
  simp only [ordP,yb,yG,yJ] at h
  rw [yd]
  have:=h.1
  omega
theorem act_next {m:Model} (hV:ValidM m) {j:Nat} (hj:j+1<m.actions.length):lessP (keyA m.actions[j]) (keyA m.actions[j+1])=true:=by
 have h:=hV.acts
 simp only [actsP,yb] at h
 have:=allR_0.1 h.2 (j+1) hj
 simp only [idx_nat hj,yh,actP,yb,yA,yd] at this
 have h2:=this.1.2
 rw [show j+1 - 1=j by omega,idx_nat (show j<m.actions.length by omega),yh] at h2
 rcases h2 with h2 | h2
 ·omega
 ·exact ord_key h2
theorem act_less {m:Model} (hV:ValidM m):∀ (d i:Nat) (h:i+d+1<m.actions.length),lessP (keyA m.actions[i]) (keyA m.actions[i+d+1])=true
 | 0,i,h=>act_next hV h
 | d+1,i,h=>lessP_tr (act_less hV d i (by omega)) (act_next hV (j:=i+d+1) (by omega))
theorem act_inj {m:Model} (hV:ValidM m) {i j:Nat} (hi:i<m.actions.length) (hj:j<m.actions.length) (e:keyA m.actions[i]=keyA m.actions[j]):i=j:=by
 rcases Nat.lt_trichotomy i j with h | h | h
 ·obtain ⟨d,rfl⟩:∃ d,j=i+d+1:=⟨j - i - 1,by omega⟩
  have:=act_less hV d i hj
  rw [e,lessP_irr] at this;cases this
 ·exact h
 ·obtain ⟨d,rfl⟩:∃ d,i=j+d+1:=⟨i - j - 1,by omega⟩
  have:=act_less hV d j hi
  rw [e,lessP_irr] at this;cases this
theorem idx_range {α:Type} {l:List α} {i:Int} {x:α} (h:idx l i=some x):0≤i∧i<(l.length:Int):=by
 obtain ⟨k,rfl,hk,-⟩:=idxS h
 omega
theorem IndexFuncA_eq {n:Nat} {l:List Action} {f:Action→Option Bool} {p} (hf:∀ x∈l,f x=some (p x)) (hl:l.length<1000000) (hn:1000000≤n):slices_IndexFunc_LAction_api_Action n l f=some (ixP p l 0):=by
 have:=loopF_g (body:=slices_IndexFunc_LAction_api_Action.l1 n l f) (len:=l.length) (st:=λi=>(i:Int)) (g:=λi=>some (ixP p (l.drop i) i)) (λrec i hi hr=>?_) (λrec=>?_) n 0 (yr _) (by omega)
 ·simpa [slices_IndexFunc_LAction_api_Action] using this
 ·simp only [slices_IndexFunc_LAction_api_Action.l1,lt_len hi,if_true,idx_nat hi,ya,hf _ (yk hi),add64_1 (i:=i) (by omega),hr]
  rw [drop_cons hi]
  simp only [ixP]
  split <;> rfl
 ·simp [slices_IndexFunc_LAction_api_Action.l1,ixP]
theorem EqualInt_eq {n:Nat} {a b:List Int} (hl:a.length<1000000) (hn:1000000≤n):slices_Equal_Lint_int n a b=some (decide (a=b)):=by
 unfold slices_Equal_Lint_int
 by_cases h:a.length=b.length
 ·rw [if_neg (by simp [h])]
  have:=loopF_g (body:=slices_Equal_Lint_int.l1 n a b) (len:=a.length) (st:=λi=>(i:Int)) (g:=λi=>some (decide (a.drop i=b.drop i))) (λrec i hi hr=>?_) (λrec=>?_) n 0 (yr _) (by omega)
  ·simpa using this
  ·have hib:i<b.length:=by omega
   simp only [slices_Equal_Lint_int.l1,lt_len hi,if_true,idx_nat hi,idx_nat hib,ya,add64_1 (i:=i) (by omega),hr]
   rw [drop_cons hi,drop_cons hib]
   by_cases e:a[i]=b[i]
   ·simp only [e,uG,yf,if_false,List.cons.injEq,true_and]
   ·simp only [bne_iff_ne,ne_eq,e,not_false_eq_true,if_true,List.cons.injEq,false_and,decide_false]
  ·simp [slices_Equal_Lint_int.l1,h]
 ·rw [if_pos (by simp;omega)]
  have:¬ a=b:=λe=>h (by rw [e])
  simp [this]
def keyB (m:Model) (s:Swap) (a b:Action):Bool:=b.operation==a.operation&&decide (b.arguments=argM s (opAt m a).sorts a.arguments)
theorem actB_key {m s a b}:actB m s a b=(keyB m s a b&&alikeB m s a.effect b.effect):=rfl
theorem act1_eq {m:Model} {s:Swap} {n:Nat} {a b:Action} (hb:b.arguments.length<1000000) (hn:1000000≤n):symmetry_swapping_action_1 n b a (argM s (opAt m a).sorts a.arguments)=some (keyB m s a b):=by
 unfold symmetry_swapping_action_1 keyB
 rw [EqualInt_eq hb hn]
 simp [grd]
theorem key_ix {m:Model} {s:Swap} (hV:ValidM m) {a:Action} {k:Nat} (hk:k<m.actions.length) (h:keyB m s a m.actions[k]=true) {j:Nat} (hj:j<m.actions.length) (h2:keyB m s a m.actions[j]=true):j=k:=by
 simp only [keyB,yb,beq_iff_eq,yd] at h h2
 exact act_inj hV hj hk (by unfold keyA;rw [h.1,h.2,h2.1,h2.2])
theorem waction_eq {m:Model} {s:Swap} {n:Nat} {k:Int} {a:Action} (h:Swp m s) (hS:SmallM m) (hV:ValidM m) (hR:Rng m) (ha:idx m.actions k=some a) (hn:1000000≤n):symmetry_swapping_action n ⟨layoutM m,s⟩ k=ref16_moveAction n m s k:=by
 have hA:=actS_of hS hV
 have ham:=idx_mem ha
 obtain ⟨he,⟨o,ho,hol⟩,hal⟩:=hA.act a ham
 have hml:=hA.len
 have hop:opAt m a=o:=by unfold opAt;rw [ho];rfl
 have hsm:∀ {x},x∈m.actions→x.arguments.length<1000000:=λhx=>by have:=(hS.act _ hx).1;omega
 obtain ⟨k0,k1⟩:=idx_range ha
 rw [moveAction_eq h hA ha hn]
 unfold symmetry_swapping_action
 simp only [show (layoutM m).m=m from rfl]
 rw [if_neg (by simp;omega),ha,ya]
 have hargl:(argM s (opAt m a).sorts a.arguments).length=a.arguments.length:=by simp [argM]
 have:=loopF_g (body:=symmetry_swapping_action.l1 n ⟨layoutM m,s⟩ a) (len:=a.arguments.length) (st:=λi=>((argM s (opAt m a).sorts a.arguments).take i,(i:Int))) (g:=λ_=>some (if 0≤ixP (actB m s a) m.actions 0 then (ixP (actB m s a) m.actions 0,true) else (0,false))) (λrec i hi hr=>?_) (λrec=>?_) n 0 (yr _) (by omega)
 ·simpa using this
 ·have hio:i<o.sorts.length:=by omega
  have hia:i<(argM s (opAt m a).sorts a.arguments).length:=by omega
  simp only [symmetry_swapping_action.l1,lt_len hi,if_true,idx_nat hi,ya,show (layoutM m).m=m from rfl,ho,idx_nat hio,welement_eq]
  rw [app_some (by simp;omega),ya,add64_1 (by omega)]
  have e:(argM s (opAt m a).sorts a.arguments).take i++[if o.sorts[i]=s.sort then elemP s a.arguments[i] else a.arguments[i]]=(argM s (opAt m a).sorts a.arguments).take (i+1):=by
   rw [yw hia]
   congr 2
   simp [argM,hop,hi,hio,uk]
  rw [e];exact hr
 ·simp only [symmetry_swapping_action.l1,ge_len,yf,if_false,show (layoutM m).m=m from rfl]
  rw [List.take_of_length_le (by omega),IndexFuncA_eq (p:=keyB m s a) (λx hx=>act1_eq (hsm hx) hn) (by omega) hn,ya]
  rcases ixP_spec (keyB m s a) m.actions 0 with ⟨i1,i2⟩ | ⟨j,hj,i1,i2,i3⟩
  ·have hno:ixP (actB m s a) m.actions 0 = -1:=by
    rcases ixP_spec (actB m s a) m.actions 0 with ⟨j1,-⟩ | ⟨j,hj,-,j2,-⟩
    ·exact j1
    ·have:=i2 _ (yk hj)
     rw [actB_key,this] at j2;simp at j2
   rw [i1,hno];rfl
  ·rw [ul] at i1
   obtain ⟨g,g1,g2⟩:=walike_eq (n:=n) h (effV_of hS hV hR ham) (effV_of hS hV hR (yk hj)) hn
   have hneg:decide (((j:Nat):Int)<0)=false:=by simp
   rw [i1,idx_nat hj,g1]
   simp only [hneg,y8,yj,grd,if_true,yh,g2]
   rcases ixP_spec (actB m s a) m.actions 0 with ⟨j1,j2⟩ | ⟨x,hx,j1,j2,-⟩
   ·have:=j2 _ (yk hj)
    rw [actB_key,i2,yB] at this
    rw [this,j1];rfl
   ·have hxk:keyB m s a m.actions[x]=true:=by
     rw [actB_key,yb] at j2;exact j2.1
    have e:=key_ix hV hj i2 hx hxk
    subst e
    have:alikeB m s a.effect m.actions[x].effect=true:=by
     rw [actB_key,yb] at j2;exact j2.2
    rw [this,j1,ul]
    simp
def nthP {α:Type} (p:α→Bool):List α→Nat→Nat→Int×Bool
 | [],_,_=>(0,false)
 | x::l,c,i=>if p x=true then (match c with
  | 0=>((i:Int),true)
  | c+1=>nthP p l c (i+1)) else nthP p l c (i+1)
theorem nthP_cons {α:Type} {p:α→Bool} {x:α} {l:List α} {c i:Nat}:nthP p (x::l) c i=if p x=true then (match c with
  | 0=>((i:Int),true)
  | c+1=>nthP p l c (i+1)) else nthP p l c (i+1):=by rw [nthP.eq_def]
theorem nthC_eq {n:Nat} {l k:List Constraint} {t:Nat} {p q:Constraint→Option Bool} {P Q:Constraint→Bool} (ht:t≤l.length) (hp:∀ x∈l,p x=some (P x)) (hq:∀ x∈k,q x=some (Q x)) (hl:l.length<1000000) (hk:k.length<1000000) (hn:1000000≤n):symmetry_nth_api_Constraint n l (t:Int) p k q=some (nthP Q k ((l.take t).countP P) 0):=by
 unfold symmetry_nth_api_Constraint
 have hc:=cut_nat (l:=l) (a:=0) (b:=t) (yr _) ht
 rw [show ((0:Nat):Int)=0 from rfl,List.drop_zero,Nat.sub_zero] at hc
 rw [hc,ya]
 have hlen:(l.take t).length=t:=by rw [yO];omega
 have:=loopF_g (body:=symmetry_nth_api_Constraint.l1 n p k q (l.take t)) (len:=(l.take t).length) (st:=λi=>(((((l.take t).take i).countP P:Nat):Int),(i:Int))) (g:=λ_=>some (nthP Q k ((l.take t).countP P) 0)) (λrec i hi hr=>?_) (λrec=>?_) n 0 (yr _) (by omega)
 ·simpa using this
 ·have hcl:((l.take t).take i).countP P≤i:=y9 List.countP_le_length (by rw [yO];omega)
  rw [yw hi,List.countP_append,List.countP_singleton] at hr
  simp only [symmetry_nth_api_Constraint.l1,lt_len hi,if_true,jn,idx_nat hi,ya,hp _ (List.mem_of_mem_take (yk hi)),add64_1 (i:=i) (by omega),add64_1 (show ((l.take t).take i).countP P<4611686018427387904 by omega)]
  by_cases e:P (l.take t)[i]=true
  ·rw [if_pos e] at hr ⊢;exact hr
  ·rw [if_neg e] at hr ⊢;exact hr
 ·simp only [symmetry_nth_api_Constraint.l1,ge_len,yf,if_false,List.take_length]
  have inner:=loopF_I (body:=symmetry_nth_api_Constraint.l2 n k q) (len:=k.length) (st:=λ(c:Nat) i=>((c:Int),(i:Int))) (g:=λi c=>some (nthP Q (k.drop i) c i)) (λi c=>c≤1000000) (λrec i c hi hI hr=>?_) (λrec c hI=>?_) n 0 ((l.take t).countP P) (yr _) (by omega) (y9 List.countP_le_length (by omega))
  ·simpa using inner
  ·simp only [symmetry_nth_api_Constraint.l2,lt_len hi,if_true,jn,idx_nat hi,ya,hq _ (yk hi),add64_1 (i:=i) (by omega)]
   rw [drop_cons hi,nthP_cons]
   by_cases e:Q k[i]=true
   ·rw [if_neg (by simp [e]),if_pos e]
    cases c with
    | zero=>simp
    | succ c=>
     rw [if_neg (by simp;omega),show sub64 ((c+1:Nat):Int) 1=(c:Int) by rw [sub64_sm (by omega) (by omega)];omega]
     exact hr c (by omega)
   ·rw [if_pos (by simpa using e),if_neg e]
    exact hr c hI
  ·simp [symmetry_nth_api_Constraint.l2,nthP]
theorem nthR_eq {n:Nat} {l k:List Row} {t:Nat} {p q:Row→Option Bool} {P Q:Row→Bool} (ht:t≤l.length) (hp:∀ x∈l,p x=some (P x)) (hq:∀ x∈k,q x=some (Q x)) (hl:l.length<1000000) (hk:k.length<1000000) (hn:1000000≤n):symmetry_nth_api_Row n l (t:Int) p k q=some (nthP Q k ((l.take t).countP P) 0):=by
 unfold symmetry_nth_api_Row
 have hc:=cut_nat (l:=l) (a:=0) (b:=t) (yr _) ht
 rw [show ((0:Nat):Int)=0 from rfl,List.drop_zero,Nat.sub_zero] at hc
 rw [hc,ya]
 have hlen:(l.take t).length=t:=by rw [yO];omega
 have:=loopF_g (body:=symmetry_nth_api_Row.l1 n p k q (l.take t)) (len:=(l.take t).length) (st:=λi=>(((((l.take t).take i).countP P:Nat):Int),(i:Int))) (g:=λ_=>some (nthP Q k ((l.take t).countP P) 0)) (λrec i hi hr=>?_) (λrec=>?_) n 0 (yr _) (by omega)
 ·simpa using this
 ·have hcl:((l.take t).take i).countP P≤i:=y9 List.countP_le_length (by rw [yO];omega)
  rw [yw hi,List.countP_append,List.countP_singleton] at hr
  simp only [symmetry_nth_api_Row.l1,lt_len hi,if_true,jn,idx_nat hi,ya,hp _ (List.mem_of_mem_take (yk hi)),add64_1 (i:=i) (by omega),add64_1 (show ((l.take t).take i).countP P<4611686018427387904 by omega)]
  by_cases e:P (l.take t)[i]=true
  ·rw [if_pos e] at hr ⊢;exact hr
  ·rw [if_neg e] at hr ⊢;exact hr
 ·simp only [symmetry_nth_api_Row.l1,ge_len,yf,if_false,List.take_length]
  have inner:=loopF_I (body:=symmetry_nth_api_Row.l2 n k q) (len:=k.length) (st:=λ(c:Nat) i=>((c:Int),(i:Int))) (g:=λi c=>some (nthP Q (k.drop i) c i)) (λi c=>c≤1000000) (λrec i c hi hI hr=>?_) (λrec c hI=>?_) n 0 ((l.take t).countP P) (yr _) (by omega) (y9 List.countP_le_length (by omega))
  ·simpa using inner
  ·simp only [symmetry_nth_api_Row.l2,lt_len hi,if_true,jn,idx_nat hi,ya,hq _ (yk hi),add64_1 (i:=i) (by omega)]
   rw [drop_cons hi,nthP_cons]
   by_cases e:Q k[i]=true
   ·rw [if_neg (by simp [e]),if_pos e]
    cases c with
    | zero=>simp
    | succ c=>
     rw [if_neg (by simp;omega),show sub64 ((c+1:Nat):Int) 1=(c:Int) by rw [sub64_sm (by omega) (by omega)];omega]
     exact hr c (by omega)
   ·rw [if_pos (by simpa using e),if_neg e]
    exact hr c hI
  ·simp [symmetry_nth_api_Row.l2,nthP]
def fstR (o:Option Nat):Int×Bool:=match o with
 | some j=>((j:Int),true)
 | none=>(0,false)
def atP {α:Type} (p:α→Bool) (l:List α) (j:Nat):Bool:=match l[j]? with
 | some x=>p x
 | none=>false
theorem nth_fst {α:Type} {p:α→Bool}:∀ (rest pre:List α) (c c':Nat),c'+pre.countP p=c→nthP p rest c' pre.length=fstR (fstP (λj=>atP p (pre++rest) j&&decide (((pre++rest).take j).countP p=c)) pre.length rest.length)
 | [],pre,c,c',_=>rfl
 | x::rest,pre,c,c',h=>by
  have e1:atP p (pre++x::rest) pre.length=p x:=by
   unfold atP
   rw [yo (yn _),uA];rfl
  have e2:(pre++x::rest).take pre.length=pre:=by simp
  have e3:pre++x::rest=(pre++[x])++rest:=by simp
  have ih:=λc'' hc=>nth_fst (p:=p) rest (pre++[x]) c c'' hc
  simp only [yR,uD,List.countP_append,List.countP_singleton] at ih
  rw [yP,fstP,nthP_cons,e1,e2]
  by_cases hx:p x=true
  ·simp only [hx,if_true,yB] at ih ⊢
   cases c' with
   | zero=>rw [if_pos (by simpa using h)];rfl
   | succ c''=>
    rw [if_neg (by simp;omega)]
    show nthP p rest c'' (pre.length+1)=_
    rw [ih c'' (by omega),← e3]
  ·rw [if_neg hx] at ih
   simp only [yD] at hx
   rw [hx]
   simp only [yf,yT,if_false]
   rw [ih c' (by omega),← e3]
theorem nth_fst0 {α:Type} {p:α→Bool} {l:List α} {c:Nat}:nthP p l c 0=fstR (fstP (λj=>atP p l j&&decide ((l.take j).countP p=c)) 0 l.length):=by
 have:=nth_fst (p:=p) l [] c c (by simp)
 simpa using this
theorem fstP_congr {p q:Nat→Bool}:∀ {k i:Nat},(∀ x,i≤x→x<i+k→p x=q x)→fstP p i k=fstP q i k
 | 0,_,_=>rfl
 | k+1,i,h=>by
  rw [fstP,fstP,h i (yn _) (by omega),fstP_congr (k:=k) (i:=i+1) λx h1 h2=>h x (by omega) (by omega)]
def conR (m:Model) (s:Swap) (i:Nat):Int×Bool:=if (conAt m i).kind=1 then ((i:Int),true) else fstR (fstP (conB m s i) 0 m.constraints.length)
theorem con1_eq {n:Nat} {x c:Constraint} {r:Row} (hl:x.row.terms.length<1000000) (hn:1000000≤n):symmetry_swapping_constraint_1_1 n x c r=some (((x.kind==0)&&(x.family==c.family))&&decide (x.row=r)):=by
 unfold symmetry_swapping_constraint_1_1
 rw [wsame_eq hl hn]
 simp [grd]
theorem wcon_eq {m:Model} {s:Swap} {n:Nat} {i:Nat} (h:Swp m s) (hS:SmallM m) (hV:ValidM m) (hi:i<m.constraints.length) (hn:1000000≤n):symmetry_swapping_constraint n ⟨layoutM m,s⟩ (i:Int)=some (conR m s i):=by
 have hlen:=hS.constraints
 have hmem:=yk hi
 have hkind:=(con_ok hS hV hmem).kind
 unfold symmetry_swapping_constraint conR
 simp only [show (layoutM m).m=m from rfl]
 rw [if_neg (by simp;omega),idx_nat hi,ya,conAt_eq hi]
 by_cases hk:m.constraints[i].kind=1
 ·rw [if_pos (by simp [hk]),if_pos hk]
 ·have hk0:m.constraints[i].kind=0:=by omega
  have hsm:∀ x∈m.constraints,x.row.terms.length<1000000:=λx hx=>by have:=hS.con x hx;omega
  rw [if_neg (by simp [hk0]),if_neg hk,wrow_eq h (con_rowIn hV hmem hk0) (by have:=hS.con _ hmem;omega) hn,ya]
  rw [nthC_eq (P:=λx=>((x.kind==0)&&(x.family==m.constraints[i].family))&&decide (x.row=m.constraints[i].row)) (Q:=λx=>((x.kind==0)&&(x.family==m.constraints[i].family))&&decide (x.row=rowM m s m.constraints[i].row)) (by omega) (λx hx=>con1_eq (hsm x hx) hn) (λx hx=>con1_eq (hsm x hx) hn) (by omega) (by omega) hn,ya]
  rw [nth_fst0]
  refine congrArg some (congrArg fstR (fstP_congr λj _ hj=>?_))
  have hj':j<m.constraints.length:=by omega
  unfold conB atP
  rw [yt hj',conAt_eq hj',conAt_eq hi]
  simp only []
  have hr:rankP m i=(m.constraints.take i).countP λx=>((x.kind==0)&&(x.family==m.constraints[i].family))&&decide (x.row=m.constraints[i].row):=by
   unfold rankP
   congr 1
   funext d
   rw [conAt_eq hi,sameC,hk0]
  rw [hr,hk0]
  by_cases hc:(((m.constraints[j].kind==0)&&(m.constraints[j].family==m.constraints[i].family))&&decide (m.constraints[j].row=rowM m s m.constraints[i].row))=true
  ·rw [hc,yB,yB]
   have hf:rankP m j=(m.constraints.take j).countP λx=>((x.kind==0)&&(x.family==m.constraints[i].family))&&decide (x.row=rowM m s m.constraints[i].row):=by
    unfold rankP
    congr 1
    funext d
    simp only [yb,beq_iff_eq,yd] at hc
    rw [conAt_eq hj',sameC,hc.1.1,hc.1.2,hc.2]
   rw [hf]
  ·simp only [yD] at hc
   rw [hc,yT,yT]
def actR (m:Model) (s:Swap) (a:Action):Int×Bool:=if 0≤rhoI m s a then (rhoI m s a,true) else (0,false)
theorem wact_eq {m:Model} {s:Swap} {n:Nat} {k:Int} {a:Action} (h:Swp m s) (hS:SmallM m) (hV:ValidM m) (hR:Rng m) (ha:idx m.actions k=some a) (hn:1000000≤n):symmetry_swapping_action n ⟨layoutM m,s⟩ k=some (actR m s a):=by
 rw [waction_eq h hS hV hR ha hn,moveAction_eq h (actS_of hS hV) ha hn];rfl
theorem actR_idx {m:Model} {s:Swap} {a:Action} (h:(actR m s a).2=true):∃ (k:Nat) (hk:k<m.actions.length),(actR m s a).1=(k:Int)∧actB m s a m.actions[k]=true:=by
 unfold actR at h ⊢
 by_cases e:0≤rhoI m s a
 ·rw [if_pos e]
  unfold rhoI at e ⊢
  rcases ixP_spec (actB m s a) m.actions 0 with ⟨h1,-⟩ | ⟨k,hk,h1,h2,-⟩
  ·omega
  ·exact ⟨k,hk,by rw [h1];simp,h2⟩
 ·rw [if_neg e] at h;simp at h
def noQ:Question:=⟨0,0,⟨false,0⟩⟩
def qmv (m:Model) (s:Swap) (q:Question):Question×Bool:=
  let a:=(idx m.actions q.e).getD default
  let b:=(idx m.actions q.f).getD default
  let x:=actR m s a
  let y:=actR m s b
  if (!x.2||!y.2)=true then (noQ,false)
  else if q.target.hold=false then
    (let c:=conR m s q.target.index.toNat
     if c.2=true then (⟨gmin x.1 y.1,gmax x.1 y.1,⟨false,c.1⟩⟩,true) else (noQ,false))
  else
    (let r:=(idx a.effect.hold q.target.index).getD default
     let c:=nthP (λz=>decide (z=rowM m s r)) ((idx m.actions x.1).getD default).effect.hold ((a.effect.hold.take q.target.index.toNat).countP λz=>decide (z=r)) 0
     if c.2=true then (⟨x.1,y.1,⟨true,c.1⟩⟩,true) else (noQ,false))
theorem count_P {α:Type} [DecidableEq α] {l:List α} {x:α}:l.countP (λz=>decide (z=x))=l.count x:=by
 unfold List.count
 congr 1
theorem q1_eq {n:Nat} {x r:Row} (hl:x.terms.length<1000000) (hn:1000000≤n):symmetry_swapping_question_1 n x r=some (decide (x=r)):=by
 unfold symmetry_swapping_question_1
 rw [wsame_eq hl hn,ya]
theorem q2_eq {n:Nat} {x r:Row} (hl:x.terms.length<1000000) (hn:1000000≤n):symmetry_swapping_question_2 n x r=some (decide (x=r)):=by
 unfold symmetry_swapping_question_2
 rw [wsame_eq hl hn,ya]
theorem wquest_eq {m:Model} {s:Swap} {n:Nat} {q:Question} (h:Swp m s) (hS:SmallM m) (hV:ValidM m) (hR:Rng m) (hn:1000000≤n):symmetry_swapping_question n ⟨layoutM m,s⟩ q=some (if questP m q=true then qmv m s q else (noQ,false)):=by
 have hval:symmetry_layout_valid n (layoutM m) q=some (questP m q):=quest_body
 unfold symmetry_swapping_question
 simp only [hval,ya,show (layoutM m).m=m from rfl]
 by_cases hq:questP m q=true
 ·rw [if_neg (by simp [hq]),if_pos hq]
  obtain ⟨q1,q2,q3,q4,q5⟩:=questP_spec hq
  obtain ⟨a,ha⟩:=idx_some q1.1 q1.2
  obtain ⟨b,hb⟩:=idx_some q2.1 q2.2
  rw [wact_eq h hS hV hR ha hn,ya,wact_eq h hS hV hR hb hn,ya]
  unfold qmv
  simp only [ha,hb,yh]
  by_cases hc:(!(actR m s a).2||!(actR m s b).2)=true
  ·rw [if_pos hc,if_pos hc];rfl
  ·rw [if_neg hc,if_neg hc]
   simp only [yA,yG,not_or,Bool.not_eq_false] at hc
   obtain ⟨k,hk,k1,k2⟩:=actR_idx hc.1
   obtain ⟨t,ht⟩:=yM q3
   cases hh:q.target.hold with
   | false=>
    have hi:t<m.constraints.length:=by have:=(q5 hh).2;omega
    simp only [jn,uj,if_true,ht,wcon_eq h hS hV hi hn,ya,yv]
    cases hx:(conR m s t).2 <;> simp [noQ]
   | true=>
    have hidx:=q4 hh a ha
    have htl:t<a.effect.hold.length:=by omega
    have hra:=(eff_in hV (idx_mem ha)).hold _ (yk htl)
    have hza:=effV_of hS hV hR (idx_mem ha)
    have hzk:=effV_of hS hV hR (yk hk)
    have l1:=hza.sz.hold
    have l2:=hzk.sz.hold
    simp only [jn,yS,yf,Bool.true_eq_false,if_false,ha,k1,idx_nat hk,ht,idx_nat htl,ya,yh,yv]
    rw [wrow_eq h hra (by have:=hza.sz.term _ (yk htl);omega) hn,ya,nthR_eq (P:=λz=>decide (z=a.effect.hold[t])) (Q:=λz=>decide (z=rowM m s a.effect.hold[t])) (by omega) (λx hx=>q1_eq (by have:=hza.sz.term x hx;omega) hn) (λx hx=>q2_eq (by have:=hzk.sz.term x hx;omega) hn) (by omega) (by omega) hn,ya]
    cases hx:(nthP (λz=>decide (z=rowM m s a.effect.hold[t])) m.actions[k].effect.hold ((a.effect.hold.take t).countP λz=>decide (z=a.effect.hold[t])) 0).2 <;> simp [noQ]
 ·rw [if_pos (by simpa using hq),if_neg hq];rfl
theorem big1:(1000000:Nat)≤18446744073709551616:=by decide
theorem big2:(4294967296:Nat)≤18446744073709551616:=by decide
section
variable {m:Model} {s:Swap} {n:Nat} (hF:Fuel n) (hn:4294967296≤n) (hS:SmallM m)
include hF hn hS
theorem wQuestion_eq (hR:Rng m) (q:Question):symmetry_Question n m s q=some (if ((validP m&&swpB m s)&&questP m q)=true then qmv m s q else (noQ,false)):=by
 unfold symmetry_Question
 rw [with_eq hF hS,ya]
 by_cases hv:(validP m&&swpB m s)=true
 ·have hv2:=hv
  simp only [yb] at hv2
  have hV:=validP_iff.1 hv2.1
  have h:=swapOK_swp hV hv2.2
  rw [if_pos hv]
  simp only [hv,yS,yf,if_false,ya,yB]
  rw [wquest_eq h hS hV hR (by omega),ya]
 ·rw [if_neg hv]
  simp only [yD] at hv
  simp only [hv,uj,if_true,yT,yf,if_false]
  rfl
theorem wState_eq (x:List Int) (hv:(validP m&&swpB m s)=true) (hx:x.length=(boxM m).length):symmetry_State n m s x=some (stP m s x,true):=by
 have hv2:=hv
 simp only [yb] at hv2
 have hV:=validP_iff.1 hv2.1
 have h:=swapOK_swp hV hv2.2
 have hbl:=box_len hS hV.lay
 have hsl:=strict_len hV.lay
 unfold symmetry_State
 rw [with_eq hF hS,ya,if_pos hv]
 simp only [yS,y8,yj,grd,if_true,yh]
 rw [if_neg (by simp [hsl,hx]),mkl_0 (by omega),ya]
 have e0:List.replicate x.length (0:Int)=(List.range x.length).map λj:Nat=>if (mvC m s (j:Int)).toNat<0 then x.getD (mvC m s (j:Int)).toNat 0 else 0:=by
  refine uH (by simp) λi h1 h2=>?_
  simp
 rw [e0]
 have:=loopF_g (body:=symmetry_State.l1 n x (some ⟨layoutM m,s⟩,true)) (len:=x.length) (st:=λi=>(((List.range x.length).map λj:Nat=>if (mvC m s (j:Int)).toNat<i then x.getD (mvC m s (j:Int)).toNat 0 else 0),(i:Int))) (g:=λ_=>some (stP m s x,true)) (λrec i hi hr=>?_) (λrec=>?_) n 0 (yr _) (by omega)
 ·exact this
 ·obtain ⟨⟨c1,c2⟩,c3,-⟩:=h.cell (c:=(i:Int)) (by omega) (by omega)
  obtain ⟨c,hc⟩:=yM c1
  have hcl:c<x.length:=by omega
  simp only [symmetry_State.l1,lt_len hi,if_true,idx_nat hi,ya,wcellC_eq (n:=n) h (c:=(i:Int)) (by omega) (by omega) (by omega),hc]
  rw [idx_nat (by simpa using hcl),ya,sto_at (by simpa using hcl),ya,add64_1 (by omega),← hr]
  congr 2
  refine uH (by simp) λj h1 h2=>?_
  have hj:j<x.length:=by simpa using h2
  obtain ⟨⟨d1,d2⟩,d3,-⟩:=h.cell (c:=(j:Int)) (by omega) (by omega)
  rw [List.getElem_set]
  by_cases e:c=j
  ·subst e
   rw [if_pos rfl]
   have hmi:mvC m s (c:Int)=(i:Int):=by rw [← hc];exact c3
   simp only [List.getElem_map,List.getElem_range,hmi,yv]
   rw [if_pos (by omega)]
   simp [uk,hi]
  ·rw [if_neg e]
   simp only [List.getElem_map,List.getElem_range]
   have hne:(mvC m s (j:Int)).toNat≠i:=λe2=>e (by
    have:mvC m s (j:Int)=(i:Int):=by omega
    rw [this] at d3
    omega)
   by_cases e3:(mvC m s (j:Int)).toNat<i
   ·rw [if_pos e3,if_pos (by omega)]
   ·rw [if_neg e3,if_neg (by omega)]
 ·simp only [symmetry_State.l1,ge_len,yf,if_false]
  congr 2
  unfold stP
  refine List.map_congr_left λj hj=>?_
  have hj:=ui.1 hj
  obtain ⟨⟨d1,d2⟩,d3,-⟩:=h.cell (c:=(j:Int)) (by omega) (by omega)
  rw [if_pos (by omega)]
theorem wState_no (x:List Int) (hv:¬ ((validP m&&swpB m s)=true∧x.length=(boxM m).length)):symmetry_State n m s x=some ([],false):=by
 unfold symmetry_State
 rw [with_eq hF hS,ya]
 by_cases hw:(validP m&&swpB m s)=true
 ·have hw2:=hw
  simp only [yb] at hw2
  have hsl:=strict_len (validP_iff.1 hw2.1).lay
  rw [if_pos hw]
  simp only [yS,y8,yj,grd,if_true,yh]
  rw [if_pos]
  rw [bne_iff_ne,hsl]
  exact λe=>hv ⟨hw,by omega⟩
 ·rw [if_neg hw];simp [grd]
end
theorem elem_two {m:Model} {s:Swap} (h:SwapOK m.sorts s) (x:Int):elemP s (elemP s x)=x:=by
 have h2:=h.ab
 unfold elemP
 by_cases e1:x=s.a
 ·rw [if_pos e1,if_neg (by omega),if_pos rfl];exact e1.symm
 ·rw [if_neg e1]
  by_cases e2:x=s.b
  ·rw [if_pos e2,if_pos rfl];exact e2.symm
  ·rw [if_neg e2,if_neg e1,if_neg e2]
theorem arg_two {m:Model} {s:Swap} (h:SwapOK m.sorts s) (sorts args:List Int):argM s sorts (argM s sorts args)=args:=by
 refine uH (by simp [argM]) λi h1 h2=>?_
 have hi:i<args.length:=h2
 simp only [argM,List.getElem_map,List.getElem_range,yL,List.length_range]
 by_cases e:sorts.getD i 0=s.sort
 ·rw [if_pos e]
  simp [uk,hi] at e ⊢
  simp [e,elem_two h]
 ·rw [if_neg e]
  simp [uk,hi] at e ⊢
  simp [e]
theorem key_sym {m:Model} {s:Swap} (h:SwapOK m.sorts s) {a b:Action} (hk:keyB m s a b=true):keyB m s b a=true:=by
 simp only [keyB,yb,beq_iff_eq,yd] at hk ⊢
 have e:opAt m b=opAt m a:=by unfold opAt;rw [hk.1]
 refine ⟨hk.1.symm,?_⟩
 rw [e,hk.2,arg_two h]
theorem alike_perm {m:Model} {s:Swap} {e f:Effect} (h:Swp m s) (he:EffV m e) (hf:EffV m f):alikeB m s e f=true↔f.delta.Perm (e.delta.map (chgM m s))∧f.hold.Perm (e.hold.map (rowM m s))∧f.updates.Perm (e.updates.map (updM m s)):=by
 obtain ⟨D,-,d1,d2⟩:=weffect_told (n:=1000000) h he.inn he.sz he.room (by omega)
 rw [alike_iff h he hf d1 d2]
 have hne:D.Pairwise λa b=>a.cell≠b.cell:=(d1.pairwise_iff (λ{a b} hab=>Ne.symm hab)).2 (nd_chg h he)
 have hlt:D.Pairwise λa b=>a.cell<b.cell:=d2.imp₂ (λa b h1 h2=>by omega) hne
 refine and_congr_left λ_=>⟨λe2=>by rw [e2];exact d1,λhp=>?_⟩
 exact perm_uniq (R:=λa b:Change=>a.cell<b.cell) (λa b x y=>by omega) (hp.trans d1.symm) hf.ris hlt
section
variable {m:Model} {s:Swap} (h:Sym m s) (hR:Rng m)
include h hR
theorem Sym.effV {a:Action} (ha:a∈m.actions):EffV m a.effect:=effV_of h.small h.valid hR ha
theorem act_two {i:Nat} (hi:i<m.actions.length):∃ (k:Nat) (hk:k<m.actions.length),actR m s m.actions[i]=((k:Int),true)∧actR m s m.actions[k]=((i:Int),true)∧actB m s m.actions[i] m.actions[k]=true:=by
 obtain ⟨k,hk,k1,k2⟩:=h.rho (yk hi)
 obtain ⟨j,hj,j1,j2⟩:=h.rho (yk hk)
 have a1:=k2
 rw [actB_key,yb] at a1
 have b1:=j2
 rw [actB_key,yb] at b1
 have e:=key_ix h.valid hi (key_sym h.swap a1.1) hj b1.1
 refine ⟨k,hk,?_,?_,k2⟩
 ·unfold actR;rw [k1,if_pos (by omega)]
 ·unfold actR;rw [j1,if_pos (by omega),e]
end
theorem con_sym {m:Model} {s:Swap} (h:Sym m s) {i:Nat} (hi:i<m.constraints.length):conR m s i=(((sigI m s i:Nat):Int),true):=by
 have:=h.sym
 simp only [symB,yb] at this
 have hc:=allR_0.1 this.2 i hi
 unfold conR sigI
 by_cases hk:(conAt m i).kind=1
 ·rw [if_pos hk,if_pos hk]
 ·rw [if_neg hk,if_neg hk]
  simp only [hk,decide_false,y8] at hc
  obtain ⟨j,hj⟩:=Option.isSome_iff_exists.1 hc
  rw [hj];rfl
theorem fstP_at {q:Nat→Bool} {k j:Nat} (hj:j<k) (h1:q j=true) (h2:∀ x,x<j→q x=false):fstP q 0 k=some j:=by
 cases h:fstP q 0 k with
 | none=>
  have:=fstP_none h j (yr _) (by omega)
  rw [h1] at this;cases this
 | some i=>
  obtain ⟨⟨-,i1⟩,i2,i3⟩:=fstP_some h
  rcases Nat.lt_trichotomy i j with hlt | e | hlt
  ·rw [h2 i hlt] at i2;cases i2
  ·rw [e]
  ·rw [i3 j (yr _) hlt] at h1;cases h1
section
variable {α:Type} {p:α→Bool}
theorem nth_at {l:List α} {c j:Nat} (hj:j<l.length) (h1:p l[j]=true) (h2:(l.take j).countP p=c):nthP p l c 0=((j:Int),true):=by
 rw [nth_fst0,fstP_at hj]
 ·rfl
 ·unfold atP
  rw [yt hj,h2];simp [h1]
 ·intro x hx
  have hxl:x<l.length:=by omega
  unfold atP
  rw [yt hxl]
  simp only []
  by_cases e:p l[x]=true
  ·have h3:(l.take (x+1)).countP p=(l.take x).countP p+1:=by
    rw [yw hxl,List.countP_append,List.countP_singleton,if_pos e]
   have h4:(l.take (x+1)).countP p≤(l.take j).countP p:=by
    have:l.take (x+1)=(l.take j).take (x+1):=by rw [List.take_take];congr 1;omega
    rw [this]
    exact (List.take_sublist _ _).countP_le
   rw [decide_eq_false (by omega),Bool.and_false]
  ·simp only [yD] at e
   rw [e,yT]
theorem nth_ex:∀ {l:List α} {c:Nat},c<l.countP p→∃ (j:Nat) (hj:j<l.length),p l[j]=true∧(l.take j).countP p=c
 | [],c,h=>by simp at h
 | x::l,c,h=>by
  by_cases e:p x=true
  ·cases c with
   | zero=>exact ⟨0,by simp,e,rfl⟩
   | succ c=>
    rw [List.countP_cons_of_pos e] at h
    obtain ⟨j,hj,h1,h2⟩:=nth_ex (l:=l) (c:=c) (by omega)
    exact ⟨j+1,by simpa using hj,by simpa using h1,by rw [List.take_succ_cons,List.countP_cons_of_pos e,h2]⟩
  ·rw [List.countP_cons_of_neg e] at h
   obtain ⟨j,hj,h1,h2⟩:=nth_ex (l:=l) (c:=c) h
   exact ⟨j+1,by simpa using hj,by simpa using h1,by rw [List.take_succ_cons,List.countP_cons_of_neg e,h2]⟩
theorem nth_inv {l:List α} {c:Nat} (h:(nthP p l c 0).2=true):∃ (j:Nat) (hj:j<l.length),nthP p l c 0=((j:Int),true)∧p l[j]=true∧(l.take j).countP p=c:=by
 rw [nth_fst0] at h ⊢
 cases hx:fstP (λj=>atP p l j&&decide ((l.take j).countP p=c)) 0 l.length with
 | none=>rw [hx] at h;simp [fstR] at h
 | some j=>
  obtain ⟨⟨-,i1⟩,i2,-⟩:=fstP_some hx
  have hj:j<l.length:=by omega
  unfold atP at i2
  rw [yt hj] at i2
  simp only [yb,yd] at i2
  exact ⟨j,hj,rfl,i2⟩
end
theorem gm_le (x y:Int):gmin x y≤gmax x y:=by
 unfold gmin gmax;split <;> split <;> omega
theorem gm_of (x y:Int):(gmin x y=x∧gmax x y=y)∨(gmin x y=y∧gmax x y=x):=by
 unfold gmin gmax
 split <;> split <;> omega
theorem gm_ord {x y:Int} (h:x≤y):(gmin x y=x∧gmax x y=y)∧gmin y x=x∧gmax y x=y:=by
 unfold gmin gmax
 refine ⟨⟨?_,?_⟩,?_,?_⟩ <;> split <;> omega
theorem qmv_valid {m:Model} {s:Swap} {q:Question} (hq:questP m q=true) (h:(qmv m s q).2=true):questP m (qmv m s q).1=true:=by
 obtain ⟨q1,q2,q3,q4,q5⟩:=questP_spec hq
 unfold qmv at h ⊢
 simp only [] at h ⊢
 by_cases hc:(!(actR m s ((idx m.actions q.e).getD default)).2||!(actR m s ((idx m.actions q.f).getD default)).2)=true
 ·rw [if_pos hc] at h;simp at h
 ·rw [if_neg hc] at h ⊢
  simp only [yA,yG,not_or,Bool.not_eq_false] at hc
  obtain ⟨k,hk,k1,-⟩:=actR_idx hc.1
  obtain ⟨l,hl,l1,-⟩:=actR_idx hc.2
  cases hh:q.target.hold with
  | false=>
   rw [hh,if_pos rfl] at h
   rw [if_pos rfl]
   by_cases hx:(conR m s q.target.index.toNat).2=true
   ·rw [if_pos hx]
    have hcon:0≤(conR m s q.target.index.toNat).1∧(conR m s q.target.index.toNat).1<(m.constraints.length:Int):=by
     unfold conR at hx ⊢
     by_cases hk1:(conAt m q.target.index.toNat).kind=1
     ·rw [if_pos hk1];have:=(q5 hh).2;simp only [];omega
     ·rw [if_neg hk1] at hx ⊢
      cases hy:fstP (conB m s q.target.index.toNat) 0 m.constraints.length with
      | none=>rw [hy] at hx;simp [fstR] at hx
      | some j=>obtain ⟨⟨-,i1⟩,-,-⟩:=fstP_some hy;simp only [fstR];omega
    have hle:=gm_le (k:Int) (l:Int)
    rw [k1,l1]
    unfold questP
    simp only [yf,if_false,yb,yd]
    rcases gm_of (k:Int) (l:Int) with ⟨g1,g2⟩ | ⟨g1,g2⟩
    ·rw [g1,g2] at hle ⊢;omega
    ·rw [g1,g2] at hle ⊢;omega
   ·rw [if_neg hx] at h;simp at h
  | true=>
   rw [hh,if_neg (by simp)] at h
   rw [if_neg (by simp)]
   by_cases hx:(nthP (λz=>decide (z=rowM m s ((idx ((idx m.actions q.e).getD default).effect.hold q.target.index).getD default))) ((idx m.actions (actR m s ((idx m.actions q.e).getD default)).1).getD default).effect.hold ((((idx m.actions q.e).getD default).effect.hold.take q.target.index.toNat).countP λz=>decide (z=((idx ((idx m.actions q.e).getD default).effect.hold q.target.index).getD default))) 0).2=true
   ·rw [if_pos hx]
    obtain ⟨j,hj,j1,-,-⟩:=nth_inv hx
    rw [j1,l1]
    unfold questP
    simp only [if_true,yb,yd]
    rw [k1] at hj ⊢
    omega
   ·rw [if_neg hx] at h;simp at h
theorem qmv_two {m:Model} {s:Swap} {q:Question} (h:Sym m s) (hR:Rng m) (hq:questP m q=true):(qmv m s q).2=true∧qmv m s (qmv m s q).1=(q,true):=by
 obtain ⟨q1,q2,q3,q4,q5⟩:=questP_spec hq
 obtain ⟨e,he⟩:=yM q1.1
 obtain ⟨f,hf⟩:=yM q2.1
 obtain ⟨t,ht⟩:=yM q3
 have hel:e<m.actions.length:=by omega
 have hfl:f<m.actions.length:=by omega
 obtain ⟨k,hk,k1,k2,k3⟩:=act_two h hR hel
 obtain ⟨l,hl,l1,l2,-⟩:=act_two h hR hfl
 have ie:idx m.actions q.e=some m.actions[e]:=by rw [he];exact idx_nat hel
 have iF:idx m.actions q.f=some m.actions[f]:=by rw [hf];exact idx_nat hfl
 have ik:idx m.actions (k:Int)=some m.actions[k]:=idx_nat hk
 have il:idx m.actions (l:Int)=some m.actions[l]:=idx_nat hl
 cases hh:q.target.hold with
 | false=>
  have hti:t<m.constraints.length:=by have:=(q5 hh).2;omega
  have hef:(e:Int)≤(f:Int):=by have:=(q5 hh).1;omega
  have c1:=con_sym h hti
  have c2:=con_sym h (h.sig hti).1
  rw [h.sig_sig hti] at c2
  have hone:qmv m s q=(⟨gmin k l,gmax k l,⟨false,((sigI m s t:Nat):Int)⟩⟩,true):=by
   unfold qmv
   simp only [ie,iF,yh,k1,l1,hh,ht,yv,c1]
   simp
  rw [hone]
  refine ⟨rfl,?_⟩
  have hq2:q=⟨(e:Int),(f:Int),⟨false,(t:Int)⟩⟩:=quest_ext he hf hh ht
  unfold qmv
  simp only []
  rcases gm_of (k:Int) (l:Int) with ⟨g1,g2⟩ | ⟨g1,g2⟩
  ·simp only [g1,g2,ik,il,yh,k2,l2,yv,c2,(gm_ord hef).1.1,(gm_ord hef).1.2]
   rw [hq2];simp
  ·simp only [g1,g2,ik,il,yh,k2,l2,yv,c2,(gm_ord hef).2.1,(gm_ord hef).2.2]
   rw [hq2];simp
 | true=>
  have htl:t<m.actions[e].effect.hold.length:=by have:=q4 hh _ ie;omega
  have hve:=h.effV hR (yk hel)
  have hvk:=h.effV hR (yk hk)
  have hab:=k3
  rw [actB_key,yb] at hab
  obtain ⟨-,hperm,-⟩:=(alike_perm h.swp hve hvk).1 hab.2
  obtain ⟨r,hr⟩:∃ r,r=m.actions[e].effect.hold[t]:=⟨_,rfl⟩
  have hrm:r∈m.actions[e].effect.hold:=by rw [hr];exact yk htl
  have hri:=hve.inn.hold r hrm
  obtain ⟨c,hc⟩:∃ c,c=(m.actions[e].effect.hold.take t).countP λz=>decide (z=r):=⟨_,rfl⟩
  have hlt:c<m.actions[k].effect.hold.countP λz=>decide (z=rowM m s r):=by
   rw [count_P,hperm.count_eq,count_map λz hz e2=>row_inj h.swp (hve.inn.hold z hz) hri e2,hc,count_P]
   have h3:(m.actions[e].effect.hold.take (t+1)).count r=(m.actions[e].effect.hold.take t).count r+1:=by
    rw [count_snoc htl,if_pos hr.symm]
   have h4:(m.actions[e].effect.hold.take (t+1)).count r≤m.actions[e].effect.hold.count r:=(List.take_sublist _ _).count_le _
   omega
  obtain ⟨j,hj,j1,j2⟩:=nth_ex hlt
  have n1:=nth_at hj j1 j2
  have hone:qmv m s q=(⟨(k:Int),(l:Int),⟨true,(j:Int)⟩⟩,true):=by
   unfold qmv
   simp only [ie,iF,yh,k1,l1,hh,ht,yv,idx_nat htl,← hr,← hc,ik,n1]
   simp
  rw [hone]
  refine ⟨rfl,?_⟩
  have hq2:q=⟨(e:Int),(f:Int),⟨true,(t:Int)⟩⟩:=quest_ext he hf hh ht
  have hrow:m.actions[k].effect.hold[j]=rowM m s r:=of_decide_eq_true j1
  have ie':idx m.actions (e:Int)=some m.actions[e]:=idx_nat hel
  have n2:nthP (λz=>decide (z=rowM m s (rowM m s r))) m.actions[e].effect.hold ((m.actions[k].effect.hold.take j).countP λz=>decide (z=rowM m s r)) 0=((t:Int),true):=by
   rw [j2,row_twice h.swp hri]
   exact nth_at htl (by simp [hr]) hc.symm
  unfold qmv
  simp only [ik,il,yh,k2,l2,yv,idx_nat hj,hrow,ie',n2]
  rw [hq2];simp
theorem Holds_both {m:Model} {s:Swap} {n:Nat} (hF:Fuel n) (hn:4294967296≤n) (hS:SmallM m) (hR:Rng m):symmetry_Holds n m s=some ((validP m&&swpB m s)&&symB m s)∧ref16_Holds n m s=some ((validP m&&swpB m s)&&symB m s):=by
 refine ⟨?_,Holds16_eq hn hS⟩
 unfold symmetry_Holds
 rw [with_eq hF hS,ya]
 by_cases hv:(validP m&&swpB m s)=true
 ·have hv2:=hv
  simp only [yb] at hv2
  have hV:=validP_iff.1 hv2.1
  have h:=swapOK_swp hV hv2.2
  have hal:=hS.actions
  have hcl:=hS.constraints
  have hh:symmetry_swapping_holds n ⟨layoutM m,s⟩=some (symB m s):=by
   have l2:loopF (symmetry_swapping_holds.l2 n ⟨layoutM m,s⟩) n 0=some (allR (λi=>decide ((conAt m i).kind=1)||(fstP (conB m s i) 0 m.constraints.length).isSome) 0 m.constraints.length):=by
    have:=loopF_all (body:=symmetry_swapping_holds.l2 n ⟨layoutM m,s⟩) (len:=m.constraints.length) (n:=n) (st:=λi=>(i:Int)) (λi=>decide ((conAt m i).kind=1)||(fstP (conB m s i) 0 m.constraints.length).isSome) (some false) (some true) (λrec i hi=>?_) (λrec=>?_) (by omega)
    ·rw [show ((0:Nat):Int)=0 from rfl] at this
     rw [this]
     cases allR (λi=>decide ((conAt m i).kind=1)||(fstP (conB m s i) 0 m.constraints.length).isSome) 0 m.constraints.length <;> simp
    ·simp only [symmetry_swapping_holds.l2,show (layoutM m).m=m from rfl,lt_len hi,if_true,wcon_eq h hS hV hi (show 1000000≤n by omega),ya,add64_1 (i:=i) (by omega),conR]
     by_cases hk:(conAt m i).kind=1
     ·simp [hk]
     ·simp only [hk,if_false,decide_false,y8]
      cases fstP (conB m s i) 0 m.constraints.length <;> simp [fstR]
    ·simp only [symmetry_swapping_holds.l2,show (layoutM m).m=m from rfl,ge_len,yf,if_false]
   unfold symmetry_swapping_holds symB
   have:=loopF_lall (body:=symmetry_swapping_holds.l1 n ⟨layoutM m,s⟩) (l:=m.actions) (n:=n) (st:=λi=>(i:Int)) (λa=>decide (0≤rhoI m s a)) (some false) (loopF (symmetry_swapping_holds.l2 n ⟨layoutM m,s⟩) n 0) (λrec i hi=>?_) (λrec=>?_) (by omega)
   ·rw [show ((0:Nat):Int)=0 from rfl] at this
    rw [this,l2]
    cases (m.actions.all λa=>decide (0≤rhoI m s a)) <;> simp
   ·simp only [symmetry_swapping_holds.l1,show (layoutM m).m=m from rfl,lt_len hi,if_true,wact_eq h hS hV hR (idx_nat hi) (show 1000000≤n by omega),ya,add64_1 (i:=i) (by omega),actR]
    by_cases hr:0≤rhoI m s m.actions[i]
    ·simp [hr]
    ·simp [hr]
   ·simp only [symmetry_swapping_holds.l1,show (layoutM m).m=m from rfl,ge_len,yf,if_false]
  rw [if_pos hv,hv]
  simp [grd,hh]
 ·rw [if_neg hv]
  simp only [yD] at hv
  rw [hv]
  simp [grd]
section
variable {m:Model} {s:Swap} {n:Nat} (hF:Fuel n) (hn:4294967296≤n) (hv:(validP m&&swpB m s)=true)
include hF hn hv
theorem wCell_in (hS:SmallM m) {c:Int} (hc:0≤c∧c<((boxM m).length:Int)):symmetry_Cell n m s c=some (mvC m s c,true):=by
 have hv2:=hv
 simp only [yb] at hv2
 have hV:=validP_iff.1 hv2.1
 have hsl:=strict_len hV.lay
 unfold symmetry_Cell
 rw [with_eq hF hS,ya,if_pos hv]
 simp only [yS,y8,yj,yC,grd,if_true,yh,ya,hsl]
 rw [if_neg (by simp;omega),wcellC_eq (swapOK_swp hV hv2.2) hc.1 hc.2 (by omega),ya]
theorem wCell_out (hS:SmallM m) {c:Int} (hc:¬ (0≤c∧c<((boxM m).length:Int))):symmetry_Cell n m s c=some (0,false):=by
 have hv2:=hv
 simp only [yb] at hv2
 have hsl:=strict_len (validP_iff.1 hv2.1).lay
 unfold symmetry_Cell
 rw [with_eq hF hS,ya,if_pos hv]
 simp only [yS,y8,yj,yC,grd,if_true,yh,ya,hsl]
 rw [if_pos (by simp;omega)]
theorem wAction_in (hS:SmallM m) (hR:Rng m) {k:Int} {a:Action} (ha:idx m.actions k=some a):symmetry_Action n m s k=some (actR m s a):=by
 have hv2:=hv
 simp only [yb] at hv2
 have hV:=validP_iff.1 hv2.1
 unfold symmetry_Action
 rw [with_eq hF hS,ya,if_pos hv]
 simp only [yS,yf,if_false,ya]
 rw [wact_eq (swapOK_swp hV hv2.2) hS hV hR ha (by omega),ya]
theorem wAction_out (hS:SmallM m) {k:Int} (hc:¬ (0≤k∧k<(m.actions.length:Int))):symmetry_Action n m s k=some (0,false):=by
 unfold symmetry_Action
 rw [with_eq hF hS,ya,if_pos hv]
 simp only [yS,yf,if_false,ya]
 have e:symmetry_swapping_action n ⟨layoutM m,s⟩ k=some (0,false):=by
  unfold symmetry_swapping_action
  rw [if_pos (by simp only [show (layoutM m).m=m from rfl];simp;omega)]
 rw [e,ya]
theorem wCon_in (hS:SmallM m) {i:Nat} (hi:i<m.constraints.length):symmetry_Constraint n m s (i:Int)=some (conR m s i):=by
 have hv2:=hv
 simp only [yb] at hv2
 have hV:=validP_iff.1 hv2.1
 unfold symmetry_Constraint
 rw [with_eq hF hS,ya,if_pos hv]
 simp only [yS,yf,if_false,ya]
 rw [wcon_eq (swapOK_swp hV hv2.2) hS hV hi (by omega),ya]
theorem wCon_out (hS:SmallM m) {k:Int} (hc:¬ (0≤k∧k<(m.constraints.length:Int))):symmetry_Constraint n m s k=some (0,false):=by
 unfold symmetry_Constraint
 rw [with_eq hF hS,ya,if_pos hv]
 simp only [yS,yf,if_false,ya]
 have e:symmetry_swapping_constraint n ⟨layoutM m,s⟩ k=some (0,false):=by
  unfold symmetry_swapping_constraint
  rw [if_pos (by simp only [show (layoutM m).m=m from rfl];simp;omega)]
 rw [e,ya]
theorem cell_step (h:Sym m s) {c:Int} {K:Option Bool}:((symmetry_Cell n m s c).bind λx=>if x.2=true then (symmetry_Cell n m s x.1).bind λy=>if ((!y.2)||(y.1 != c))=true then some false else K else K)=K:=by
 by_cases hc:0≤c∧c<((boxM m).length:Int)
 ·obtain ⟨c1,c2,-⟩:=h.swp.cell hc.1 hc.2
  rw [wCell_in hF hn hv h.small hc,ya,if_pos rfl,wCell_in hF hn hv h.small c1,ya,c2,if_neg (by simp)]
 ·rw [wCell_out hF hn hv h.small hc,ya,if_neg (by simp)]
theorem action_step (h:Sym m s) (hR:Rng m) {c:Int} {K:Option Bool}:((symmetry_Action n m s c).bind λx=>if x.2=true then (symmetry_Action n m s x.1).bind λy=>if ((!y.2)||(y.1 != c))=true then some false else K else K)=K:=by
 by_cases hc:0≤c∧c<(m.actions.length:Int)
 ·obtain ⟨i,rfl⟩:=yM hc.1
  have hi:i<m.actions.length:=by omega
  obtain ⟨k,hk,k1,k2,-⟩:=act_two h hR hi
  rw [wAction_in hF hn hv h.small hR (idx_nat hi),k1,ya,if_pos rfl,wAction_in hF hn hv h.small hR (idx_nat hk),k2,ya,if_neg (by simp)]
 ·rw [wAction_out hF hn hv h.small hc,ya,if_neg (by simp)]
theorem con_step (h:Sym m s) {c:Int} {K:Option Bool}:((symmetry_Constraint n m s c).bind λx=>if x.2=true then (symmetry_Constraint n m s x.1).bind λy=>if ((!y.2)||(y.1 != c))=true then some false else K else K)=K:=by
 by_cases hc:0≤c∧c<(m.constraints.length:Int)
 ·obtain ⟨i,rfl⟩:=yM hc.1
  have hi:i<m.constraints.length:=by omega
  rw [wCon_in hF hn hv h.small hi,con_sym h hi,ya,if_pos rfl,wCon_in hF hn hv h.small (h.sig hi).1,con_sym h (h.sig hi).1,h.sig_sig hi,ya,if_neg (by simp)]
 ·rw [wCon_out hF hn hv h.small hc,ya,if_neg (by simp)]
theorem state_step (h:Sym m s) {x:List Int} {K:Option Bool}:((symmetry_State n m s x).bind λy=>if y.2=true then (symmetry_State n m s y.1).bind λz=>grd ((!z.2)||(slices_Equal_Lint_int n z.1 x).isSome) <| if ((!z.2)||(!((slices_Equal_Lint_int n z.1 x).getD default)))=true then some false else K else K)=K:=by
 have hbl:=box_len h.small h.valid.lay
 by_cases hx:x.length=(boxM m).length
 ·rw [wState_eq hF hn h.small x hv hx,ya,if_pos rfl,wState_eq hF hn h.small _ hv (by rw [stP_len,hx]),ya,stP_inv h.swp hx]
  simp [grd,EqualInt_eq (show x.length<1000000 by omega) (show 1000000≤n by omega)]
 ·rw [wState_no hF hn h.small x (λe=>hx e.2),ya,if_neg (by simp)]
end
theorem Twice_law {m:Model} {s:Swap} {c a k:Int} {x:List Int} {q:Question} (hR:Rng m):law16_SymmetryTwice 18446744073709551616 m s c a k x q=some true:=by
 unfold law16_SymmetryTwice
 simp only [awake_spec,ya,yS,yf,if_false,ref13_Few_eq big1]
 cases hf:fewP m with
 | false=>simp [grd]
 | true=>
  have hS:=fewP_small hf
  have hh:=(Holds_both (s:=s) fuel_N big2 hS hR).1
  simp only [hh,yS,y8,yj,grd,if_true,yh]
  by_cases hs:((validP m&&swpB m s)&&symB m s)=true
  ·have h:=sym_of hS hs
   have hv:(validP m&&swpB m s)=true:=by simp only [yb] at hs ⊢;exact hs.1
   rw [if_neg (by simp [hs])]
   simp only [jn]
   have s1:=λK=>cell_step fuel_N big2 hv h (c:=c) (K:=K)
   have s2:=λK=>action_step fuel_N big2 hv h hR (c:=a) (K:=K)
   have s3:=λK=>con_step fuel_N big2 hv h (c:=k) (K:=K)
   have s4:=λK=>state_step fuel_N big2 hv h (x:=x) (K:=K)
   simp only [grd] at s4
   rw [s1,s2,s3,s4,wQuestion_eq fuel_N big2 hS hR,ya,ref16_Valid_eq big2 hS,ya,wQuestion_eq fuel_N big2 hS hR,hv]
   have hv1:validP m=true:=by simp only [yb] at hv;exact hv.1
   rw [hv1]
   by_cases hq:questP m q=true
   ·obtain ⟨t1,t2⟩:=qmv_two h hR hq
    have t3:=qmv_valid hq t1
    simp only [hq,uP,if_true,t1,uG,yf,if_false,t3,t2,ya]
    simp
   ·simp only [yD] at hq
    simp only [hq,Bool.and_false,yf,if_false,uG,ya]
    simp
  ·simp only [yD] at hs
   rw [if_pos (by rw [hs];rfl)]
theorem closed14:joinedFacts Tryz.pinned.checked.prog 9 Tryz.f9 (OpenSpec.ofChange Rows.symmetryTwiceSpec).bare Rows.symmetryTwiceRow=true:=by
 unfold joinedFacts
 simp only [yb]
 repeat' apply And.intro
 all_goals as_aux_lemma=>kernel_rfl
theorem dModel_rng {m:Model} (h:dModel.good m):Rng m:=by
 intro a ha u hu
 obtain ⟨x,rfl,-,-,-,-,-,h6,-⟩:=h
 obtain ⟨y,rfl,-,-,h3,-⟩:=h6 a ha
 obtain ⟨z,hz,-,-,h4,-⟩:=h3
 have hu2:u∈z.2.2.1:=by
  have e:y.2.2.1=(⟨z.1,z.2.1,z.2.2.1⟩:Effect):=hz.symm
  have hu3:u∈y.2.2.1.updates:=hu
  rw [e] at hu3;exact hu3
 obtain ⟨v,rfl,-,h5,-⟩:=h4 u hu2
 exact h5
section
open Go.ChangeShapes Go.WideShapes Go.ChangeAt Go.RowKit
theorem own:ownKnob Tryz.prog.godebug=none:=by kernel_rfl
theorem laidOut:laidOutB Tryz.prog=true:=by kernel_rfl
set_option maxRecDepth 100000 in
theorem contract14 (H:Type) (enc:TypeId×Value→H) (W:World) (base:Nat) (args:Array Value) (ds gs:List (DataW H)) (before:List MemPlace)
  (hval:∀ (j:Nat) t v,Tryz.f9.params[j]? = some t→args[j]? = some v→Value.okWide Tryz.prog W .any base t v)
  (hW:DataW.Whole enc Tryz.prog Tryz.f9.params.toList Rows.symmetryTwiceSpec.vars false W args.toList ds gs before) (hL:laidMetH Tryz.prog Rows.symmetryTwiceRow.laid W) (hS:W.ShapedOpen Tryz.prog) :
  Calls Tryz.prog 9 args W λe W'=>∃ v,e = .returned v∧Rows.symmetryTwiceSpec.post enc Tryz.prog Tryz.f9 false true false false W args v W':=by
 have hW':=hW
 obtain ⟨p,q,hA0,hV,rfl,hfz,hnd⟩:=hW
 have hA:DataW.TrodAll enc Tryz.prog W 0 (λ_=>true) true Tryz.f9.params.toList args.toList ds p:=hA0
 rw [Tryz.params9] at hA hval
 obtain ⟨v0,vs0,d0,ds0,p0,q0,hargs,rfl,rfl,h0,r0⟩:=trodAll_cons hA
 obtain ⟨v1,vs1,d1,ds1,p1,q1,rfl,rfl,rfl,h1,r1⟩:=trodAll_cons r0
 obtain ⟨v2,vs2,d2,ds2,p2,q2,rfl,rfl,rfl,h2,r2⟩:=trodAll_cons r1
 obtain ⟨v3,vs3,d3,ds3,p3,q3,rfl,rfl,rfl,h3,r3⟩:=trodAll_cons r2
 obtain ⟨v4,vs4,d4,ds4,p4,q4,rfl,rfl,rfl,h4,r4⟩:=trodAll_cons r3
 obtain ⟨v5,vs5,d5,ds5,p5,q5,rfl,rfl,rfl,h5,r5⟩:=trodAll_cons r4
 obtain ⟨v6,vs6,d6,ds6,p6,q6,rfl,rfl,rfl,h6,r6⟩:=trodAll_cons r5
 obtain ⟨rfl,rfl,rfl⟩:=trodAll_nil r6
 obtain rfl:args = #[v0,v1,v2,v3,v4,v5,v6]:=by cases args;simp_all
 obtain ⟨rfl,rfl⟩:=trodVars_none hV
 obtain ⟨a0,k0,g0⟩:=dModel.of_argG (hval 0 _ v0 rfl rfl) h0
 obtain ⟨a1,k1⟩:=dSwap.of_arg (hval 1 _ v1 rfl rfl) h1
 obtain ⟨a2,k2⟩:=dInt.of_arg (hval 2 _ v2 rfl rfl) h2
 obtain ⟨a3,k3⟩:=dInt.of_arg (hval 3 _ v3 rfl rfl) h3
 obtain ⟨a4,k4⟩:=dInt.of_arg (hval 4 _ v4 rfl rfl) h4
 obtain ⟨a5,k5⟩:=dInts.of_arg (hval 5 _ v5 rfl rfl) h5
 obtain ⟨a6,k6⟩:=dQuest.of_arg (hval 6 _ v6 rfl rfl) h6
 have hrun:=(law16_SymmetryTwice_ok _ a0 a1 a2 a3 a4 a5 a6 true (Twice_law (dModel_rng g0))).run Noneof W #[v0,v1,v2,v3,v4,v5,v6] (λ_ h=>h.elim) (glob_ok hL hS) (by
  simp only [D.reps]
  exact ⟨v0,_,rfl,k0,v1,_,rfl,k1,v2,_,rfl,k2,v3,_,rfl,k3,v4,_,rfl,k4,v5,_,rfl,k5,v6,_,rfl,k6,rfl⟩)
 refine hrun.mono λe W' ⟨u,he,hf,hu⟩=>?_
 simp only [D.rep] at hu
 subst hu
 subst he
 refine ⟨_,rfl,post_kept hW' rfl rfl rfl laidOut (λt ht=>?_) hf (λ_ _ _=>trodAll_cons_mk (shut_bool Tryz.underlying4 _) trodAll_mk0)⟩
 rw [Tryz.params9] at ht
 have hall:([30,41,3,3,3,22,34].all λt=>Tryz.prog.readableRec t&&decide (t<Tryz.prog.types.size))=true:=by kernel_rfl
 have:=yp.1 hall t (by simpa using ht)
 simpa using this
theorem reads14 (os:Os) {H:Type} (enc:TypeId×Value→H):∃ places,DataW.whole enc Tryz.prog ((World.laidAll Tryz.prog os Rows.symmetryTwiceRow.laid).forCall (λ_ _=>0) ⟨#[],#[.agg #[.slice none 0 0,.slice none 0 0,.slice none 0 0,.slice none 0 0,.slice none 0 0,.slice none 0 0,.slice none 0 0],.agg #[.int .i64 0,.int .i64 0,.int .i64 0],.int .i64 0,.int .i64 0,.int .i64 0,.slice none 0 0,.agg #[.int .i64 0,.int .i64 0,.bool false,.int .i64 0]],[]⟩).memory Tryz.f9.params.toList Rows.symmetryTwiceSpec.vars false
  (#[.agg #[.slice none 0 0,.slice none 0 0,.slice none 0 0,.slice none 0 0,.slice none 0 0,.slice none 0 0,.slice none 0 0],.agg #[.int .i64 0,.int .i64 0,.int .i64 0],.int .i64 0,.int .i64 0,.int .i64 0,.slice none 0 0,.agg #[.int .i64 0,.int .i64 0,.bool false,.int .i64 0]]:Array Value).toList 8 =
  some ([.agg [.nil,.nil,.nil,.nil,.nil,.nil,.nil],.agg [.lit (.int .i64 0),.lit (.int .i64 0),.lit (.int .i64 0)],.lit (.int .i64 0),.lit (.int .i64 0),.lit (.int .i64 0),.nil,.agg [.lit (.int .i64 0),.lit (.int .i64 0),.agg [.lit (.bool false),.lit (.int .i64 0)]]],[],places):=
 ⟨[],by kernel_rfl⟩
set_option maxRecDepth 100000 in
theorem lifted14 (os:Os) (started:os.Started) (H:Type) (enc:TypeId×Value→H) (F:Stop.Interp) :
  ReturnsInHanded {} Tryz.checked os 9 .any ((OpenSpec.ofChange Rows.symmetryTwiceSpec).preRow enc Tryz.prog Tryz.f9 Rows.symmetryTwiceRow.domain false Rows.symmetryTwiceRow.laid) (((OpenSpec.ofChange Rows.symmetryTwiceSpec).at F).post enc Tryz.prog Tryz.f9 false true false false):=by
 obtain ⟨places,hx⟩:=reads14 os enc
 refine returnsInHanded_of_row (C:=Tryz.checked) (s:=OpenSpec.ofChange Rows.symmetryTwiceSpec) own started (by kernel_rfl) Tryz.func9
  (witness_row_atRef (enc:=enc) (C:=Tryz.checked) false (World.laidAll Tryz.prog os Rows.symmetryTwiceRow.laid) _ (World.laidAll_os _ _ _) (by kernel_rfl) (by kernel_rfl) (by kernel_rfl)
   (OpenSpec.preRow_of_cond 8 hx (by kernel_rfl) (λk hk=>by cases hk) (by kernel_rfl) (laidMet_laidAll _ (by kernel_rfl) (by kernel_rfl)))) ?_
 intro W base args ds gs before hval hW _ _ _ hL hS _
 exact contract14 H enc W base args ds gs before hval hW hL hS
theorem said14:Rows.SymmetryTwiceSaid:=
 OpenClaim.holds_of_cond 9 Tryz.f9 rfl rfl rfl rfl rfl rfl rfl ⟨rfl,rfl,rfl,rfl,rfl⟩ rfl rfl rfl rfl rfl (by kernel_rfl) Tryz.func9 closed14
  (of_decide_eq_true (by kernel_rfl)) (by unfold Func.isWrapper;first | (rw [if_pos (by decide +kernel)];kernel_rfl) | (rw [if_neg (by decide +kernel)];exact ⟨rfl,rfl⟩))
  (λos started H enc _ F=>by rw [OpenClaim.pre_eq_preRow];exact lifted14 os started H enc F)
theorem plain14 (f:FuncId) (fn:Func) (hf:Tryz.pinned.checked.prog.funcNamed Rows.symmetryTwiceRow.func=some f) (hfn:Tryz.pinned.checked.prog.funcs[f]? = some fn) :
  false=Tryz.pinned.checked.prog.looks []∧∀ (j:Nat) t,fn.params[j]? = some t→Tryz.pinned.checked.prog.wantsStandIn t=false:=by
 obtain rfl:f=9:=Option.some.inj ((show Tryz.prog.funcNamed Rows.symmetryTwiceRow.func=some 9 by kernel_rfl).symm.trans hf) |>.symm
 obtain rfl:fn=Tryz.f9:=(Option.some.inj (Tryz.func9.symm.trans hfn)).symm
 refine ⟨by kernel_rfl,λj t ht=>?_⟩
 rw [Tryz.params9] at ht
 have hall:([30,41,3,3,3,22,34].all λu=>!Tryz.prog.wantsStandIn u)=true:=by kernel_rfl
 have:=yp.1 hall t (by simpa using Array.mem_of_getElem? ht)
 exact (show Tryz.prog.wantsStandIn t=false by simpa using this)
theorem symmetryTwice_holds:Rows.SymmetryTwiceCardSaid:=
 Claim7.holds_tied_plain_at .later [] _ _ _ _ said14 (λ_ h=>by cases h) (by kernel_rfl) (λ_ h=>by cases h) symmetryTwice_row_tie rfl ⟨rfl,rfl⟩ (by kernel_rfl) rfl plain14 (by kernel_rfl)
end
end Go.Proofs.YtehefbidnkfciaaGreatDoor
