/- The law holds for every input. No condition. -/
import Derived.Test.YtbnhmfnagdgcmaaGreatDoorSh05
import Derived.Test.YtbnhmfnagdgcmaaGreatDoorCards
import Derived.Test.YtbnhmfnagdgcmaaGreatDoorTie
import Derived.JoinedCond
import Derived.Deep.DeepWitnessRowRef
import Derived.Lay
import Derived.ProofKit
set_option linter.unusedVariables false
set_option linter.unusedSectionVars false
set_option linter.unusedSimpArgs false
set_option maxHeartbeats 4000000
namespace Go.Proofs.YtbnhmfnagdgcmaaGreatDoor
open Go Go.RowKit
theorem flatMap_len {α β:Type} {f:α→List β} {B:Nat}:∀ {l:List α},(∀ x∈l,(f x).length≤B)→(l.flatMap f).length≤l.length*B
 | [],_=>by simp
 | x::l,h=>by
  have h1:=h x (by simp);have h2:=flatMap_len (l:=l) λy hy=>h y (by simp [hy])
  simp only [uu,yL,yN,uk];omega
theorem ext_len {E:Nat→Nat→Bool} {K:Nat} (hK:K≤6) (l:List Int):(ext E K l).length≤6:=by
 have:=flatMap_len (f:=ext1 E l) (B:=1) (l:=List.range (K - (fstN l+1))) λi _=>by unfold ext1;split <;> simp
 unfold ext;rw [uI] at this;omega
theorem dfs_len {E:Nat→Nat→Bool} {K:Nat} (hK:K≤6):∀ (d:Nat) (l:List Int),(dfs E K d l).length≤7 ^ d
 | 0,_=>by simp [dfs]
 | d+1,l=>by
  have h1:=ext_len (E:=E) hK l;have h2:=flatMap_len (f:=dfs E K d) (B:=7 ^ d) (l:=ext E K l) λx _=>dfs_len hK d x
  have h3:(ext E K l).length*7 ^ d≤6*7 ^ d:=yV _ h1;have h4:1≤7 ^ d:=Nat.one_le_pow _ _ (by omega);simp only [dfs,yL,Nat.pow_succ];have h5:(if closeB E l=true then [l] else []).length≤1:=by split <;> simp
  omega
structure PathL (K:Nat) (l:List Int):Prop where
 nd:l.Nodup
 pos:1≤l.length
 mem:∀ x∈l,0≤x∧x<(K:Int)
theorem PathL.len {K l} (h:PathL K l):l.length≤K:=nodup_le h.nd h.mem
theorem PathL.snoc {K l} (h:PathL K l) {b} (hb:b<K) (hm:(b:Int)∉l):PathL K (l++[(b:Int)]):=by
 refine ⟨?_,by simp,λx hx=>?_⟩
 ·rw [List.nodup_append];exact ⟨h.nd,by simp,λa ha b' hb' e=>by simp at hb';subst hb';subst e;exact hm ha⟩
 ·rcases yG.1 hx with hx | hx
  ·exact h.mem x hx
  ·simp at hx;subst hx;omega
theorem PathL.fst {K l} (h:PathL K l):idx l 0=some ((fstN l:Nat):Int)∧fstN l<K:=by
 cases l with
 | nil=>have:=h.pos;simp at this
 | cons x t=>
  have:=h.mem x (by simp);have e:fstN (x::t)=x.toNat:=rfl;rw [e];refine ⟨?_,by omega⟩;have:idx (x::t) 0=some x:=rfl;rw [this];congr 1;omega
theorem PathL.lst {K l} (h:PathL K l) (h6:K≤6):idx l (sub64 (l.length:Int) 1)=some ((lstN l:Nat):Int)∧lstN l<K:=by
 have hp:=h.pos;have hK:=h.len;have hi:l.length - 1<l.length:=by omega
 have hm:=h.mem _ (yk hi);have e:l.getLastD 0=l[l.length - 1]:=by
  rw [List.getLastD_eq_getLast?,List.getLast?_eq_getElem?,yE hi];rfl
 have e2:lstN l=l[l.length - 1].toNat:=by unfold lstN;rw [e]
 refine ⟨?_,by omega⟩;rw [sub64_1 (by omega) (by omega),idx_nat hi,e2];congr 1;omega
theorem visit_eq {n:Nat} {g:DGraph} {K:Nat} (hg:GraphOK g K) (hn:1000000≤n):∀ (d k:Nat) (l:List Int) (out:List (List Int)),PathL K l→K - l.length=d→d<k→out.length≤1000000 - 7 ^ (d+1)→d≤5 →
  digraph_visit n g k l out=some (out++dfs (hasP g) K (d+1) l):=by
 intro d
 induction d using Nat.strongRecOn with
 | ind d ih=>
  intro k l out hp hd hk ho hd5;obtain ⟨k,rfl⟩:∃ k',k=k'+1:=⟨k - 1,by omega⟩
  have hK:=hg.le;have hl1:=hp.pos;have hl2:=hp.len;have hp7:7≤7 ^ (d+1):=Nat.le_self_pow (by omega) 7;obtain ⟨e2,hfK⟩:=hp.fst;obtain ⟨e1,hlK⟩:=hp.lst hK;have h7:7 ^ (d+1)=7*7 ^ d:=by rw [Nat.pow_succ];omega
  have hone:1≤7 ^ d:=Nat.one_le_pow _ _ (by omega);have h77:7 ^ (d+1)≤117649:=by
   have:7 ^ (d+1)≤7 ^ 6:=uF (by omega) (by omega);simpa using this
  simp only [digraph_visit,e1,e2,ya,has_eq hg hlK hfK];have loop:∀ out1:List (List Int),out1.length≤out.length+1→loopF (digraph_visit.l1 n g (digraph_visit n g k) l ((lstN l:Nat):Int)) n (add64 ((fstN l:Nat):Int) 1,out1)=some (out1++(ext (hasP g) K l).flatMap (dfs (hasP g) K d)):=by
   intro out1 ho1;rw [add64_1 (by omega)];have:=loopF_app (body:=digraph_visit.l1 n g (digraph_visit n g k) l ((lstN l:Nat):Int)) (k:=K - (fstN l+1)) (n:=n) (st:=λ(o:List (List Int)) i=>(((fstN l+1+i:Nat):Int),o)) (λi=>(ext1 (hasP g) l i).flatMap (dfs (hasP g) K d)) some (7 ^ d) out1
    (λi hi=>?_) (λrec o i hi hI=>?_) (λrec o hI=>?_) (by omega)
   ·simp only [uo] at this;rw [this];unfold ext;rw [List.flatMap_assoc]
   ·have h1:=flatMap_len (f:=dfs (hasP g) K d) (B:=7 ^ d) (l:=ext1 (hasP g) l i) λx _=>dfs_len hK d x
    have h2:(ext1 (hasP g) l i).length≤1:=by unfold ext1;split <;> simp
    have h3:(ext1 (hasP g) l i).length*7 ^ d≤1*7 ^ d:=yV _ h2;omega
   ·have hb:fstN l+1+i<K:=by omega
    have hlt:decide (((fstN l+1+i:Nat):Int)<g.size)=true:=by rw [hg.size];simp;omega
    have hnx:add64 ((fstN l+1+i:Nat):Int) 1=((fstN l+1+(i+1):Nat):Int):=by rw [add64_1 (by omega)];rfl
    simp only [digraph_visit.l1,hlt,if_true,has_eq hg hlK hb,ya,hnx];unfold ext1;by_cases hh:hasP g (lstN l) (fstN l+1+i)=true
    ·rw [if_pos hh,Contains_Lint_eq (by omega) hn,ya];by_cases hm:((fstN l+1+i:Nat):Int)∈l
     ·rw [if_pos (by simpa using hm),if_neg (by simp only [hm,decide_true,y7,Bool.and_false];simp)];simp
     ·rw [if_neg (by simpa using hm),app_some (by simp;omega),ya,yZ,app_some (by simp;omega),ya,if_pos (by simp only [hh,hm,decide_false,uv,uK])];have hp2:=hp.snoc hb hm;have hlen:=hp2.len;simp only [yL,yN,ux] at hlen;have hd1:1≤d:=by omega
      have h6:i*7 ^ d≤5*7 ^ d:=yV _ (by omega);have:=ih (d - 1) (by omega) k (l++[((fstN l+1+i:Nat):Int)]) o hp2 (by simp;omega) (by omega) (by rw [show d - 1+1=d by omega];omega) (by omega);rw [show d - 1+1=d by omega] at this;rw [this,ya];simp
    ·rw [if_neg hh,if_neg (by simp only [yD] at hh;simp [hh])];simp
   ·have hge:decide (((fstN l+1+(K - (fstN l+1)):Nat):Int)<g.size)=false:=by rw [hg.size];simp;omega
    simp only [digraph_visit.l1,hge,yh,if_false]
  have hcl:closeB (hasP g) l=hasP g (lstN l) (fstN l):=rfl;simp only [dfs,hcl];by_cases hh:hasP g (lstN l) (fstN l)=true
  ·rw [if_pos hh,if_pos hh,app_some (by simp;omega),ya,yZ,app_some (by simp;omega),ya,loop _ (by simp),yT]
  ·rw [if_neg hh,if_neg hh,loop _ (by omega),yZ]
theorem cycles_eq {n g K} (hg:GraphOK g K) (hn:1000000≤n):loopF (digraph_cycles.l1 n g) n (0,[])=some ((ones K).flatMap (dfs (hasP g) K K)):=by
 have hK:=hg.le;have hd:7 ^ K≤117649:=by
  have:7 ^ K≤7 ^ 6:=uF (by omega) (by omega);simpa using this
 have:=loopF_app (body:=digraph_cycles.l1 n g) (k:=K) (n:=n) (st:=λ(o:List (List Int)) i=>((i:Int),o)) (λi=>dfs (hasP g) K K [(i:Int)]) some 117649 []
  (λi hi=>ue (dfs_len hK K _) hd) (λrec o i hi hI=>?_) (λrec o hI=>?_) (by omega)
 ·rw [ones,List.flatMap_map];simpa using this
 ·have hlt:decide ((i:Int)<g.size)=true:=by rw [hg.size];simp;omega
  have h5:i*117649≤5*117649:=yV _ (by omega);have hv:=visit_eq hg hn (K - 1) n [(i:Int)] o ⟨by simp,by simp,by simp;omega⟩ (by simp) (by omega) (by rw [show K - 1+1=K by omega];simp at hI;omega) (by omega);rw [show K - 1+1=K by omega] at hv;simp only [digraph_cycles.l1,hlt,if_true,hv,ya];rw [add64_1 (by omega)]
 ·have hge:decide ((K:Int)<g.size)=false:=by rw [hg.size];simp
  simp only [digraph_cycles.l1,hge,yh,if_false]
theorem mem_dfs {E K}:∀ (d:Nat) {l x:List Int},PathL K l→x∈dfs E K d l→PathL K x
 | 0,_,_,_,h=>by simp [dfs] at h
 | d+1,l,x,hp,h=>by
  simp only [dfs,yG,ur] at h;rcases h with h | ⟨y,hy,hx⟩
  ·split at h
   ·simp at h;subst h;exact hp
   ·simp at h
  ·obtain ⟨i,hi,-,hm,rfl⟩:=mem_ext E K hy;exact mem_dfs d (hp.snoc (by omega) hm) hx
theorem one_path {K i} (hi:i<K):PathL K [(i:Int)]:=⟨by simp,by simp,by simp;omega⟩
theorem digraph_Cycles_eq {n:Nat} {edges:List Bool} {K:Nat} (h1:1≤K) (h6:K≤6) (hl:edges.length=K*K) (hn:1000000≤n):digraph_Cycles n (K:Int) edges=some (cycP (hasP ⟨(K:Int),edges⟩) K):=by
 have hg:GraphOK ⟨(K:Int),edges⟩ K:=⟨rfl,h6,hl⟩
 have h4:K*K≤36:=uw h6 h6;have e:mul64 (K:Int) (K:Int)=((K*K:Nat):Int):=by
  unfold mul64;rw [w64_id (by rw [← uh];omega) (by rw [← uh];omega)];simp
 have hopen:digraph_open n (K:Int) edges=some (⟨(K:Int),edges⟩,true):=by
  unfold digraph_open;rw [e,hl];simp;omega
 have hd:7 ^ K≤117649:=by
  have:7 ^ K≤7 ^ 6:=uF (by omega) (by omega);simpa using this
 unfold digraph_Cycles;rw [hopen,ya,if_neg (by simp),cycles_eq hg hn,ya];have hmem:∀ x∈(ones K).flatMap (dfs (hasP ⟨(K:Int),edges⟩) K K),PathL K x:=λx hx=>by
  obtain ⟨l,hl,hx⟩:=ur.1 hx;obtain ⟨i,hi,rfl⟩:=yW.1 hl;exact mem_dfs K (one_path (yS.1 hi)) hx
 have hlen:((ones K).flatMap (dfs (hasP ⟨(K:Int),edges⟩) K K)).length≤6*117649:=by
  have:=flatMap_len (f:=dfs (hasP ⟨(K:Int),edges⟩) K K) (B:=117649) (l:=ones K) λx _=>ue (dfs_len h6 K x) hd
  have e:(ones K).length=K:=by simp [ones]
  rw [e] at this;exact ue this (yV _ h6)
 obtain ⟨s1,s2⟩:=sortO_of (f:=digraph_compare n) (c:=cmpC) (l:=(ones K).flatMap (dfs (hasP ⟨(K:Int),edges⟩) K K)) (λx hx y _=>compare_eq (by have:=(hmem x hx).len;omega) hn) (λx=>by have:=cmpC_neg x x;omega) (λ_ _ _=>cmpC_trans) (λ_ _ _=>cmpC_ntrans) (by omega);rw [s1];refine congrArg some ?_;have hp:=sortF_perm s2;have hs:=sortF_sorted s2;refine perm_uniq (R:=λx y=>¬ cmpC y x<0) (λa b h1 h2=>?_) (hp.trans (dfs_perm _ K K (ones K))) ?_ ?_
 ·have:=cmpC_neg a b;exact cmpC_zero (by omega)
 ·refine List.Pairwise.imp_of_mem (λ{a b} ha hb hab=>?_) hs;have ha':=hmem a (hp.mem_iff.1 ha);have hb':=hmem b (hp.mem_iff.1 hb);rw [compare_eq (by have:=hb'.len;omega) hn] at hab;exact hab
 ·refine (all_pw _ K K 1 (ones K) (ones_pw K).1 (ones_pw K).2).imp λ{a b} h=>?_
  have:=cmpC_neg a b;omega
theorem lev_path {E K}:∀ (r:Nat) {ls:List (List Int)},(∀ l∈ls,PathL K l)→∀ l∈lev E K r ls,PathL K l
 | 0,_,h=>h
 | r+1,ls,h=>lev_path r λx hx=>by
  obtain ⟨l,hl,hx⟩:=ur.1 hx;obtain ⟨i,hi,-,hm,rfl⟩:=mem_ext E K hx;exact (h l hl).snoc (by omega) hm
theorem ones_path {K}:∀ l∈ones K,PathL K l:=λl hl=>by
 obtain ⟨i,hi,rfl⟩:=yW.1 hl;exact one_path (yS.1 hi)
structure SameA (a:Action):Prop where
 add:∀ c,addP c a.effect.delta 0=addedP a.effect.delta c
 len:a.effect.delta.length≤20
section
variable {n:Nat} {c:Constraint} {a b:Action} {K:Nat} (ha:SameA a) (hb:SameA b) (h6:K≤6) (hn:1000000≤n)
include ha hb h6 hn
end


section
variable {E:Nat→Nat→Bool} {K:Nat}
theorem anyR_iff {p}:∀ {k i:Nat},anyR p i k=true↔∃ j,i≤j∧j<i+k∧p j=true
 | 0,i=>by simp [anyR];omega
 | k+1,i=>by
  simp only [anyR,yx,anyR_iff (k:=k) (i:=i+1)];constructor
  ·rintro (h | ⟨j,h1,h2,h3⟩)
   ·exact ⟨i,yo _,by omega,h⟩
   ·exact ⟨j,by omega,by omega,h3⟩
  ·rintro ⟨j,h1,h2,h3⟩;by_cases e:i=j
   ·subst e;exact .inl h3
   ·exact .inr ⟨j,by omega,by omega,h3⟩
theorem lev_flat:∀ (r:Nat) (ls:List (List Int)),lev E K r ls=ls.flatMap λl=>lev E K r [l]
 | 0,ls=>by simp [lev]
 | r+1,ls=>by
  have e:∀ l,lev E K (r+1) [l]=(ext E K l).flatMap λx=>lev E K r [x]:=λl=>by
   have:lev E K (r+1) [l]=lev E K r (ext E K l):=by simp [lev]
   rw [this,lev_flat r]
  simp only [e];rw [lev,lev_flat r,List.flatMap_assoc]
theorem fstN_snoc {l x} (h:l≠[]):fstN (l++[x])=fstN l:=by
 cases l with
 | nil=>exact absurd rfl h
 | cons a t=>rfl
theorem lstN_snoc {l:List Int} {x:Nat}:lstN (l++[(x:Int)])=x:=by simp [lstN]
theorem mem_ext_iff {l x}:x∈ext E K l↔∃ j,fstN l+1≤j∧j<K∧E (lstN l) j=true∧(j:Int)∉l∧x=l++[(j:Int)]:=by
 constructor
 ·intro h;obtain ⟨i,h1,h2,h3,h4⟩:=mem_ext E K h;exact ⟨fstN l+1+i,by omega,by omega,h2,h3,h4⟩
 ·rintro ⟨j,h1,h2,h3,h4,rfl⟩;refine ur.2 ⟨j - (fstN l+1),yS.2 (by omega),?_⟩;have e:fstN l+1+(j - (fstN l+1))=j:=by omega
  unfold ext1;rw [e,if_pos (by simp [h3,h4])];simp
theorem neP_lev:∀ (d:Nat) (path:List Int) (first last:Nat),path≠[]→fstN path=first→lstN path=last →
  (neP E K d path first last=true↔∃ x∈lev E K d [path],closeB E x=true)
 | 0,path,first,last,_,h1,h2=>by
  subst h1 h2;simp [neP,lev,closeB]
 | d+1,path,first,last,h0,h1,h2=>by
  subst h1 h2;have e:lev E K (d+1) [path]=lev E K d (ext E K path):=by simp [lev]
  rw [e,lev_flat,neP,anyR_iff];simp only [ur];constructor
  ·rintro ⟨j,j1,j2,j3⟩;simp only [yc,yA,y9,yF,Bool.not_eq_false'] at j3;obtain ⟨⟨j3,j4⟩,j5⟩:=j3;obtain ⟨x,x1,x2⟩:=(neP_lev d (path++[(j:Int)]) (fstN path) j (by simp) (fstN_snoc h0) lstN_snoc).1 j5;exact ⟨x,⟨_,mem_ext_iff.2 ⟨j,j1,by omega,j4,j3,rfl⟩,x1⟩,x2⟩
  ·rintro ⟨x,⟨y,y1,y2⟩,x2⟩;obtain ⟨j,j1,j2,j3,j4,rfl⟩:=mem_ext_iff.1 y1;refine ⟨j,j1,by omega,?_⟩;simp only [yc,yA,y9,yF,Bool.not_eq_false'];exact ⟨⟨j4,j3⟩,(neP_lev d (path++[(j:Int)]) (fstN path) j (by simp) (fstN_snoc h0) lstN_snoc).2 ⟨x,y2,x2⟩⟩
theorem mem_cycP {x}:x∈cycP E K↔∃ r,r<K∧x∈lev E K r (ones K)∧closeB E x=true:=by
 simp only [cycP,ur,yS,List.mem_filter]
theorem acycE_iff:acycE E K=true↔∀ x,x∉cycP E K:=by
 unfold acycE;rw [allR_iff];constructor
 ·intro h x hx;obtain ⟨r,r1,r2,r3⟩:=mem_cycP.1 hx;rw [lev_flat] at r2;obtain ⟨l,l1,l2⟩:=ur.1 r2;obtain ⟨a,a1,rfl⟩:=yW.1 l1;have:=allR_0.1 (h (r+1) (by omega) (by omega)) a (yS.1 a1);rw [Nat.add_sub_cancel,(neP_lev r [(a:Int)] a a (by simp) (by simp [fstN]) (by simp [lstN])).2 ⟨x,l2,r3⟩] at this;cases this
 ·intro h len h1 h2;refine allR_0.2 λa ha=>?_
  cases hn:neP E K (len - 1) [(a:Int)] a a with
  | false=>rfl
  | true=>
   obtain ⟨x,x1,x2⟩:=(neP_lev (len - 1) [(a:Int)] a a (by simp) (by simp [fstN]) (by simp [lstN])).1 hn;refine absurd (mem_cycP.2 ⟨len - 1,by omega,?_,x2⟩) (h x);rw [lev_flat];exact ur.2 ⟨_,yW.2 ⟨a,yS.2 ha,rfl⟩,x1⟩
theorem cycP_path {x} (h:x∈cycP E K):PathL K x:=by
 obtain ⟨r,-,r2,-⟩:=mem_cycP.1 h;exact lev_path r ones_path x r2
structure Walk (E:Nat→Nat→Bool) (K p:Nat) (f:Nat→Nat):Prop where
 per:∀ i,f (i+p)=f i
 lt:∀ i,f i<K
 edge:∀ i,E (f i) (f (i+1))=true
end
theorem sto_at {α:Type} {l:List α} {i:Nat} {x:α} (h:i<l.length):sto l (i:Int) x=some (l.set i x):=by
 unfold sto;simp [h]


section
variable {c:Constraint} {K:Nat} {box:List Range} {s:List Int} {da db:List Change}
end
def relB (q:Question) (i:Int):Bool:=q.target.hold||(q.target.index != i)
def brokenP (m:Model) (q:Question) (a b:Action) (s:List Int):Bool:=
 if q.target.hold=true then !holdsP ⟨0,0,(idx a.effect.hold q.target.index).getD default,0,0⟩ (plusP s b.effect.delta)
 else !holdsP ((idx m.constraints q.target.index).getD default) (plusP (plusP s a.effect.delta) b.effect.delta)
def showsP (m:Model) (q:Question) (rows:List Int) (a b:Action) (s:List Int):Bool:=
 (possP m a.effect s&&possP m b.effect s)&&(rows.all (λi=>!(relB q i&&!holdsP ((idx m.constraints i).getD default) (plusP (plusP s a.effect.delta) b.effect.delta)))&&brokenP m q a b s)
structure Scene (n:Nat) (m:Model) (q:Question) (a b:Action) (s:List Int):Prop where
 small:SmallM m
 valid:ValidM m
 quest:questP m q=true
 ha:idx m.actions q.e=some a
 hb:idx m.actions q.f=some b
 box:inBox (boxM m) s=true
 len:(boxM m).length≤100
 fuel:4294967296≤n
section
variable {n:Nat} {m:Model} {q:Question} {rows:List Int} {a b:Action} {s:List Int}
theorem holds_row {c} (hk:c.kind=0) (x):holdsP c x=decide (sumP x c.row.terms≤c.row.bound):=by
 unfold holdsP;rw [if_neg (by omega)]
end
theorem badR_ok {m} {rows:List Int} (h:(rows.all λx=>!badR m x)=true):∀ i∈rows,∃ (k:Nat) (hk:k<m.constraints.length),i=(k:Int)∧m.constraints[k].kind=0:=λi hi=>by
 have:=yn.1 h i hi;unfold badR at this;simp only [yA,y9,yF,Int.not_lt,Int.not_le,bne_eq_false_iff_eq] at this;obtain ⟨⟨h1,h2⟩,h3⟩:=this;obtain ⟨k,rfl⟩:=yQ h1;have hk:k<m.constraints.length:=by omega
 rw [idx_nat hk,yi] at h3;exact ⟨k,hk,rfl,h3⟩
def elemP (s:Swap) (x:Int):Int:=if x=s.a then s.b else if x=s.b then s.a else x
structure SwapOK (sizes:List Int) (s:Swap):Prop where
 sort:colOK sizes s.sort=true
 a:0≤s.a
 ab:s.a<s.b
 b:s.b<sizes.getD s.sort.toNat 0
def nK (sizes:List Int) (c:Int):Nat:=(sizes.getD c.toNat 0).toNat
def colS (s:Swap) (c:Int) (x:Nat):Nat:=if c=s.sort then (elemP s (x:Int)).toNat else x
section
variable {sizes:List Int} {s:Swap} (h:SwapOK sizes s)
include h
end
def digP (sizes:List Int) (s:Swap):List Int→Nat→Nat
 | [],_=>0
 | c::cs,r=>colS s c (r % nK sizes c)+nK sizes c*digP sizes s cs (r / nK sizes c)
def mvT (sizes:List Int) (s:Swap) (strict:Bool):List Table→Int→Int
 | [],_=>-1
 | t::l,c=>if (strictP t.kind==strict&&(decide (t.first≤c)&&decide (c<t.first+widthP sizes t.columns 1)))=true then t.first+((digP sizes s t.columns.reverse (c - t.first).toNat:Nat):Int) else mvT sizes s strict l c
def mvS (sizes:List Int) (s:Swap) (strict:Bool):List Table→Int→Int
 | [],_=>-1
 | t::l,c=>if (strictP t.kind==strict&&(decide (0≤sub64 c t.first)&&decide (sub64 c t.first<widthP sizes t.columns 1)))=true then t.first+((digP sizes s t.columns.reverse (sub64 c t.first).toNat:Nat):Int) else mvS sizes s strict l c
section
variable {sizes:List Int} {s:Swap} (h:SwapOK sizes s) (hs:sizes.all sizeOK=true)
include h hs
end
def mvC (m:Model) (s:Swap) (c:Int):Int:=mvT m.sorts s true m.tables c
structure Swp (m:Model) (s:Swap):Prop where
 ok:SwapOK m.sorts s
 lay:layoutP m.sorts m.tables=true
theorem list_ext {a b:List Int} (hl:a.length=b.length) (h:∀ i:Nat,i<a.length→a.getD i 0=b.getD i 0):a=b:=by
 refine List.ext_getElem hl λi h1 h2=>?_
 have:=h i h1;simpa [ui,h1,h2] using this
theorem inBox_of:∀ {box:List Range} {x:List Int},x.length=box.length→(∀ (i:Nat) (h1:i<box.length) (h2:i<x.length),box[i].lo≤x[i]∧x[i]≤box[i].hi)→inBox box x=true
 | [],[],_,_=>rfl
 | [],_::_,h,_=>by simp at h
 | _::_,[],h,_=>by simp at h
 | r::box,v::x,h,hi=>by
  have h0:=hi 0 (by simp) (by simp);simp only [List.getElem_cons_zero] at h0;have ih:=inBox_of (box:=box) (x:=x) (by simpa using h) λi h1 h2=>by
   have:=hi (i+1) (by simp;omega) (by simp;omega);simpa using this
  simp [inBox,h0.1,h0.2,ih]
def insT (t:Term):List Term→List Term
 | []=>[t]
 | u::l=>if t.cell<u.cell then t::u::l else u::insT t l
def mvt (m:Model) (s:Swap) (t:Term):Term:=⟨mvC m s t.cell,t.factor⟩
def rowL (m:Model) (s:Swap) (l:List Term) (acc:List Term):List Term:=l.foldl (λacc t=>insT (mvt m s t) acc) acc
def rowM (m:Model) (s:Swap) (r:Row):Row:=⟨rowL m s r.terms [],r.bound⟩
def deltaB (m:Model) (s:Swap) (e f:Effect):Bool:=e.delta.all λd=>f.delta.any λg=>(g.cell==mvC m s d.cell)&&(g.add==d.add)
def holdB (m:Model) (s:Swap) (e f:Effect):Bool:=e.hold.all λr=>decide (e.hold.count r=f.hold.count (rowM m s r))
def updB (m:Model) (s:Swap) (e f:Effect):Bool:=e.updates.all λu=>decide (e.updates.count u=f.updates.count ⟨u.kind,mvS m.sorts s false m.tables u.cell,u.value⟩)
def alikeB (m:Model) (s:Swap) (e f:Effect):Bool:=(decide (e.delta.length=f.delta.length)&&(decide (e.hold.length=f.hold.length)&&decide (e.updates.length=f.updates.length)))&&(deltaB m s e f&&(holdB m s e f&&updB m s e f))
structure EffS (e:Effect):Prop where
 delta:e.delta.length≤1000∧∀ d∈e.delta,-1000000≤d.cell∧d.cell≤1000000
 hold:e.hold.length≤1000∧∀ r∈e.hold,r.terms.length≤500∧∀ t∈r.terms,-1000000≤t.cell∧t.cell≤1000000
 upd:e.updates.length≤1000
def argM (s:Swap) (sorts args:List Int):List Int:=(List.range args.length).map λi:Nat=>if sorts.getD i 0=s.sort then elemP s (args.getD i 0) else args.getD i 0
def actB (m:Model) (s:Swap) (a b:Action):Bool:=(b.operation==a.operation&&decide (b.arguments=argM s (opAt m a).sorts a.arguments))&&alikeB m s a.effect b.effect
structure ActS (m:Model):Prop where
 len:m.actions.length≤1000
 act:∀ a∈m.actions,EffS a.effect∧(∃ o,idx m.operations a.operation=some o∧o.sorts.length=a.arguments.length)∧a.arguments.length≤100
def fstP (p:Nat→Bool):Nat→Nat→Option Nat
 | _,0=>none
 | i,k+1=>if p i=true then some i else fstP p (i+1) k
theorem fstP_some {p:Nat→Bool}:∀ {k i j:Nat},fstP p i k=some j→(i≤j∧j<i+k)∧p j=true∧∀ x,i≤x→x<j→p x=false
 | 0,i,j,h=>by simp [fstP] at h
 | k+1,i,j,h=>by
  rw [fstP] at h;by_cases hp:p i=true
  ·rw [if_pos hp] at h;cases h;exact ⟨by omega,hp,λx h1 h2=>by omega⟩
  ·rw [if_neg hp] at h;obtain ⟨h1,h2,h3⟩:=fstP_some h;refine ⟨by omega,h2,λx x1 x2=>?_⟩;by_cases e:x=i
   ·subst e;simpa using hp
   ·exact h3 x (by omega) x2
theorem fstP_none {p:Nat→Bool}:∀ {k i:Nat},fstP p i k=none→∀ x,i≤x→x<i+k→p x=false
 | 0,i,h,x,h1,h2=>by omega
 | k+1,i,h,x,h1,h2=>by
  rw [fstP] at h;by_cases hp:p i=true
  ·rw [if_pos hp] at h;cases h
  ·rw [if_neg hp] at h;by_cases e:x=i
   ·subst e;simpa using hp
   ·exact fstP_none h x (by omega) (by omega)
def conAt (m:Model) (i:Nat):Constraint:=m.constraints.getD i default
theorem conAt_eq {m:Model} {i:Nat} (hi:i<m.constraints.length):conAt m i=m.constraints[i]:=by simp [conAt,hi]
def sameC (c d:Constraint):Bool:=((d.kind==c.kind)&&(d.family==c.family))&&decide (d.row=c.row)
def rankP (m:Model) (i:Nat):Nat:=(m.constraints.take i).countP (sameC (conAt m i))
def conB (m:Model) (s:Swap) (i j:Nat):Bool:=((((conAt m j).kind==(conAt m i).kind)&&((conAt m j).family==(conAt m i).family))&&decide ((conAt m j).row=rowM m s (conAt m i).row))&&decide (rankP m j=rankP m i)
structure ConS (m:Model):Prop where
 len:m.constraints.length≤1000
 con:∀ c∈m.constraints,c.row.terms.length≤500∧∀ t∈c.row.terms,-1000000≤t.cell∧t.cell≤1000000
def risT (l:List Term):Prop:=l.Pairwise λa b=>a.cell<b.cell
structure RowIn (m:Model) (r:Row):Prop where
 ris:risT r.terms
 term:∀ t∈r.terms,termOK (boxM m).length t
section
variable {m:Model} {s:Swap} (h:Swp m s)
include h
end
theorem added_none {c:Int}:∀ {l:List Change},(∀ d∈l,d.cell≠c)→addedP l c=0
 | [],_=>rfl
 | d::l,h=>by
  rw [addedP,if_neg (h d (by simp)),added_none λe he=>h e (by simp [he])]
structure EffIn (m:Model) (e:Effect):Prop where
 nd:(e.delta.map (·.cell)).Nodup
 cell:∀ d∈e.delta,0≤d.cell∧d.cell<((boxM m).length:Int)
 hold:∀ r∈e.hold,RowIn m r
section
variable {m:Model} {s:Swap} (h:Swp m s)
include h
end
def rhoI (m:Model) (s:Swap) (a:Action):Int:=ixP (actB m s a) m.actions 0
def sigI (m:Model) (s:Swap) (i:Nat):Nat:=if (conAt m i).kind=1 then i else (fstP (conB m s i) 0 m.constraints.length).getD 0
def symB (m:Model) (s:Swap):Bool:=(m.actions.all λa=>decide (0≤rhoI m s a))&&allR (λi=>decide ((conAt m i).kind=1)||(fstP (conB m s i) 0 m.constraints.length).isSome) 0 m.constraints.length
structure Sym (m:Model) (s:Swap):Prop where
 small:SmallM m
 valid:ValidM m
 swap:SwapOK m.sorts s
 sym:symB m s=true
section
variable {m:Model} {s:Swap} (h:Sym m s)
include h
end
theorem plus_comm (s:List Int) (d e:List Change):plusP (plusP s d) e=plusP (plusP s e) d:=by
 unfold plusP;rw [yR,uI,yR,uI];refine List.map_congr_left λi hi=>?_
 have hi':=yS.1 hi;simp [List.getD,hi'];omega
structure TgtMv (m:Model) (s:Swap) (q p:Question) (a A:Action):Prop where
 hold:p.target.hold=q.target.hold
 con:q.target.hold=false→∃ i:Nat,i<m.constraints.length∧q.target.index=(i:Int)∧p.target.index=((sigI m s i:Nat):Int)
 row:q.target.hold=true→∃ r,idx a.effect.hold q.target.index=some r∧idx A.effect.hold p.target.index=some (rowM m s r)
section
variable {m:Model} {s:Swap} {q p:Question} {a b A B:Action} (h:Sym m s)
include h
end
structure QMv (m:Model) (s:Swap) (q p:Question) (a b:Action):Prop where
 out:∃ (k l:Nat) (hk:k<m.actions.length) (hl:l<m.actions.length),actB m s a m.actions[k]=true∧actB m s b m.actions[l]=true∧(q.e=q.f→k=l)∧TgtMv m s q p a m.actions[k] ∧
  (q.target.hold=true→p.e=(k:Int)∧p.f=(l:Int))∧(q.target.hold=false→p.e≤p.f∧((p.e=(k:Int)∧p.f=(l:Int))∨(p.e=(l:Int)∧p.f=(k:Int))))

def wideS (x:List Int):Prop:=∀ v∈x,-9223372036854775808≤v∧v≤9223372036854775807
theorem parts64 {x:Int} (h1 : -9223372036854775808≤x) (h2:x≤9223372036854775807):(-2147483648≤x.tdiv 4294967296∧x.tdiv 4294967296≤2147483648)∧(-4294967296≤x.tmod 4294967296∧x.tmod 4294967296≤4294967296)∧x=x.tdiv 4294967296*4294967296+x.tmod 4294967296:=by
 rcases Int.le_total 0 x with h | h
 ·rw [Int.tdiv_eq_ediv_of_nonneg h,Int.tmod_eq_emod_of_nonneg h];omega
 ·obtain ⟨y,rfl⟩:∃ y,x = -y:=⟨-x,by omega⟩
  rw [Int.neg_tdiv,Int.neg_tmod,Int.tdiv_eq_ediv_of_nonneg (by omega),Int.tmod_eq_emod_of_nonneg (by omega)];omega
theorem ref12_smallW {n:Nat} {r:Row} {s:List Int} (ht:∀ t∈r.terms,termOK s.length t) (hl:r.terms.length≤1000) (hs:wideS s) (hb : -4000000000≤r.bound∧r.bound≤4000000000) (hn:1000000≤n):ref12_small n r s=some (decide (sumP s r.terms≤r.bound)):=by
 have:=loopF_I (body:=ref12_small.l1 n r s) (len:=r.terms.length) (st:=λ(p:Int×Int) i=>(p.1,p.2,(i:Int))) (g:=λ_ _=>some (decide (sumP s r.terms≤r.bound))) (λi p=>p.1*4294967296+p.2+sumP s (r.terms.drop i)=sumP s r.terms∧(-(2147483648000*i:Int)≤p.1∧p.1≤2147483648000*i)∧(-(4294967296000*i:Int)≤p.2∧p.2≤4294967296000*i)) (λrec i p hi hI hr=>?_) (λrec p hI=>?_) n 0 (0,0) (yu _) (by omega) ⟨by simp,by simp,by simp⟩
 ·simpa [ref12_small] using this
 ·obtain ⟨a,b⟩:=p
  obtain ⟨h1,h2,h3⟩:=hI
  simp only [] at h1 h2 h3
  obtain ⟨t1,t2,t3,t4⟩:=ht _ (yk hi)
  have hx:=hs _ (getD_mem t1 t2)
  rw [drop_cons hi,sumP] at h1
  generalize hxv:s.getD r.terms[i].cell.toNat 0=x at *
  have hidx:idx s r.terms[i].cell=some x:=by rw [getD_idx t1 t2,hxv]
  have hq:quo64 x 4294967296=some (x.tdiv 4294967296):=by
   unfold quo64
   rw [if_neg (by decide)]
   have:=(parts64 hx.1 hx.2).1
   rw [w64_id (by omega) (by omega)]
  have hr4:rem64 x 4294967296=some (x.tmod 4294967296):=by unfold rem64;rw [if_neg (by decide)]
  obtain ⟨hqb,hrb,hqr⟩:=parts64 hx.1 hx.2
  generalize x.tdiv 4294967296=q at *
  generalize x.tmod 4294967296=m at *
  have m1:=mul_bd t3 t4 hqb.1 hqb.2
  have m2:=mul_bd t3 t4 hrb.1 hrb.2
  have hmul:r.terms[i].factor*x=r.terms[i].factor*q*4294967296+r.terms[i].factor*m:=by
   rw [hqr,Int.mul_add,Int.mul_assoc]
  rw [hmul] at h1
  have e1:mul64 r.terms[i].factor q=r.terms[i].factor*q:=by unfold mul64;exact w64_id (by omega) (by omega)
  have e2:mul64 r.terms[i].factor m=r.terms[i].factor*m:=by unfold mul64;exact w64_id (by omega) (by omega)
  have hlen:(i:Int)≤1000:=by omega
  have e3:add64 a (r.terms[i].factor*q)=a+r.terms[i].factor*q:=by unfold add64;exact w64_id (by omega) (by omega)
  have e4:add64 b (r.terms[i].factor*m)=b+r.terms[i].factor*m:=by unfold add64;exact w64_id (by omega) (by omega)
  simp only [ref12_small.l1,lt_len hi,if_true,idx_nat hi,ya,hidx,hq,hr4,e1,e2,e3,e4,add64_1 (i:=i) (by omega)]
  exact hr (a+r.terms[i].factor*q,b+r.terms[i].factor*m) ⟨by simp only [];omega,by simp only [];omega,by simp only [];omega⟩
 ·obtain ⟨a,b⟩:=p
  obtain ⟨h1,h2,h3⟩:=hI
  simp only [List.drop_length,sumP,Int.add_zero] at h1 h2 h3
  have hlen:(r.terms.length:Int)≤1000:=by omega
  have s1:shrO .i64 b 32=some (b / 4294967296):=by
   unfold shrO
   rw [if_neg (by decide),Int.fdiv_eq_ediv_of_nonneg _ (by decide)]
   rfl
  have s2:shrO .i64 r.bound 32=some (r.bound / 4294967296):=by
   unfold shrO
   rw [if_neg (by decide),Int.fdiv_eq_ediv_of_nonneg _ (by decide)]
   rfl
  have e3:add64 a (b / 4294967296)=a+b / 4294967296:=by unfold add64;exact w64_id (by omega) (by omega)
  simp only [ref12_small.l1,ge_len,yh,if_false,s1,s2,ya,e3,band_low (x:=b) (by omega) (by omega),band_low (x:=r.bound) (by omega) (by omega),yf]
  rw [Bool.eq_iff_iff]
  simp only [yx,yc,yd,beq_iff_eq]
  omega
theorem HoldsW_eq {n c s} (hC:ConIn c s.length) (hs:wideS s) (hl:s.length≤1000) (hn:4294967296≤n):ref14_Holds n c s=some (holdsP c s):=by
 unfold ref14_Holds ref12_Holds holdsP
 cases hC with
 | row hk ht htl hb=>
  have hin:ref12_inside n c (s.length:Int)=some true:=by
   unfold ref12_inside
   rw [if_neg (by simp [hk])]
   have:=loopF_g (body:=ref12_inside.l1 n c (s.length:Int)) (len:=c.row.terms.length) (st:=λi=>(i:Int)) (g:=λ_=>some true) (λrec i hi hr=>?_) (λrec=>?_) n 0 (yu _) (by omega)
   ·simpa using this
   ·obtain ⟨t1,t2,-⟩:=ht _ (yk hi)
    have h1:decide (c.row.terms[i].cell<0)=false:=by simp;omega
    have h2:decide ((s.length:Int)≤c.row.terms[i].cell)=false:=by simp;omega
    simp only [ref12_inside.l1,lt_len hi,if_true,idx_nat hi,ya,yj,yy,grd,yi,h1,h2,Bool.or_self,yh,if_false,add64_1 (i:=i) (by omega),hr]
   ·simp [ref12_inside.l1,hk]
  have hk1:¬ c.kind=1:=by omega
  rw [hin,ya,if_neg (by simp),if_neg (by simp [hk]),ref12_smallW ht htl hs hb (by omega),if_neg hk1]
  rfl
 | graph size hk hsz h1 h6 h0 hf=>
  have hG:GraphIn c s size:=⟨hsz,h1,h6,h0,hf,hl⟩
  obtain ⟨l,hc1,hc2⟩:=Cycle_eq hk hG hn
  have hin:ref12_inside n c (s.length:Int)=some true:=by
   have hsq:((size*size:Nat):Int)=(size:Int)*(size:Int):=uh _ _
   have:size*size≤6*6:=uw h6 h6
   unfold ref12_inside
   have e1:mul64 c.size c.size=((size*size:Nat):Int):=by unfold mul64;rw [hsz,← hsq];exact w64_id (by omega) (by omega)
   have e2:sub64 (s.length:Int) ((size*size:Nat):Int)=(s.length:Int) - ((size*size:Nat):Int):=by unfold sub64;exact w64_id (by omega) (by omega)
   rw [if_pos (by simp [hk]),e1,e2,hsz]
   simp only [yf,yc,yd]
   omega
  rw [hin,ya,if_neg (by simp),if_pos (by simp [hk]),hc1,if_pos hk,hsz]
  simp only [ya,hc2,yp]
theorem neg_sm {v:Int} (h1 : -9999≤v) (h2:v≤9999):neg64 v = -v:=by unfold neg64;exact w64_id (by omega) (by omega)
section
variable {m:Model} (hS:SmallM m) (hV:ValidM m)
include hS hV
theorem box_30:(boxM m).length≤30:=by
 have hc:=hV.cons
 have:=hS.constraints
 simp only [consP,yc,yd] at hc
 unfold boxM
 omega
theorem box_of {x:List Int} (hx:x.length=(boxM m).length) (h:∀ c∈m.constraints,holdsP c x=true):inBox (boxM m) x=true:=by
 refine inBox_of hx λj h1 h2=>?_
 have hc:=hV.cons
 simp only [consP,yc,yd] at hc
 have hb:=yn.1 (box_good hV.lay) _ (yk h1)
 simp only [yc,yd] at hb
 have h1':j<(rangesP m.sorts true m.tables).length:=h1
 have i0:2*j<m.constraints.length:=by omega
 have i1:2*j+1<m.constraints.length:=by omega
 have a0:=allR_0.1 hc.2 (2*j) i0
 have a1:=allR_0.1 hc.2 (2*j+1) i1
 have d0:2*j / 2=j:=by omega
 have d1:(2*j+1) / 2=j:=by omega
 have e0:2*j % 2=0:=by omega
 have e1:(2*j+1) % 2=1:=by omega
 simp only [idx_nat i0,yi,conP,yc,d0,h1',decide_true,y7,uf,beq_iff_eq,yd] at a0
 simp only [idx_nat i1,yi,conP,yc,d1,h1',decide_true,y7,uf,beq_iff_eq,yd] at a1
 have b0:=h _ (yk i0)
 have b1:=h _ (yk i1)
 have hg:x.getD j 0=x[j]:=by simp [ui,h2]
 rw [holds_row (by omega),a0.2.2] at b0
 rw [holds_row (by omega),a1.2.2] at b1
 simp only [boundRow,d0,d1,e0,e1,if_true,show ¬ (1=0) by omega,if_false,idx_nat h1',yi,sumP,yp,hg,yd] at b0 b1
 have hlo:(rangesP m.sorts true m.tables)[j]=(boxM m)[j]:=rfl
 rw [hlo] at b0 b1
 rw [neg_sm (by omega) (by omega)] at b0
 omega
theorem sound_eq {n:Nat} {x:List Int} (hx:x.length=(boxM m).length) (hw:wideS x) (hn:4294967296≤n):ref14_Valid n m x=some (m.constraints.all λc=>holdsP c x):=by
 have hcl:=hS.constraints
 have hb:=box_30 hS hV
 have hstr:ref13_Strict n m=some (boxM m):=by
  unfold ref13_Strict
  rw [ref13_Valid_eq hn hS,validP_iff.2 hV,ya,if_neg (by simp),ref13_strict_eq (by omega) hS,ya]
  unfold strictR boxM
  rw [if_pos hV.lay]
 have hfit:ref14_fits n m x=some true:=by
  unfold ref14_fits
  rw [ref13_Valid_eq hn hS,validP_iff.2 hV,ya,hstr]
  simp [grd,hx]
 have hs:ref14_Sound n m x=some (m.constraints.all λc=>holdsP c x):=by
  unfold ref14_Sound
  have:=loopF_lall (body:=ref14_Sound.l1 n m x) (l:=m.constraints) (n:=n) (st:=λi=>(i:Int)) (λc=>holdsP c x) (some false) (some true) (λrec i hi=>?_) (λrec=>?_) (by omega)
  ·rw [show ((0:Nat):Int)=0 from rfl] at this
   rw [this]
   cases (m.constraints.all λc=>holdsP c x) <;> rfl
  ·have hin:=con_in hS hV (yk hi)
   rw [← hx] at hin
   simp only [ref14_Sound.l1,lt_len hi,if_true,idx_nat hi,ya,HoldsW_eq hin hw (by omega) hn,add64_1 (i:=i) (by omega)]
   cases holdsP m.constraints[i] x <;> simp
  ·simp only [ref14_Sound.l1,ge_len,yh,if_false]
 unfold ref14_Valid
 rw [hfit,ya,hs]
 simp [grd]
end
def midS (s:List Int):Prop:=∀ v∈s,-1200000000000≤v∧v≤1200000000000
theorem midS.wide {s} (h:midS s):wideS s:=λv hv=>by have:=h v hv;omega
theorem sSum_eq {n:Nat} {r:Row} {x:List Int} (hx:midS x) (ht:∀ t∈r.terms,termOK x.length t) (hl:r.terms.length≤1000) (hn:1000000≤n):scenario_sum n r x=some (sumP x r.terms):=by
 have:=loopF_I (body:=scenario_sum.l1 n r x) (len:=r.terms.length) (st:=λ(a:Int) i=>(a,(i:Int))) (g:=λi a=>some (a+sumP x (r.terms.drop i))) (λi a=>-(1200000000000000*(i:Int))≤a∧a≤1200000000000000*(i:Int)) (λrec i a hi hI hr=>?_) (λrec a hI=>?_) n 0 0 (yu _) (by omega) (by simp)
 ·simpa [scenario_sum] using this
 ·obtain ⟨t1,t2,t3,t4⟩:=ht _ (yk hi)
  have hv:=hx _ (getD_mem t1 t2)
  have m1:=mul_bd t3 t4 hv.1 hv.2
  rw [drop_cons hi,sumP]
  have hidx:=getD_idx t1 t2
  generalize x.getD r.terms[i].cell.toNat 0=v at *
  have e1:mul64 r.terms[i].factor v=r.terms[i].factor*v:=by unfold mul64;exact w64_id (by omega) (by omega)
  have e2:add64 a (r.terms[i].factor*v)=a+r.terms[i].factor*v:=by unfold add64;exact w64_id (by omega) (by omega)
  simp only [scenario_sum.l1,lt_len hi,if_true,idx_nat hi,ya,hidx,e1,e2,add64_1 (i:=i) (by omega)]
  rw [hr _ (by omega)]
  congr 1
  omega
 ·simp only [scenario_sum.l1,ge_len,yh,if_false,List.drop_length,sumP,Int.add_zero]
def edgesL (c:Constraint) (s:List Int) (N:Nat):List Bool:=(List.range N).map λ(k:Nat)=>decide (1≤s.getD (c.first+(k:Int)).toNat 0)
theorem edgesL_len (c s N):(edgesL c s N).length=N:=by simp [edgesL]
def cyc1 (c:Constraint) (s:List Int):List Int:=(cycP (hasP ⟨c.size,edgesL c s (c.size.toNat*c.size.toNat)⟩) c.size.toNat).headD []
theorem mkl_b {b k:Nat} (h:k*b≤140737488355328):mkl b (k:Int) (false:Bool)=some (List.replicate k false):=by
 unfold mkl
 rw [if_pos (by simp;omega)]
 simp
theorem dCycle_eq {n:Nat} {edges:List Bool} {K:Nat} (h1:1≤K) (h6:K≤6) (hl:edges.length=K*K) (hn:1000000≤n):digraph_Cycle n (K:Int) edges=some ((cycP (hasP ⟨(K:Int),edges⟩) K).headD []):=by
 unfold digraph_Cycle
 rw [digraph_Cycles_eq h1 h6 hl hn,ya]
 cases cycP (hasP ⟨(K:Int),edges⟩) K with
 | nil=>rfl
 | cons x l=>
  rw [if_neg (by simp;omega)]
  rfl
theorem sCycle_eq {n:Nat} {c:Constraint} {s:List Int} {size:Nat} (hG:GraphIn c s size) (hn:1000000≤n):scenario_cycle n c s=some (cyc1 c s):=by
 have hs:=hG.sz
 have h6:=hG.six
 have h1:=hG.pos
 have h0:=hG.first
 have hf:=hG.fits
 have hlen:=hG.len
 have h4:size*size≤36:=uw h6 h6
 have e:mul64 c.size c.size=((size*size:Nat):Int):=by
  rw [hs];unfold mul64
  rw [w64_id (by rw [← uh];omega) (by rw [← uh];omega)];simp
 have hst:c.size.toNat=size:=by omega
 unfold scenario_cycle cyc1
 rw [e,mkl_b (by omega),ya,hst]
 have:=loopF_g (body:=scenario_cycle.l1 n c s (List.replicate (size*size) false)) (len:=size*size) (st:=λi=>((edgesL c s (size*size)).take i++List.replicate (size*size - i) false,(i:Int))) (g:=λ_=>some ((cycP (hasP ⟨c.size,edgesL c s (size*size)⟩) size).headD [])) (λrec i hi hr=>?_) (λrec=>?_) n 0 (yu _) (by omega)
 ·simpa using this
 ·have hle:i<(edgesL c s (size*size)).length:=by rw [edgesL_len];exact hi
  have hlt:decide ((i:Int)<((List.replicate (size*size) false).length:Int))=true:=by simp;omega
  have ha:add64 c.first (i:Int)=c.first+(i:Int):=by unfold add64;exact w64_id (by omega) (by omega)
  have hx:=getD_idx (s:=s) (c:=c.first+(i:Int)) (by omega) (by omega)
  have hbl:i<((edgesL c s (size*size)).take i++List.replicate (size*size - i) false).length:=by simp [edgesL_len];omega
  simp only [scenario_cycle.l1,hlt,if_true,ha,hx,ya]
  rw [idx_nat hbl,ya,sto_at hbl,ya,add64_1 (by omega),← hr]
  congr 2
  rw [yB hle,yT]
  have e2:size*size - i=(size*size - (i+1))+1:=by omega
  rw [e2,List.replicate_succ,List.set_append_right _ _ (by simp [edgesL_len];omega)]
  have e3:i - ((edgesL c s (size*size)).take i).length=0:=by simp [edgesL_len];omega
  rw [e3,List.set_cons_zero]
  congr 1
  simp [edgesL]
 ·have hge:decide (((size*size:Nat):Int)<((List.replicate (size*size) false).length:Int))=false:=by simp
  simp only [scenario_cycle.l1,hge,yh,if_false,uH,List.replicate_zero,uA]
  rw [List.take_of_length_le (by rw [edgesL_len];exact yo _),hs,dCycle_eq h1 h6 (edgesL_len _ _ _) hn]
  rfl
theorem hasP_edges {c:Constraint} {s:List Int} {size a b:Nat} (hs:c.size=(size:Int)) (ha:a<size) (hb:b<size):hasP ⟨c.size,edgesL c s (size*size)⟩ a b=edgeP s c a b:=by
 have hp:=pair_lt ha hb
 unfold hasP edgeP
 simp only
 have hst:c.size.toNat=size:=by omega
 have e:c.first+(a:Int)*c.size+(b:Int)=c.first+((a*size+b:Nat):Int):=by rw [hs,Int.natCast_add,uh];omega
 rw [hst,e]
 simp [edgesL,ui,hp]
theorem cyc1_nil {c:Constraint} {s:List Int} {size:Nat} (hG:GraphIn c s size):((cyc1 c s).length==0)=acycE (edgeP s c) size:=by
 have hs:=hG.sz
 have hst:c.size.toNat=size:=by omega
 unfold cyc1
 rw [hst]
 have hE:acycE (hasP ⟨c.size,edgesL c s (size*size)⟩) size=acycE (edgeP s c) size:=by
  rw [Bool.eq_iff_iff]
  exact ⟨acycE_mono λa b ha hb h=>by rw [hasP_edges hs ha hb];exact h,acycE_mono λa b ha hb h=>by rw [← hasP_edges hs ha hb];exact h⟩
 rw [← hE]
 cases hc:cycP (hasP ⟨c.size,edgesL c s (size*size)⟩) size with
 | nil=>
  have:acycE (hasP ⟨c.size,edgesL c s (size*size)⟩) size=true:=acycE_iff.2 λx hx=>by rw [hc] at hx;cases hx
  rw [this];rfl
 | cons x l=>
  have hx:x∈cycP (hasP ⟨c.size,edgesL c s (size*size)⟩) size:=by rw [hc];simp
  have h1:acycE (hasP ⟨c.size,edgesL c s (size*size)⟩) size=false:=by
   rw [← yD]
   intro h
   exact acycE_iff.1 h x hx
  rw [h1]
  have:=(cycP_path hx).pos
  simp only [List.headD_cons,ub]
  omega
theorem sHolds_eq {n c s} (hC:ConIn c s.length) (hs:midS s) (hl:s.length≤1000) (hn:1000000≤n):scenario_holds n c s=some (holdsP c s):=by
 unfold scenario_holds
 cases hC with
 | row hk ht htl hb=>
  rw [if_pos (by simp [hk]),sSum_eq hs ht htl hn,ya,holds_row hk]
 | graph size hk hsz h1 h6 h0 hf=>
  have hG:GraphIn c s size:=⟨hsz,h1,h6,h0,hf,hl⟩
  have hst:c.size.toNat=size:=by omega
  rw [if_neg (by simp [hk]),sCycle_eq hG hn,ya]
  unfold holdsP
  rw [if_pos hk,hst,← cyc1_nil hG]
  congr 1
  rw [Bool.eq_iff_iff]
  simp
def brkP (m:Model) (s:List Int):List Int:=raisedP (λi=>!holdsP ((idx m.constraints i).getD default) s) 0 m.constraints.length
theorem raisedP_sn (p:Int→Bool):∀ (k i:Nat),raisedP p i (k+1)=raisedP p i k++(if p ((i+k:Nat):Int)=true then [((i+k:Nat):Int)] else [])
 | 0,i=>by
  simp only [raisedP,uo,yZ]
 | k+1,i=>by
  rw [raisedP,raisedP_sn p k (i+1)]
  conv=>rhs;rw [raisedP]
  rw [show i+1+k=i+(k+1) by omega]
  split <;> simp
theorem brk_loop {n m s} {body:(List Int×Int→Option (List Int))→List Int×Int→Option (List Int)} (hl:m.constraints.length≤1000)
  (hb:∀ rec (out:List Int) (i:Nat) (hi:i<m.constraints.length),out.length≤1000→body rec (out,(i:Int))=if holdsP m.constraints[i] s=true then rec (out,((i+1:Nat):Int)) else rec (out++[(i:Int)],((i+1:Nat):Int)))
  (he:∀ rec out,body rec (out,(m.constraints.length:Int))=some out) (hn:1000000≤n):loopF body n ([],0)=some (brkP m s):=by
 have:=loopF_g (body:=body) (len:=m.constraints.length) (st:=λi=>(raisedP (λi=>!holdsP ((idx m.constraints i).getD default) s) 0 i,(i:Int))) (g:=λ_=>some (brkP m s)) (λrec i hi hr=>?_) (λrec=>?_) n 0 (yu _) (by omega)
 ·exact this
 ·rw [hb rec _ i hi (by have:=raisedP_len (λi=>!holdsP ((idx m.constraints i).getD default) s) i 0;omega),← hr,raisedP_sn,um,idx_nat hi,yi]
  cases holdsP m.constraints[i] s <;> simp
 ·exact he rec _
theorem brk_nil {m s}:((brkP m s).length==0)=m.constraints.all λc=>holdsP c s:=by
 unfold brkP
 have key:∀ (k i:Nat) (p:Int→Bool),((raisedP p i k).length==0)=true↔∀ j,i≤j→j<i+k→p (j:Int)=false:=by
  intro k
  induction k with
  | zero=>intro i p;simp [raisedP];omega
  | succ k ih=>
   intro i p
   rw [raisedP]
   by_cases hp:p (i:Int)=true
   ·rw [if_pos hp]
    simp only [yN,beq_iff_eq]
    constructor
    ·intro h;omega
    ·intro h
     have:=h i (yo _) (by omega)
     rw [hp] at this;cases this
   ·rw [if_neg hp,ih]
    constructor
    ·intro h j h1 h2
     by_cases e:j=i
     ·subst e;simpa using hp
     ·exact h j (by omega) (by omega)
    ·intro h j h1 h2
     exact h j (by omega) (by omega)
 rw [Bool.eq_iff_iff,key,yn]
 constructor
 ·intro h c hc
  obtain ⟨i,hi,rfl⟩:=List.getElem_of_mem hc
  have:=h i (yu _) (by omega)
  rw [idx_nat hi] at this
  simpa using this
 ·intro h j _ hj
  have hj:j<m.constraints.length:=by omega
  rw [idx_nat hj]
  simpa using h _ (yk hj)
theorem mem_brk {m s} {i:Int}:i∈brkP m s↔∃ (j:Nat) (hj:j<m.constraints.length),i=(j:Int)∧holdsP m.constraints[j] s=false:=by
 unfold brkP
 have key:∀ (k i0:Nat) (p:Int→Bool),i∈raisedP p i0 k↔∃ j:Nat,i0≤j∧j<i0+k∧i=(j:Int)∧p (j:Int)=true:=by
  intro k
  induction k with
  | zero=>intro i0 p;simp [raisedP];omega
  | succ k ih=>
   intro i0 p
   rw [raisedP]
   by_cases hp:p (i0:Int)=true
   ·rw [if_pos hp,yI,ih]
    constructor
    ·rintro (h | ⟨j,h1,h2,h3⟩)
     ·exact ⟨i0,yo _,by omega,h,hp⟩
     ·exact ⟨j,by omega,by omega,h3⟩
    ·rintro ⟨j,h1,h2,h3,h4⟩
     by_cases e:j=i0
     ·subst e;exact .inl h3
     ·exact .inr ⟨j,by omega,by omega,h3,h4⟩
   ·rw [if_neg hp,ih]
    constructor
    ·rintro ⟨j,h1,h2,h3⟩
     exact ⟨j,by omega,by omega,h3⟩
    ·rintro ⟨j,h1,h2,h3,h4⟩
     by_cases e:j=i0
     ·subst e;exact absurd h4 hp
     ·exact ⟨j,by omega,by omega,h3,h4⟩
 rw [key]
 constructor
 ·rintro ⟨j,-,h2,h3,h4⟩
  have hj:j<m.constraints.length:=by omega
  rw [idx_nat hj] at h4
  exact ⟨j,hj,h3,by simpa using h4⟩
 ·rintro ⟨j,hj,h3,h4⟩
  exact ⟨j,yu _,by omega,h3,by rw [idx_nat hj];simp [h4]⟩
theorem sBroken_eq {n m s} (hC:∀ c∈m.constraints,ConIn c s.length) (hs:midS s) (hl:s.length≤1000) (hcl:m.constraints.length≤1000) (hn:1000000≤n):scenario_broken n m s=some (brkP m s):=by
 unfold scenario_broken
 refine brk_loop hcl (λrec out i hi ho=>?_) (λrec out=>?_) hn
 ·simp only [scenario_broken.l1,lt_len hi,if_true,idx_nat hi,jn,ya,sHolds_eq (hC _ (yk hi)) hs hl hn,add64_1 (i:=i) (by omega)]
  cases holdsP m.constraints[i] s with
  | true=>simp
  | false=>
   simp only [uv,if_true,yh,if_false]
   rw [app_some (by simp;omega),ya]
 ·simp only [scenario_broken.l1,ge_len,yh,if_false]
theorem added_snoc {d:Change} {c:Int}:∀ {l:List Change},(∀ e∈l,e.cell≠d.cell)→addedP (l++[d]) c=if d.cell=c then d.add else addedP l c
 | [],_=>by simp [addedP]
 | e::l,h=>by
  have ih:=added_snoc (d:=d) (c:=c) (l:=l) λx hx=>h x (by simp [hx])
  have he:=h e (by simp)
  rw [y6,addedP,addedP,ih]
  by_cases h1:e.cell=c
  ·rw [if_pos h1,if_pos h1,if_neg (by omega)]
  ·rw [if_neg h1,if_neg h1]
structure ActD (K:Nat) (d:List Change):Prop where
 small:smallD d
 cell:∀ e∈d,0≤e.cell∧e.cell<(K:Int)
 nd:(d.map (·.cell)).Nodup
 len:d.length≤1000
theorem actD_of {m} (hS:SmallM m) (hV:ValidM m) {a} (ha:a∈m.actions):ActD (boxM m).length a.effect.delta:=by
 have h:=(valid_act hV ha).1
 simp only [effP,yc,yn] at h
 obtain ⟨p1,p2⟩:=deltaP_spec _ _ h.1
 obtain ⟨-,h1,-⟩:=hS.act a ha
 exact ⟨λx hx=>by have:=p1 x hx;omega,λe he=>by have:=p1 e he;unfold boxM;omega,p2,by omega⟩
def lowS (s:List Int):Prop:=∀ v∈s,-1099511627776≤v∧v≤1099511627776
theorem lowS.mid {s} (h:lowS s):midS s:=λv hv=>by have:=h v hv;omega
theorem lowS.plus {s d} (h:lowS s) (hd:smallD d):midS (plusP s d):=λv hv=>by
 have:=plus_small (B:=1099511627776) h hd v hv
 omega
theorem lowS.plus2 {s d e} (h:lowS s) (hd:smallD d) (he:smallD e):midS (plusP (plusP s d) e):=λv hv=>by
 have:=plus_small (B:=1100511627776) (λx hx=>by have:=plus_small (B:=1099511627776) h hd x hx;omega) he v hv
 omega
theorem plus_nil (x:List Int):plusP x []=x:=by
 refine list_ext (by rw [plus_len]) λi hi=>?_
 rw [plus_len] at hi
 have:=plus_get (s:=x) (d:=[]) (c:=(i:Int)) (by omega) (by omega)
 rw [yp] at this
 rw [this];simp [addedP]
theorem sBehind_in {n:Nat} {x16:Int} {rec50:List Int×Int→Option (List Int)} {a:Action} {x:List Int} (hx:midS x) (hl:x.length≤1000) (hd:ActD x.length a.effect.delta) (hn:1000000≤n):loopF (scenario_behind.l2 n x16 rec50 a) n (x,0)=rec50 (plusP x a.effect.delta,add64 x16 1):=by
 have hdl:=hd.len
 have:=loopF_g (body:=scenario_behind.l2 n x16 rec50 a) (len:=a.effect.delta.length) (st:=λi=>(plusP x (a.effect.delta.take i),(i:Int))) (g:=λ_=>rec50 (plusP x a.effect.delta,add64 x16 1)) (λrec i hi hr2=>?_) (λrec=>?_) n 0 (yu _) (by omega)
 ·rw [List.take_zero,plus_nil] at this;exact this
 ·obtain ⟨c0,c1⟩:=hd.cell _ (yk hi)
  obtain ⟨c,hcc⟩:=yQ c0
  have hcx:c<x.length:=by omega
  have hne:∀ e∈a.effect.delta.take i,e.cell≠a.effect.delta[i].cell:=λe he hee=>by
   obtain ⟨j,hj,rfl⟩:=List.getElem_of_mem he
   rw [yO] at hj
   have hji:j<i:=by omega
   have hnd:=hd.nd
   rw [List.nodup_iff_pairwise_ne,List.pairwise_iff_getElem] at hnd
   have:=hnd j i (by simp;omega) (by simp;omega) hji
   simp only [List.getElem_map] at this
   simp only [List.getElem_take] at hee
   exact this hee
  have hpl:(plusP x (a.effect.delta.take i)).length=x.length:=plus_len _ _
  have hz:addedP (a.effect.delta.take i) (c:Int)=0:=added_none λe he=>by have:=hne e he;omega
  have hg:=plus_get (s:=x) (d:=a.effect.delta.take i) (c:=(c:Int)) (by omega) (by omega)
  rw [yp,hz,Int.add_zero] at hg
  have hgi:idx (plusP x (a.effect.delta.take i)) (c:Int)=some (x.getD c 0):=by
   rw [getD_idx (by omega) (by omega),yp,hg]
  have hv:=hx _ (getD_mem (s:=x) (c:=(c:Int)) (by omega) (by omega))
  rw [yp] at hv
  have hda:=hd.small _ (yk hi)
  have hadd:add64 (x.getD c 0) a.effect.delta[i].add=x.getD c 0+a.effect.delta[i].add:=by unfold add64;exact w64_id (by omega) (by omega)
  simp only [scenario_behind.l2,lt_len hi,if_true,idx_nat hi,ya,hcc,hgi]
  rw [hadd,sto_at (by omega),ya,add64_1 (by omega),← hr2]
  congr 2
  refine list_ext (by rw [List.length_set,plus_len,plus_len]) λj hj=>?_
  rw [List.length_set,plus_len] at hj
  have hg2:=plus_get (s:=x) (d:=a.effect.delta.take (i+1)) (c:=(j:Int)) (by omega) (by omega)
  have hg3:=plus_get (s:=x) (d:=a.effect.delta.take i) (c:=(j:Int)) (by omega) (by omega)
  rw [yp] at hg2 hg3
  rw [hg2,yB hi,added_snoc hne,hcc]
  by_cases e:c=j
  ·subst e
   rw [if_pos rfl]
   simp [ui,hpl,hcx]
  ·rw [if_neg (by omega),← hg3]
   simp [ui,List.getElem?_set,e]
 ·simp only [scenario_behind.l2,ge_len,yh,if_false,List.take_length]
theorem sBehind_step {n f:Nat} {m:Model} {acts:List Int} {i:Nat} {k:Int} {a:Action} {x:List Int} (hi:i<acts.length) (hk:acts[i]=k) (ha:idx m.actions k=some a) (hil:i<1000) (hx:midS x) (hl:x.length≤1000) (hd:ActD x.length a.effect.delta) (hn:1000000≤n) :
  loopF (scenario_behind.l1 n m acts) (f+1) (x,(i:Int))=loopF (scenario_behind.l1 n m acts) f (plusP x a.effect.delta,((i+1:Nat):Int)):=by
 conv=>lhs;rw [loopF]
 simp only [scenario_behind.l1,lt_len hi,if_true,idx_nat hi,hk,ya,ha]
 rw [sBehind_in hx hl hd hn,add64_1 (by omega)]
theorem sBehind_end {n f:Nat} {m:Model} {acts:List Int} {x:List Int}:loopF (scenario_behind.l1 n m acts) (f+1) (x,(acts.length:Int))=some x:=by
 rw [loopF]
 simp only [scenario_behind.l1,ge_len,yh,if_false]
theorem sBehind_1 {n:Nat} {m:Model} {i:Int} {a:Action} {x:List Int} (ha:idx m.actions i=some a) (hx:midS x) (hl:x.length≤1000) (hd:ActD x.length a.effect.delta) (hn:1000000≤n):scenario_behind n m x [i]=some (plusP x a.effect.delta):=by
 unfold scenario_behind
 rw [app_some (by simp;omega),ya,yZ]
 obtain ⟨f,hf⟩:∃ f,n=f+1+1:=⟨n - 2,by omega⟩
 have h1:=sBehind_step (n:=n) (f:=f+1) (m:=m) (acts:=[i]) (i:=0) (by simp) rfl ha (by omega) hx hl hd hn
 have h2:=sBehind_end (n:=n) (f:=f) (m:=m) (acts:=[i]) (x:=plusP x a.effect.delta)
 have e:loopF (scenario_behind.l1 n m [i]) n (x,0)=loopF (scenario_behind.l1 n m [i]) (f+1+1) (x,((0:Nat):Int)):=by rw [← hf];rfl
 rw [e,h1];exact h2
theorem sBehind_2 {n:Nat} {m:Model} {i j:Int} {a b:Action} {x:List Int} (ha:idx m.actions i=some a) (hb:idx m.actions j=some b) (hx:midS x) (hx2:midS (plusP x a.effect.delta)) (hl:x.length≤1000) (hd:ActD x.length a.effect.delta) (hd2:ActD x.length b.effect.delta) (hn:1000000≤n):scenario_behind n m x [i,j]=some (plusP (plusP x a.effect.delta) b.effect.delta):=by
 unfold scenario_behind
 rw [app_some (by simp;omega),ya,yZ]
 obtain ⟨f,hf⟩:∃ f,n=f+1+1+1:=⟨n - 3,by omega⟩
 have h1:=sBehind_step (n:=n) (f:=f+1+1) (m:=m) (acts:=[i,j]) (i:=0) (by simp) rfl ha (by omega) hx hl hd hn
 have h2:=sBehind_step (n:=n) (f:=f+1) (m:=m) (acts:=[i,j]) (i:=1) (by simp) rfl hb (by omega) hx2 (by rw [plus_len];exact hl) (by rw [plus_len];exact hd2) hn
 have h3:=sBehind_end (n:=n) (f:=f) (m:=m) (acts:=[i,j]) (x:=plusP (plusP x a.effect.delta) b.effect.delta)
 have e:loopF (scenario_behind.l1 n m [i,j]) n (x,0)=loopF (scenario_behind.l1 n m [i,j]) (f+1+1+1) (x,((0:Nat):Int)):=by rw [← hf];rfl
 rw [e,h1,h2];exact h3
theorem PlusM_eq {n e s} (h1:e.delta.length<4611686018427387904) (h2:e.delta.length<n) (ha:∀ k,addP k e.delta 0=addedP e.delta k) (hd:smallD e.delta) (hs:midS s) (hl:s.length≤1000) (hn:1000000≤n):ref22_Plus n s e=some (plusP s e.delta):=by
 unfold ref22_Plus
 have:=loopF_g (body:=ref22_Plus.l1 n s e) (len:=s.length) (st:=λi=>((plusP s e.delta).take i,(i:Int))) (g:=λ_=>some (plusP s e.delta)) (λrec i hi hr=>?_) (λrec=>?_) n 0 (yu _) (by omega)
 ·simpa using this
 ·have hip:i<(plusP s e.delta).length:=by rw [plus_len];exact hi
  rw [yB hip] at hr
  have hel:(plusP s e.delta)[i]=s[i]+addedP e.delta (i:Int):=by simp [plusP,List.getD,hi]
  have hb:=hs _ (yk hi)
  have hd':=added_small hd (i:Int)
  have hadd:add64 s[i] (addedP e.delta (i:Int))=s[i]+addedP e.delta (i:Int):=by unfold add64;exact w64_id (by omega) (by omega)
  simp only [ref22_Plus.l1,lt_len hi,if_true,idx_nat hi,ya,ref22_Add_eq _ h1 h2,ha,hadd,add64_1 (i:=i) (by omega)]
  rw [app_some (by simp;omega),ya,← hel]
  exact hr
 ·simp only [ref22_Plus.l1,ge_len,yh,if_false]
  rw [List.take_of_length_le (by rw [plus_len];exact yo _)]
structure SceneM (n:Nat) (m:Model) (q:Question) (a b:Action) (s:List Int):Prop where
 small:SmallM m
 valid:ValidM m
 quest:questP m q=true
 ha:idx m.actions q.e=some a
 hb:idx m.actions q.f=some b
 len:s.length=(boxM m).length
 low:lowS s
 fuel:4294967296≤n
section
variable {n:Nat} {m:Model} {q:Question} {rows:List Int} {a b:Action} {s:List Int}
theorem SceneM.box (h:SceneM n m q a b s):(boxM m).length≤30:=box_30 h.small h.valid
theorem SceneM.dA (h:SceneM n m q a b s):ActD s.length a.effect.delta:=by rw [h.len];exact actD_of h.small h.valid (idx_mem h.ha)
theorem SceneM.dB (h:SceneM n m q a b s):ActD s.length b.effect.delta:=by rw [h.len];exact actD_of h.small h.valid (idx_mem h.hb)
theorem SceneM.con (h:SceneM n m q a b s) {x:List Int} (hx:x.length=s.length) {c} (hc:c∈m.constraints):ConIn c x.length:=by
 rw [hx,h.len];exact con_in h.small h.valid hc
theorem all_and {α:Type} {f g:α→Bool}:∀ (l:List α),l.all (λc=>f c&&g c)=(l.all f&&l.all g)
 | []=>rfl
 | x::l=>by
  rw [uj,uj,uj,all_and l]
  cases f x <;> cases g x <;> cases l.all f <;> rfl
theorem possP_eq (m:Model) (e:Effect) (s:List Int):possP m e s=(((m.constraints.all λc=>holdsP c s)&&(m.constraints.all λc=>holdsP c (plusP s e.delta)))&&e.hold.all λr=>holdsP ⟨0,0,r,0,0⟩ s):=by
 unfold possP
 rw [all_and]
theorem hold_in (h:SceneM n m q a b s) {x:Action} (hx:x∈m.actions) {r:Row} (hr:r∈x.effect.hold):(∀ t∈r.terms,termOK s.length t)∧r.terms.length≤1000∧ConIn ⟨0,0,r,0,0⟩ s.length:=by
 have h1:=(act_delta h.valid hx).2 r hr
 obtain ⟨-,-,-,-,h4⟩:=h.small.act x hx
 have h5:=h4 r hr
 have h6:=row_in h1 (by omega)
 rw [← h.len] at h6
 have h7:=h1
 simp only [rowOK,yc] at h7
 rw [h.len]
 exact ⟨rowP_terms h7.1 (by decide),by omega,by rw [← h.len];exact h6⟩
theorem sPoss_eq (h:SceneM n m q a b s) {i:Int} {x:Action} (hx:idx m.actions i=some x):scenario_possible n m i s=some ((x.effect.hold.all λr=>holdsP ⟨0,0,r,0,0⟩ s)&&(m.constraints.all λc=>holdsP c (plusP s x.effect.delta))):=by
 have hn:=h.fuel
 have hb:=h.box
 have hsl:=h.len
 have hxm:=idx_mem hx
 have hcl:=h.small.constraints
 obtain ⟨a1,a2,a3,a4,a5⟩:=h.small.act x hxm
 have hd:ActD s.length x.effect.delta:=by rw [h.len];exact actD_of h.small h.valid hxm
 unfold scenario_possible
 rw [hx,ya]
 have:=loopF_lall (body:=scenario_possible.l1 n m i s x) (l:=x.effect.hold) (n:=n) (st:=λi=>(i:Int)) (λr=>holdsP ⟨0,0,r,0,0⟩ s) (some false) (some (m.constraints.all λc=>holdsP c (plusP s x.effect.delta))) (λrec k hk=>?_) (λrec=>?_) (by omega)
 ·rw [show ((0:Nat):Int)=0 from rfl] at this
  rw [this]
  cases (x.effect.hold.all λr=>holdsP ⟨0,0,r,0,0⟩ s) <;> rfl
 ·obtain ⟨r1,r2,-⟩:=hold_in h hxm (yk hk)
  have hh:holdsP ⟨0,0,x.effect.hold[k],0,0⟩ s=decide (sumP s x.effect.hold[k].terms≤x.effect.hold[k].bound):=holds_row (c:=⟨0,0,x.effect.hold[k],0,0⟩) rfl s
  simp only [scenario_possible.l1,lt_len hk,if_true,idx_nat hk,ya,sSum_eq h.low.mid r1 r2 (show 1000000≤n by omega),add64_1 (i:=k) (by omega),hh]
  by_cases e:x.effect.hold[k].bound<sumP s x.effect.hold[k].terms
  ·rw [if_pos (by simpa using e),if_neg (by simp;omega)]
  ·rw [if_neg (by simpa using e),if_pos (by simp;omega)]
 ·simp only [scenario_possible.l1,ge_len,yh,if_false]
  rw [sBehind_1 hx h.low.mid (by omega) hd (by omega),ya,sBroken_eq (λc hc=>h.con (by rw [plus_len]) hc) (h.low.plus hd.small) (by rw [plus_len];omega) (by omega) (by omega),ya,← brk_nil]
  congr 1
  rw [Bool.eq_iff_iff]
  simp
theorem bad_ex (h:(rows.all λx=>!badR m x)=false):∃ (k:Nat) (hk:k<rows.length),badR m rows[k]=true∧∀ (j:Nat) (hj:j<k),badR m rows[j]=false:=by
 induction rows with
 | nil=>cases h
 | cons x l ih=>
  rw [uj] at h
  by_cases hx:badR m x=true
  ·exact ⟨0,by simp,hx,λj hj=>by omega⟩
  ·simp only [yD] at hx
   rw [hx,uv,yC] at h
   obtain ⟨k,h1,h2,h3⟩:=ih h
   refine ⟨k+1,by simp;omega,by simpa using h2,λj hj=>?_⟩
   cases j with
   | zero=>exact hx
   | succ j=>simpa using h3 j (by omega)
theorem sValid_in (h:SceneM n m q a b s) (hl:rows.length≤1000):∀ sc:Scenario,sc.question=q→sc.state=s→loopF (scenario_Valid.l1 n m sc rows) n 0=some ((rows.all λx=>!badR m x)&&showsP m q rows a b s):=by
 intro sc hq hst
 have hn:=h.fuel
 have hb:=h.box
 have hsl:=h.len
 have hcl:=h.small.constraints
 obtain ⟨q1,q2,q3,q4,q5⟩:=questP_spec h.quest
 have ham:=idx_mem h.ha
 have hbm:=idx_mem h.hb
 have hmid:=h.low.mid
 have hA:=h.dA
 have hB:=h.dB
 have hpl:(plusP (plusP s a.effect.delta) b.effect.delta).length=s.length:=by rw [plus_len,plus_len]
 have hcon:∀ c∈m.constraints,scenario_holds n c (plusP (plusP s a.effect.delta) b.effect.delta)=some (holdsP c (plusP (plusP s a.effect.delta) b.effect.delta)):=λc hc=>sHolds_eq (h.con hpl hc) (h.low.plus2 hA.small hB.small) (by omega) (by omega)
 have hend:∀ rec,scenario_Valid.l2 n m sc rows (plusP (plusP s a.effect.delta) b.effect.delta) rec (rows.length:Int)=some (brokenP m q a b s):=λrec=>by
  simp only [scenario_Valid.l2,ge_len,yh,if_false,hq,hst]
  unfold brokenP
  cases hh:q.target.hold with
  | true=>
   simp only [if_true]
   obtain ⟨r,hr⟩:=idx_some q3 (q4 hh a h.ha)
   obtain ⟨r1,r2,-⟩:=hold_in h ham (idx_mem hr)
   rw [h.ha,ya,hr,ya,sBehind_1 h.hb hmid (by omega) hB (by omega),ya,sSum_eq (h.low.plus hB.small) (by rw [plus_len];exact r1) r2 (by omega),ya,yi,holds_row (c:=⟨0,0,r,0,0⟩) rfl]
   congr 1
   rw [Bool.eq_iff_iff]
   simp
  | false=>
   simp only [yh,if_false]
   obtain ⟨c,hc⟩:=idx_some q3 (q5 hh).2
   rw [hc,ya,hcon c (idx_mem hc)]
   rfl
 have hloop2:(rows.all λx=>!badR m x)=true→loopF (scenario_Valid.l2 n m sc rows (plusP (plusP s a.effect.delta) b.effect.delta)) n 0=some ((rows.all λi=>!(relB q i&&!holdsP ((idx m.constraints i).getD default) (plusP (plusP s a.effect.delta) b.effect.delta)))&&brokenP m q a b s):=λhgood=>by
  have:=loopF_lall (body:=scenario_Valid.l2 n m sc rows (plusP (plusP s a.effect.delta) b.effect.delta)) (l:=rows) (n:=n) (st:=λi=>(i:Int)) (λi=>!(relB q i&&!holdsP ((idx m.constraints i).getD default) (plusP (plusP s a.effect.delta) b.effect.delta))) (some false) (some (brokenP m q a b s)) (λrec i hi=>?_) (λrec=>hend rec) (by omega)
  ·rw [show ((0:Nat):Int)=0 from rfl] at this
   rw [this]
   cases (rows.all λi=>!(relB q i&&!holdsP ((idx m.constraints i).getD default) (plusP (plusP s a.effect.delta) b.effect.delta))) <;> rfl
  ·obtain ⟨k,hk,e,-⟩:=badR_ok hgood _ (yk hi)
   have hc:idx m.constraints rows[i]=some m.constraints[k]:=by rw [e];exact idx_nat hk
   have hrel:(q.target.hold||(rows[i] != q.target.index))=relB q rows[i]:=by
    unfold relB
    rw [bne_comm (a:=rows[i])]
   simp only [scenario_Valid.l2,lt_len hi,if_true,idx_nat hi,ya,yj,yy,grd,yi,hc,hcon _ (yk hk),add64_1 (i:=i) (by omega),hq,hrel]
   cases relB q rows[i]&&!holdsP m.constraints[k] (plusP (plusP s a.effect.delta) b.effect.delta) <;> simp
 have hbr:scenario_broken n m s=some (brkP m s):=sBroken_eq (λc hc=>h.con rfl hc) hmid (by omega) (by omega) (by omega)
 have hbeh:=sBehind_2 h.ha h.hb hmid (h.low.plus hA.small) (by omega) hA hB (show 1000000≤n by omega)
 have hbn:decide (0<((brkP m s).length:Int)) = !(m.constraints.all λc=>holdsP c s):=by
  rw [← brk_nil]
  cases brkP m s with
  | nil=>rfl
  | cons x l=>simp
 have hl1:∀ rec,(rows.all λx=>!badR m x)=true→scenario_Valid.l1 n m sc rows rec (rows.length:Int)=some (showsP m q rows a b s):=λrec hgood=>by
  simp only [scenario_Valid.l1,ge_len,yh,if_false,hq,hst,hbr,ya,sPoss_eq h h.ha,sPoss_eq h h.hb,yj,yy,grd,if_true,yi,hbeh,hloop2 hgood,hbn]
  unfold showsP
  rw [possP_eq,possP_eq]
  generalize (rows.all λi=>!(relB q i&&!holdsP ((idx m.constraints i).getD default) (plusP (plusP s a.effect.delta) b.effect.delta)))=X
  cases (m.constraints.all λc=>holdsP c s) <;> cases (m.constraints.all λc=>holdsP c (plusP s a.effect.delta)) <;> cases (m.constraints.all λc=>holdsP c (plusP s b.effect.delta)) <;> cases (a.effect.hold.all λr=>holdsP ⟨0,0,r,0,0⟩ s) <;> cases (b.effect.hold.all λr=>holdsP ⟨0,0,r,0,0⟩ s) <;> simp
 have hstep:∀ rec (i:Nat) (hi:i<rows.length),scenario_Valid.l1 n m sc rows rec (i:Int)=if badR m rows[i]=true then some false else rec ((i+1:Nat):Int):=λrec i hi=>by
  simp only [scenario_Valid.l1,lt_len hi,if_true,idx_nat hi,ya,add64_1 (i:=i) (by omega)]
  unfold badR
  generalize rows[i]=r
  by_cases h0:r<0
  ·simp [h0,grd]
  ·by_cases h1:(m.constraints.length:Int)≤r
   ·simp [h1,grd]
   ·obtain ⟨c,hc⟩:=idx_some (l:=m.constraints) (i:=r) (by omega) (by omega)
    simp only [hc,yj,yy,grd,if_true,yi]
 cases hg:rows.all λx=>!badR m x with
 | true=>
  have:=loopF_g (body:=scenario_Valid.l1 n m sc rows) (len:=rows.length) (st:=λi=>(i:Int)) (g:=λ_=>some (showsP m q rows a b s)) (λrec i hi hr=>?_) (λrec=>hl1 rec hg) n 0 (yu _) (by omega)
  ·rw [show ((0:Nat):Int)=0 from rfl] at this
   rw [this];rfl
  ·have:=yn.1 hg _ (yk hi)
   simp only [yA] at this
   rw [hstep rec i hi,this,if_neg (by simp)]
   exact hr
 | false=>
  obtain ⟨k,h1,h2,h3⟩:=bad_ex hg
  have:=loopF_g (body:=scenario_Valid.l1 n m sc rows) (len:=k) (st:=λi=>(i:Int)) (g:=λ_=>some false) (λrec i hi hr=>?_) (λrec=>?_) n 0 (yu _) (by omega)
  ·rw [show ((0:Nat):Int)=0 from rfl] at this
   rw [this];rfl
  ·rw [hstep rec i (by omega),h3 i hi,if_neg (by simp)]
   exact hr
  ·rw [hstep rec k h1,h2,if_pos rfl]
end
section
variable {n:Nat} {m:Model} {q:Question} {rows:List Int} {a b:Action} {s:List Int}
theorem addA (h:SceneM n m q a b s) {x:Action} (hx:x∈m.actions):x.effect.delta.length<4611686018427387904∧x.effect.delta.length<n∧(∀ k,addP k x.effect.delta 0=addedP x.effect.delta k):=by
 obtain ⟨g1,g2,g3,-⟩:=(good_of_valid h.fuel h.small h.valid).acts x hx
 exact ⟨g1,g2,g3⟩
theorem rPlus (h:SceneM n m q a b s) {x:Action} (hx:x∈m.actions) {y:List Int} (hy:midS y) (hl:y.length=s.length):ref22_Plus n y x.effect=some (plusP y x.effect.delta):=by
 obtain ⟨g1,g2,g3⟩:=addA h hx
 have:=h.box
 have:=h.len
 have:=h.fuel
 exact PlusM_eq g1 g2 g3 (actD_of h.small h.valid hx).small hy (by omega) (by omega)
theorem rRow (h:SceneM n m q a b s) {x:Action} (hx:x∈m.actions) {r:Row} (hr:r∈x.effect.hold) {y:List Int} (hy:wideS y) (hl:y.length=s.length):ref22_Row n r y=some (holdsP ⟨0,0,r,0,0⟩ y):=by
 have:=h.box
 have:=h.len
 obtain ⟨-,-,r3⟩:=hold_in h hx hr
 unfold ref22_Row
 rw [HoldsW_eq (by rw [hl];exact r3) hy (by omega) h.fuel];rfl
theorem Equal_Lint_eq {x y:List Int} (hl:x.length<1000000) (hn:1000000≤n):slices_Equal_Lint_int n x y=some (decide (x=y)):=by
 unfold slices_Equal_Lint_int
 by_cases e:x.length=y.length
 ·rw [if_neg (by simp [e])]
  have:=loopF_g (body:=slices_Equal_Lint_int.l1 n x y) (len:=x.length) (st:=λi=>(i:Int)) (g:=λi=>some (decide (x.drop i=y.drop i))) (λrec i hi hr=>?_) (λrec=>?_) n 0 (yu _) (by omega)
  ·simpa using this
  ·have hi2:i<y.length:=by omega
   simp only [slices_Equal_Lint_int.l1,lt_len hi,if_true,idx_nat hi,idx_nat hi2,ya,add64_1 (i:=i) (by omega),hr]
   have e1:=drop_cons hi
   have e2:=drop_cons hi2
   rw [e1,e2]
   simp only [List.cons.injEq]
   by_cases he:x[i]=y[i]
   ·rw [if_neg (by simp [he])]
    congr 1
    simp only [he,true_and]
   ·rw [if_pos (by simp [he])]
    simp only [he,false_and,decide_false]
  ·have e3:y.drop x.length=[]:=by rw [e];exact List.drop_length
   simp only [slices_Equal_Lint_int.l1,ge_len,yh,if_false,List.drop_length,e3,decide_true]
 ·rw [if_pos (by simp;omega)]
  have:¬ x=y:=λh=>e (by rw [h])
  simp [this]
theorem ranges_eq (hF:Fuel n) (hS:SmallM m) (hV:ValidM m):model_Strict n m=some (boxM m):=by
 have h1:=hS.sorts
 have h2:=hS.tables
 unfold model_Strict model_ranges
 rw [model_Valid_eq hF hS,validP_iff.2 hV,ya,if_neg (by simp),cells_Ranges_eq hF (by omega) (by omega) (λt ht=>by have:=(hS.tab t ht).2;omega),if_pos hV.lay]
 rfl
end
def suitP (m:Model) (s:Scenario):Bool:=(validP m&&questP m s.question)&&decide (s.state.length=(boxM m).length)
theorem suits_eq {n:Nat} {m:Model} {s:Scenario} (hF:Fuel n) (hS:SmallM m):scenario_suits n m s=some (suitP m s):=by
 unfold scenario_suits suitP
 rw [symmetry_Valid_eq hF hS,ya]
 cases hv:validP m&&questP m s.question with
 | false=>simp [grd]
 | true=>
  have hV:=validP_iff.1 (by simp only [yc] at hv;exact hv.1:validP m=true)
  rw [ranges_eq hF hS hV]
  simp only [grd,yj,yy,if_true,yi,yC]
  congr 1
  rw [Bool.eq_iff_iff]
  simp
  omega
theorem scene_of {n:Nat} {m:Model} {s:Scenario} (hn:4294967296≤n) (hS:SmallM m) (h:suitP m s=true) (hl:lowS s.state):∃ a b,SceneM n m s.question a b s.state:=by
 simp only [suitP,yc,yd] at h
 obtain ⟨⟨h1,h2⟩,h3⟩:=h
 obtain ⟨q1,q2,-⟩:=questP_spec h2
 obtain ⟨a,ha⟩:=idx_some q1.1 q1.2
 obtain ⟨b,hb⟩:=idx_some q2.1 q2.2
 exact ⟨a,b,hS,validP_iff.1 h1,h2,ha,hb,h3,hl,hn⟩
theorem small24_eq {n:Nat} {x:List Int} (hn:1000000≤n):law24_small n x=some (decide (x.length≤150)&&x.all λv=>decide (-1099511627776≤v)&&decide (v≤1099511627776)):=by
 unfold law24_small
 by_cases hl:x.length≤150
 ·have hd:decide ((x.length:Int)≤150)=true:=by simp;omega
  have hc:=ContainsFunc_Lint_eq (n:=n) (l:=x) (f:=λq0=>law24_small_1 n q0) (p:=λv=>!(decide (-1099511627776≤v)&&decide (v≤1099511627776))) (λv _=>by
   unfold law24_small_1
   congr 1
   rw [Bool.eq_iff_iff]
   simp) (by omega) (by omega)
  rw [hc,hd]
  simp only [grd,yj,yy,if_true,yi,yC,hl,decide_true,any_not]
 ·have hd:decide ((x.length:Int)≤150)=false:=by simp;omega
  rw [hd]
  simp [grd,hl]
theorem low_of {x:List Int} (h:(x.all λv=>decide (-1099511627776≤v)&&decide (v≤1099511627776))=true):lowS x:=λv hv=>by
 have:=yn.1 h v hv
 simpa using this
def actE (m:Model) (s:Scenario):Action:=(idx m.actions s.question.e).getD default
def fA (m:Model) (s:Scenario):Action:=(idx m.actions s.question.f).getD default
def bothP (m:Model) (s:Scenario):List Int:=plusP (plusP s.state (actE m s).effect.delta) (fA m s).effect.delta
theorem scene_at {n:Nat} {m:Model} {s:Scenario} (hn:4294967296≤n) (hS:SmallM m) (h:suitP m s=true) (hl:lowS s.state):SceneM n m s.question (actE m s) (fA m s) s.state:=by
 obtain ⟨a,b,hs⟩:=scene_of hn hS h hl
 have e1:actE m s=a:=by unfold actE;rw [hs.ha];rfl
 have e2:fA m s=b:=by unfold fA;rw [hs.hb];rfl
 rw [e1,e2];exact hs
def validQ (m:Model) (s:Scenario) (rows:List Int):Bool:=suitP m s&&((rows.all λx=>!badR m x)&&showsP m s.question rows (actE m s) (fA m s) s.state)
section
variable {n:Nat} {m:Model} {s:Scenario} {rows:List Int} (hF:Fuel n) (hS:SmallM m) (hl:lowS s.state)
include hF hS hl
theorem sValid_eq (hr:rows.length≤1000):scenario_Valid n m s rows=some (validQ m s rows):=by
 unfold scenario_Valid validQ
 rw [suits_eq hF hS,ya]
 cases h:suitP m s with
 | false=>rfl
 | true=>
  rw [if_neg (by simp),sValid_in (scene_at hF.big hS h hl) hr s rfl rfl]
  rfl
theorem sMerged_eq:scenario_Merged n m s=some (if suitP m s=true then bothP m s else []):=by
 unfold scenario_Merged
 rw [suits_eq hF hS,ya]
 cases h:suitP m s with
 | false=>rfl
 | true=>
  have hsc:=scene_at hF.big hS h hl
  have:=hsc.box
  have:=hsc.len
  have:=hsc.fuel
  rw [if_neg (by simp),sBehind_2 hsc.ha hsc.hb hl.mid (hl.plus hsc.dA.small) (by omega) hsc.dA hsc.dB (by omega),ya,if_pos rfl]
  rfl
omit hF hS hl in
theorem both_len:(bothP m s).length=s.state.length:=by unfold bothP;rw [plus_len,plus_len]
theorem sBrokenQ_eq:scenario_Broken n m s=some (if suitP m s=true then brkP m (bothP m s) else []):=by
 unfold scenario_Broken
 rw [suits_eq hF hS,ya]
 cases h:suitP m s with
 | false=>rfl
 | true=>
  have hsc:=scene_at hF.big hS h hl
  have h1:=hsc.box
  have h2:=hsc.len
  have h3:=hsc.fuel
  have h4:=hS.constraints
  have hbl:(bothP m s).length=s.state.length:=both_len
  rw [if_neg (by simp),sMerged_eq hF hS hl,h,if_pos rfl,ya,sBroken_eq (λc hc=>hsc.con hbl hc) (hl.plus2 hsc.dA.small hsc.dB.small) (by omega) (by omega) (by omega),ya,if_pos rfl]
end
theorem big1:(1000000:Nat)≤18446744073709551616:=by decide
theorem big2:(4294967296:Nat)≤18446744073709551616:=by decide
theorem Sum_eq {n:Nat} {r:Row} {x:List Int} (hx:∀ v∈x,-9999≤v∧v≤9999) (ht:∀ t∈r.terms,termOK x.length t) (hl:r.terms.length≤1000) (hn:1000000≤n):ref12_Sum n r x=some (sumP x r.terms):=by
 have:=loopF_I (body:=ref12_Sum.l1 n r x) (len:=r.terms.length) (st:=λ(a:Int) i=>(a,(i:Int))) (g:=λi a=>some (a+sumP x (r.terms.drop i))) (λi a=>-(9999000*(i:Int))≤a∧a≤9999000*(i:Int)) (λrec i a hi hI hr=>?_) (λrec a hI=>?_) n 0 0 (yu _) (by omega) (by simp)
 ·simpa [ref12_Sum] using this
 ·obtain ⟨t1,t2,t3,t4⟩:=ht _ (yk hi)
  have hv:=hx _ (getD_mem t1 t2)
  have m1:=mul_bd t3 t4 hv.1 hv.2
  rw [drop_cons hi,sumP]
  have hidx:=getD_idx t1 t2
  generalize x.getD r.terms[i].cell.toNat 0=v at *
  have e1:mul64 r.terms[i].factor v=r.terms[i].factor*v:=by unfold mul64;exact w64_id (by omega) (by omega)
  have e2:add64 a (r.terms[i].factor*v)=a+r.terms[i].factor*v:=by unfold add64;exact w64_id (by omega) (by omega)
  simp only [ref12_Sum.l1,lt_len hi,if_true,idx_nat hi,ya,hidx,e1,e2,add64_1 (i:=i) (by omega)]
  rw [hr _ (by omega)]
  congr 1
  omega
 ·simp only [ref12_Sum.l1,ge_len,yh,if_false,List.drop_length,sumP,Int.add_zero]
theorem ApplyN_eq {n:Nat} {x:List Int} {d:List Change} (hx:∀ v∈x,-9999≤v∧v≤9999) (hl:x.length≤1000) (hd:smallD d) (hc:∀ e∈d,0≤e.cell∧e.cell<(x.length:Int)) (hr:(d.map (·.cell)).Nodup) (hdl:d.length≤1000) (hn:1000000≤n):ref14_Apply n x d=some (plusP x d):=by
 unfold ref14_Apply
 rw [app_some (by simp;omega),ya,yZ]
 have h0:plusP x []=x:=by
  refine list_ext (by rw [plus_len]) λi hi=>?_
  rw [plus_len] at hi
  have:=plus_get (s:=x) (d:=[]) (c:=(i:Int)) (by omega) (by omega)
  rw [yp] at this
  rw [this];simp [addedP]
 have:=loopF_g (body:=ref14_Apply.l1 n d) (len:=d.length) (st:=λi=>(plusP x (d.take i),(i:Int))) (g:=λ_=>some (plusP x d)) (λrec i hi hr2=>?_) (λrec=>?_) n 0 (yu _) (by omega)
 ·rw [List.take_zero,h0] at this;exact this
 ·obtain ⟨c0,c1⟩:=hc _ (yk hi)
  obtain ⟨c,hcc⟩:=yQ c0
  have hcx:c<x.length:=by omega
  have hne:∀ e∈d.take i,e.cell≠d[i].cell:=λe he hee=>by
   obtain ⟨j,hj,rfl⟩:=List.getElem_of_mem he
   rw [yO] at hj
   have hji:j<i:=by omega
   have hnd:=hr
   rw [List.nodup_iff_pairwise_ne,List.pairwise_iff_getElem] at hnd
   have:=hnd j i (by simp;omega) (by simp;omega) hji
   simp only [List.getElem_map] at this
   simp only [List.getElem_take] at hee
   exact this hee
  have hpl:(plusP x (d.take i)).length=x.length:=plus_len _ _
  have hz:addedP (d.take i) (c:Int)=0:=added_none λe he=>by have:=hne e he;omega
  have hg:=plus_get (s:=x) (d:=d.take i) (c:=(c:Int)) (by omega) (by omega)
  rw [yp,hz,Int.add_zero] at hg
  have hgi:idx (plusP x (d.take i)) (c:Int)=some (x.getD c 0):=by
   rw [getD_idx (by omega) (by omega),yp,hg]
  have hv:=hx _ (getD_mem (s:=x) (c:=(c:Int)) (by omega) (by omega))
  rw [yp] at hv
  have hda:=hd _ (yk hi)
  have hadd:add64 (x.getD c 0) d[i].add=x.getD c 0+d[i].add:=by unfold add64;exact w64_id (by omega) (by omega)
  simp only [ref14_Apply.l1,lt_len hi,if_true,jn,idx_nat hi,ya,hcc,hpl]
  rw [if_pos (by simp;omega),hgi,ya,ya,hadd,sto_at (by omega),ya,add64_1 (by omega),← hr2]
  congr 2
  refine list_ext (by rw [List.length_set,plus_len,plus_len]) λj hj=>?_
  rw [List.length_set,plus_len] at hj
  have hg2:=plus_get (s:=x) (d:=d.take (i+1)) (c:=(j:Int)) (by omega) (by omega)
  have hg3:=plus_get (s:=x) (d:=d.take i) (c:=(j:Int)) (by omega) (by omega)
  rw [yp] at hg2 hg3
  rw [hg2,yB hi,added_snoc hne,hcc]
  by_cases e:c=j
  ·subst e
   rw [if_pos rfl]
   simp [ui,hpl,hcx]
  ·rw [if_neg (by omega),← hg3]
   simp [ui,List.getElem?_set,e]
 ·simp only [ref14_Apply.l1,ge_len,yh,if_false,List.take_length]
section
variable {m:Model} (hS:SmallM m) (hV:ValidM m)
include hS hV
theorem poss24_eq {n:Nat} {a:Action} (ha:a∈m.actions) {x:List Int} (hx:x.length=(boxM m).length) (hw:wideS x) (hn:4294967296≤n):ref15_Possible n m a.effect x=some ((m.constraints.all λc=>holdsP c x)&&possP m a.effect x):=by
 have hcl:=hS.constraints
 have hb:=box_30 hS hV
 have hval:=sound_eq hS hV hx hw hn
 unfold ref15_Possible ref15_Check
 rw [hval,ya]
 by_cases hall:(m.constraints.all λc=>holdsP c x)=true
 ·have hbox:=box_of hS hV hx (yn.1 hall)
  have hsm:=(state_ok hV.lay hbox).small
  obtain ⟨-,z1,z2,-,z4⟩:=hS.act a ha
  have had:=actD_of hS hV ha
  have hrow:=(act_delta hV ha).2
  have hterm:∀ r∈a.effect.hold,∀ t∈r.terms,termOK (boxM m).length t:=λr hr=>by
   have h7:=hrow r hr
   simp only [rowOK,yc] at h7
   exact rowP_terms h7.1 (by decide)
  obtain ⟨hsd,-⟩:=act_delta hV ha
  have hcell:=had.cell
  have hstr:ref13_Strict n m=some (boxM m):=by
   unfold ref13_Strict
   rw [ref13_Valid_eq hn hS,validP_iff.2 hV,ya,if_neg (by simp),ref13_strict_eq (by omega) hS,ya]
   unfold strictR boxM
   rw [if_pos hV.lay]
  have hsound:ref15_sound n m a.effect=some true:=by
   unfold ref15_sound
   rw [hstr,ya]
   have l3:∀ {i:Nat} (hi:i<a.effect.hold.length) {rec:Int→Option Bool},loopF (ref15_sound.l3 n a.effect (boxM m) (i:Int) rec) n 0=rec ((i+1:Nat):Int):=λ{i} hi {rec}=>by
    have hlen:=z4 _ (yk hi)
    have:=loopF_g (body:=ref15_sound.l3 n a.effect (boxM m) (i:Int) rec) (len:=a.effect.hold[i].terms.length) (st:=λj=>(j:Int)) (g:=λ_=>rec ((i+1:Nat):Int)) (λrec2 j hj hr=>?_) (λrec2=>?_) n 0 (yu _) (by omega)
    ·exact this
    ·obtain ⟨t1,t2,t3,t4⟩:=hterm _ (yk hi) _ (yk hj)
     simp only [ref15_sound.l3,idx_nat hi,ya,lt_len hj,if_true,idx_nat hj,add64_1 (i:=j) (by omega)]
     rw [if_neg (by simp;omega)]
     exact hr
    ·simp only [ref15_sound.l3,idx_nat hi,ya,ge_len,yh,if_false,add64_1 (i:=i) (by omega)]
   have l2:loopF (ref15_sound.l2 n a.effect (boxM m)) n 0=some true:=by
    have:=loopF_g (body:=ref15_sound.l2 n a.effect (boxM m)) (len:=a.effect.hold.length) (st:=λi=>(i:Int)) (g:=λ_=>some true) (λrec i hi hr=>?_) (λrec=>?_) n 0 (yu _) (by omega)
    ·exact this
    ·simp only [ref15_sound.l2,lt_len hi,if_true]
     rw [l3 hi];exact hr
    ·simp only [ref15_sound.l2,ge_len,yh,if_false]
   have:=loopF_g (body:=ref15_sound.l1 n a.effect (boxM m)) (len:=a.effect.delta.length) (st:=λi=>(i:Int)) (g:=λ_=>some true) (λrec i hi hr=>?_) (λrec=>?_) n 0 (yu _) (by omega)
   ·exact this
   ·have c1:=hcell _ (yk hi)
    have c2:=hsd _ (yk hi)
    simp only [ref15_sound.l1,lt_len hi,if_true,idx_nat hi,ya,add64_1 (i:=i) (by omega)]
    rw [if_neg (by simp;omega)]
    exact hr
   ·simp only [ref15_sound.l1,ge_len,yh,if_false]
    exact l2
  have hplus:wideS (plusP x a.effect.delta):=λv hv=>by
   have:=plus_small (B:=9999) hsm hsd v hv
   omega
  have happ:ref14_Apply n x a.effect.delta=some (plusP x a.effect.delta):=ApplyN_eq hsm (by omega) hsd (λe he=>by have:=hcell e he;omega) had.nd (by omega) (by omega)
  have hpl:(plusP x a.effect.delta).length=(boxM m).length:=by rw [plus_len,hx]
  have l2:∃ f:Refusal,loopF (ref15_refusal.l2 n m (plusP x a.effect.delta)) n 0=some f∧(f.kind==0)=(m.constraints.all λc=>holdsP c (plusP x a.effect.delta)):=by
   have:=loopF_I (σ:=Unit) (body:=ref15_refusal.l2 n m (plusP x a.effect.delta)) (len:=m.constraints.length) (st:=λ_ i=>(i:Int)) (g:=λi _=>some (match fstP (λj=>!holdsP (conAt m j) (plusP x a.effect.delta)) i (m.constraints.length - i) with
    | some j=>(⟨2,(j:Int)⟩:Refusal)
    | none=>⟨0,0⟩)) (λ_ _=>True) (λrec i _ hi _ hr=>?_) (λrec _ _=>?_) n 0 () (yu _) (by omega) trivial
   ·refine ⟨_,this,?_⟩
    rw [Nat.sub_zero]
    cases hf:fstP (λj=>!holdsP (conAt m j) (plusP x a.effect.delta)) 0 m.constraints.length with
    | none=>
     have hn:=fstP_none hf
     symm
     refine yn.2 λc hc=>?_
     obtain ⟨j,hj,rfl⟩:=List.getElem_of_mem hc
     have:=hn j (yu _) (by omega)
     simp only [Bool.not_eq_false'] at this
     rw [conAt_eq hj] at this;exact this
    | some j=>
     obtain ⟨⟨-,j1⟩,j2,-⟩:=fstP_some hf
     have hj:j<m.constraints.length:=by omega
     simp only [yA] at j2
     rw [conAt_eq hj] at j2
     symm
     rw [show ((2:Int)==0)=false from rfl,← yD,yn]
     intro hh
     rw [hh _ (yk hj)] at j2;cases j2
   ·have hin:=con_in hS hV (yk hi)
    rw [← hpl] at hin
    simp only [ref15_refusal.l2,lt_len hi,if_true,idx_nat hi,ya,HoldsW_eq hin hplus (by omega) hn,add64_1 (i:=i) (by omega),hr () trivial]
    rw [show m.constraints.length - i=(m.constraints.length - (i+1))+1 by omega,fstP,conAt_eq hi]
    cases holdsP m.constraints[i] (plusP x a.effect.delta) <;> simp
   ·simp [ref15_refusal.l2,fstP]
  have l1:∃ f:Refusal,ref15_refusal n m a.effect x=some f∧(f.kind==0)=((a.effect.hold.all λr=>holdsP ⟨0,0,r,0,0⟩ x)&&m.constraints.all λc=>holdsP c (plusP x a.effect.delta)):=by
   obtain ⟨f,f1,f2⟩:=l2
   unfold ref15_refusal
   have:=loopF_tot (σ:=Unit) (body:=ref15_refusal.l1 n m a.effect x) (k:=a.effect.hold.length) (n:=n) (st:=λ_ i=>(i:Int)) (λi _=>∀ r∈a.effect.hold.take i,holdsP ⟨0,0,r,0,0⟩ x=true) (λf:Refusal=>(f.kind==0)=((a.effect.hold.all λr=>holdsP ⟨0,0,r,0,0⟩ x)&&m.constraints.all λc=>holdsP c (plusP x a.effect.delta))) (λrec i _ hi hI hr=>?_) (λrec _ hI=>?_) (by omega) () (by simp)
   ·exact this
   ·have hri:=hterm _ (yk hi)
    have hrl:=z4 _ (yk hi)
    have hsum:=Sum_eq (n:=n) (r:=a.effect.hold[i]) hsm (λt ht=>by have:=hri t ht;rw [hx];exact this) (by omega) (by omega)
    have hho:holdsP ⟨0,0,a.effect.hold[i],0,0⟩ x=decide (sumP x a.effect.hold[i].terms≤a.effect.hold[i].bound):=holds_row (c:=⟨0,0,a.effect.hold[i],0,0⟩) rfl x
    simp only [ref15_refusal.l1,lt_len hi,if_true,idx_nat hi,ya,hsum,add64_1 (i:=i) (by omega)]
    by_cases e:a.effect.hold[i].bound<sumP x a.effect.hold[i].terms
    ·rw [if_pos (by simpa using e)]
     refine ⟨_,rfl,?_⟩
     have hnot:(a.effect.hold.all λr=>holdsP ⟨0,0,r,0,0⟩ x)=false:=by
      rw [← yD,yn]
      intro hh
      have:=hh _ (yk hi)
      rw [hho,yd] at this
      omega
     rw [hnot];rfl
    ·rw [if_neg (by simpa using e)]
     refine hr () λr hrm=>?_
     rw [yB hi] at hrm
     rcases yG.1 hrm with hrm | hrm
     ·exact hI r hrm
     ·rw [yJ.1 hrm,hho,yd];omega
   ·rw [List.take_length] at hI
    simp only [ref15_refusal.l1,ge_len,yh,if_false,happ,ya]
    refine ⟨f,f1,?_⟩
    rw [f2,yn.2 hI,yC]
  obtain ⟨f,f1,f2⟩:=l1
  rw [hall,if_neg (by simp),hsound,ya,if_neg (by simp),f1,ya,ya]
  congr 1
  have hposs:possP m a.effect x=((a.effect.hold.all λr=>holdsP ⟨0,0,r,0,0⟩ x)&&m.constraints.all λc=>holdsP c (plusP x a.effect.delta)):=by
   unfold possP
   rw [Bool.and_comm]
   congr 1
   rw [Bool.eq_iff_iff]
   simp only [yn,yc]
   exact ⟨λh c hc=>(h c hc).2,λh c hc=>⟨yn.1 hall c hc,h c hc⟩⟩
  rw [hposs,← f2]
  simp
 ·simp only [yD] at hall
  rw [hall,if_pos (by simp),ya]
  rfl
end
theorem Shows_law {m:Model} {s:Scenario}:law24_ScenarioShows 18446744073709551616 m s=some true:=by
 unfold law24_ScenarioShows
 simp only [awake_spec,ya,y7,yh,if_false,ref13_Few_eq big1]
 cases hf:fewP m with
 | false=>simp [grd]
 | true=>
  have hS:=fewP_small hf
  rw [small24_eq big1]
  simp only [y7,uf,yj,yy,grd,if_true,yi]
  by_cases hsm:(decide (s.state.length≤150)&&s.state.all λv=>decide (-1099511627776≤v)&&decide (v≤1099511627776))=true
  ·have e1:=hsm
   rw [yc] at hsm
   have hl:=low_of hsm.2
   have h150:s.state.length≤150:=by simpa using hsm.1
   simp only [e1,sValid_eq fuel_N hS hl (rows:=[]) (by simp),yj,yy,if_true,yi,y7,uf]
   cases hv:validQ m s [] with
   | false=>simp
   | true=>
    rw [if_neg (by simp)]
    unfold validQ at hv
    simp only [yc] at hv
    obtain ⟨hsu,-,hsh⟩:=hv
    have hsc:=scene_at big2 hS hsu hl
    have hV:=hsc.valid
    have hq:(validP m&&questP m s.question)=true:=by
     unfold suitP at hsu
     simp only [yc] at hsu ⊢
     exact hsu.1
    unfold showsP at hsh
    simp only [yc] at hsh
    obtain ⟨⟨pa,pb⟩,-,hbr⟩:=hsh
    have ham:=idx_mem hsc.ha
    have hbm:=idx_mem hsc.hb
    have pa':=pa
    have pb':=pb
    rw [possP_eq] at pa' pb'
    simp only [yc] at pa' pb'
    obtain ⟨⟨c0,ca⟩,-⟩:=pa'
    obtain ⟨⟨-,cb⟩,-⟩:=pb'
    have hA:=hsc.dA
    have hB:=hsc.dB
    have v1:=sound_eq hS hV (x:=plusP s.state (actE m s).effect.delta) (by rw [plus_len];exact hsc.len) (hl.plus hA.small).wide big2
    have v2:=sound_eq hS hV (x:=plusP s.state (fA m s).effect.delta) (by rw [plus_len];exact hsc.len) (hl.plus hB.small).wide big2
    have v3:=sound_eq hS hV (x:=bothP m s) (by rw [both_len];exact hsc.len) (hl.plus2 hA.small hB.small).wide big2
    rw [ca] at v1
    rw [cb] at v2
    have hbm2:plusP (plusP s.state (fA m s).effect.delta) (actE m s).effect.delta=bothP m s:=plus_comm _ _ _
    rw [ref16_Valid_eq big2 hS,hq,ya,if_neg (by simp),hsc.ha,ya,hsc.hb,ya,poss24_eq hS hV ham hsc.len hl.mid.wide big2,poss24_eq hS hV hbm hsc.len hl.mid.wide big2,c0,pa,pb]
    simp only [uK,ya,yj,y7,uf,if_true,yi,rPlus hsc ham hl.mid rfl,rPlus hsc hbm hl.mid rfl,v1,v2,Bool.or_self,yh,if_false]
    rw [sMerged_eq fuel_N hS hl,if_pos hsu,ya,rPlus hsc ham (hl.plus hB.small) (plus_len _ _),ya,hbm2,Equal_Lint_eq (by rw [both_len];omega) big1,ya,if_neg (by simp)]
    unfold brokenP at hbr
    obtain ⟨q1,q2,q3,q4,q5⟩:=questP_spec hsc.quest
    cases hh:s.question.target.hold with
    | true=>
     rw [hh,if_pos rfl] at hbr
     obtain ⟨r,hr⟩:=idx_some q3 (q4 hh _ hsc.ha)
     rw [if_pos rfl,hr,ya,rRow hsc ham (idx_mem hr) (hl.plus hB.small).wide (plus_len _ _),ya]
     rw [hr,yi] at hbr
     rw [hbr]
    | false=>
     rw [hh,if_neg (by simp)] at hbr
     obtain ⟨c,hc⟩:=idx_some q3 (q5 hh).2
     rw [hc,yi] at hbr
     have hcf:holdsP c (bothP m s)=false:=by simpa [bothP] using hbr
     obtain ⟨j,hj⟩:=yQ q3
     have hjl:j<m.constraints.length:=by have:=(q5 hh).2;omega
     rw [hj,idx_nat hjl] at hc
     cases hc
     have hin:s.question.target.index∈brkP m (bothP m s):=mem_brk.2 ⟨j,hjl,hj,hcf⟩
     have hbl:(brkP m (bothP m s)).length<1000000:=by
      have h4:=hS.constraints
      have:=raisedP_len (λi=>!holdsP ((idx m.constraints i).getD default) (bothP m s)) m.constraints.length 0
      unfold brkP;omega
     obtain ⟨k,k1,k2⟩:=Index_Lint_eq (n:=18446744073709551616) (l:=brkP m (bothP m s)) (x:=s.question.target.index) hbl big1
     have hall:(m.constraints.all λc=>holdsP c (bothP m s))=false:=by
      rw [← yD,yn]
      intro h
      have:=h _ (yk hjl)
      rw [hcf] at this;cases this
     have hcon:slices_Contains_Lint_int 18446744073709551616 (brkP m (bothP m s)) s.question.target.index=some true:=by
      unfold slices_Contains_Lint_int
      rw [k1,ya,k2]
      simp [hin]
     rw [hall] at v3
     rw [if_neg (by simp),sBrokenQ_eq fuel_N hS hl,if_pos hsu,ya,hcon,ya,v3]
     rfl
  ·simp only [yD] at hsm
   rw [hsm]
   simp
theorem closed18:joinedFacts Tryz.pinned.checked.prog 6 Tryz.f6 (OpenSpec.ofChange Rows.scenarioShowsSpec).bare Rows.scenarioShowsRow=true:=by
 unfold joinedFacts
 simp only [yc]
 repeat' apply And.intro
 all_goals as_aux_lemma=>kernel_rfl
section
open Go.ChangeShapes Go.WideShapes Go.ChangeAt Go.RowKit
theorem own:ownKnob Tryz.prog.godebug=none:=by kernel_rfl
theorem laidOut:laidOutB Tryz.prog=true:=by kernel_rfl
set_option maxRecDepth 100000 in
theorem contract18 (H:Type) (enc:TypeId×Value→H) (W:World) (base:Nat) (args:Array Value) (ds gs:List (DataW H)) (before:List MemPlace)
  (hval:∀ (j:Nat) t v,Tryz.f6.params[j]? = some t→args[j]? = some v→Value.okWide Tryz.prog W .any base t v)
  (hW:DataW.Whole enc Tryz.prog Tryz.f6.params.toList Rows.scenarioShowsSpec.vars false W args.toList ds gs before) (hL:laidMetH Tryz.prog Rows.scenarioShowsRow.laid W) (hS:W.ShapedOpen Tryz.prog) :
  Calls Tryz.prog 6 args W λe W'=>∃ v,e = .returned v∧Rows.scenarioShowsSpec.post enc Tryz.prog Tryz.f6 false true false false W args v W':=by
 have hW':=hW
 obtain ⟨p,q,hA0,hV,rfl,hfz,hnd⟩:=hW
 have hA:DataW.TrodAll enc Tryz.prog W 0 (λ_=>true) true Tryz.f6.params.toList args.toList ds p:=hA0
 rw [Tryz.params6] at hA hval
 obtain ⟨v0,vs0,d0,ds0,p0,q0,hargs,rfl,rfl,h0,r0⟩:=trodAll_cons hA
 obtain ⟨v1,vs1,d1,ds1,p1,q1,rfl,rfl,rfl,h1,r1⟩:=trodAll_cons r0
 obtain ⟨rfl,rfl,rfl⟩:=trodAll_nil r1
 obtain rfl:args = #[v0,v1]:=by cases args;simp_all
 obtain ⟨rfl,rfl⟩:=trodVars_none hV
 obtain ⟨a0,k0⟩:=dModel.of_arg (hval 0 _ v0 rfl rfl) h0
 obtain ⟨a1,k1⟩:=dScen.of_arg (hval 1 _ v1 rfl rfl) h1
 obtain ⟨E,hE⟩:=glob_ok hL hS
 have hrun:=(@law24_ScenarioShows_ok E _ a0 a1 true Shows_law).run Noneof W #[v0,v1] (λ_ h=>h.elim) hE (by
  simp only [D.reps]
  exact ⟨v0,_,rfl,k0,v1,_,rfl,k1,rfl⟩)
 refine hrun.mono λe W' ⟨u,he,hf,hu⟩=>?_
 simp only [D.rep] at hu
 subst hu
 subst he
 refine ⟨_,rfl,post_kept hW' rfl rfl rfl laidOut (λt ht=>?_) hf (λ_ _ _=>trodAll_cons_mk (shut_bool Tryz.underlying4 _) trodAll_mk0)⟩
 rw [Tryz.params6] at ht
 have hall:([30,36].all λt=>Tryz.prog.readableRec t&&decide (t<Tryz.prog.types.size))=true:=by kernel_rfl
 have:=yn.1 hall t (by simpa using ht)
 simpa using this
theorem reads18 (os:Os) {H:Type} (enc:TypeId×Value→H):∃ places,DataW.whole enc Tryz.prog ((World.laidAll Tryz.prog os Rows.scenarioShowsRow.laid).forCall (λ_ _=>0) ⟨#[],#[.agg #[.slice none 0 0,.slice none 0 0,.slice none 0 0,.slice none 0 0,.slice none 0 0,.slice none 0 0,.slice none 0 0],.agg #[.int .i64 0,.int .i64 0,.bool false,.int .i64 0,.slice none 0 0]],[]⟩).memory Tryz.f6.params.toList Rows.scenarioShowsSpec.vars false
  (#[.agg #[.slice none 0 0,.slice none 0 0,.slice none 0 0,.slice none 0 0,.slice none 0 0,.slice none 0 0,.slice none 0 0],.agg #[.int .i64 0,.int .i64 0,.bool false,.int .i64 0,.slice none 0 0]]:Array Value).toList 8 =
  some ([.agg [.nil,.nil,.nil,.nil,.nil,.nil,.nil],.agg [.agg [.lit (.int .i64 0),.lit (.int .i64 0),.agg [.lit (.bool false),.lit (.int .i64 0)]],.nil]],[],places):=
 ⟨[],by kernel_rfl⟩
set_option maxRecDepth 100000 in
theorem lifted18 (os:Os) (started:os.Started) (H:Type) (enc:TypeId×Value→H) (F:Stop.Interp) :
  ReturnsInHanded {} Tryz.checked os 6 .any ((OpenSpec.ofChange Rows.scenarioShowsSpec).preRow enc Tryz.prog Tryz.f6 Rows.scenarioShowsRow.domain false Rows.scenarioShowsRow.laid) (((OpenSpec.ofChange Rows.scenarioShowsSpec).at F).post enc Tryz.prog Tryz.f6 false true false false):=by
 obtain ⟨places,hx⟩:=reads18 os enc
 refine returnsInHanded_of_row (C:=Tryz.checked) (s:=OpenSpec.ofChange Rows.scenarioShowsSpec) own started (by kernel_rfl) Tryz.func6
  (witness_row_atRef (enc:=enc) (C:=Tryz.checked) false (World.laidAll Tryz.prog os Rows.scenarioShowsRow.laid) _ (World.laidAll_os _ _ _) (by kernel_rfl) (by kernel_rfl) (by kernel_rfl)
   (OpenSpec.preRow_of_cond 8 hx (by kernel_rfl) (λk hk=>by cases hk) (by kernel_rfl) (laidMet_laidAll _ (by kernel_rfl) (by kernel_rfl)))) ?_
 intro W base args ds gs before hval hW _ _ _ hL hS _
 exact contract18 H enc W base args ds gs before hval hW hL hS
theorem said18:Rows.ScenarioShowsSaid:=
 OpenClaim.holds_of_cond 6 Tryz.f6 rfl rfl rfl rfl rfl rfl rfl ⟨rfl,rfl,rfl,rfl,rfl⟩ rfl rfl rfl rfl rfl (by kernel_rfl) Tryz.func6 closed18
  (of_decide_eq_true (by kernel_rfl)) (by unfold Func.isWrapper;first | (rw [if_pos (by decide +kernel)];kernel_rfl) | (rw [if_neg (by decide +kernel)];exact ⟨rfl,rfl⟩))
  (λos started H enc _ F=>by rw [OpenClaim.pre_eq_preRow];exact lifted18 os started H enc F)
theorem plain18 (f:FuncId) (fn:Func) (hf:Tryz.pinned.checked.prog.funcNamed Rows.scenarioShowsRow.func=some f) (hfn:Tryz.pinned.checked.prog.funcs[f]? = some fn) :
  true=Tryz.pinned.checked.prog.looks []∧∀ (j:Nat) t,fn.params[j]? = some t→Tryz.pinned.checked.prog.wantsStandIn t=false:=by
 obtain rfl:f=6:=Option.some.inj ((show Tryz.prog.funcNamed Rows.scenarioShowsRow.func=some 6 by kernel_rfl).symm.trans hf) |>.symm
 obtain rfl:fn=Tryz.f6:=(Option.some.inj (Tryz.func6.symm.trans hfn)).symm
 refine ⟨by kernel_rfl,λj t ht=>?_⟩
 rw [Tryz.params6] at ht
 have hall:([30,36].all λu=>!Tryz.prog.wantsStandIn u)=true:=by kernel_rfl
 have:=yn.1 hall t (by simpa using Array.mem_of_getElem? ht)
 exact (show Tryz.prog.wantsStandIn t=false by simpa using this)
theorem scenarioShows_holds:Rows.ScenarioShowsCardSaid:=
 Claim7.holds_tied_plain_at .later [] _ _ _ _ said18 (λ_ h=>by cases h) (by kernel_rfl) (λ_ h=>by cases h) scenarioShows_row_tie rfl ⟨rfl,rfl⟩ (by kernel_rfl) rfl plain18 (by kernel_rfl)
end
end Go.Proofs.YtbnhmfnagdgcmaaGreatDoor
