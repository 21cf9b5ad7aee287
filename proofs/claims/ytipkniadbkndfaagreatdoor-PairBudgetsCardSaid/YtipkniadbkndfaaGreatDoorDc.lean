/- The law holds for every input. No condition. -/
import Derived.Test.YtipkniadbkndfaaGreatDoorDc06
import Derived.Test.YtipkniadbkndfaaGreatDoorCards
import Derived.Test.YtipkniadbkndfaaGreatDoorTie
import Derived.JoinedCond
import Derived.Deep.DeepWitnessRowRef
import Derived.Lay
import Derived.ProofKit
set_option linter.unusedVariables false
set_option linter.unusedSectionVars false
set_option linter.unusedSimpArgs false
set_option maxRecDepth 100000
set_option maxHeartbeats 40000000
namespace Go.Proofs.YtipkniadbkndfaaGreatDoor
open Go Go.RowKit
section
variable (E:Nat→Nat→Bool) (K a t:Nat)
def extR (l:List Int):List (List Int):=(List.range K).flatMap λj=>if (E (lstN l) j&&!decide ((j:Int)∈l))=true then [l++[(j:Int)]] else []
def levA:Nat→List (List Int)
 | 0=>[[(a:Int)]]
 | r+1=>(levA r).flatMap (extR E K)
def zxR:Nat→Nat→List Int
 | 0,_=>[]
 | d+1,i=>match (levA E K a i).find? (λl=>lstN l==t) with
  | some l=>l
  | none=>zxR d (i+1)
def pathR:List Int:=zxR E K a t K 0
theorem zr8 {l x}:x∈extR E K l↔∃ b,b<K∧E (lstN l) b=true∧(b:Int)∉l∧x=l++[(b:Int)]:=by
 simp only [extR,ue,y7]
 constructor
 ·rintro ⟨b,hb,hx⟩
  split at hx <;> rename_i hc
  ·simp only [yG] at hx
   simp only [yd,yB,yH] at hc
   exact ⟨b,hb,hc.1,hc.2,hx⟩
  ·simp at hx
 ·rintro ⟨b,hb,h1,h2,h3⟩
  refine ⟨b,hb,?_⟩
  rw [if_pos (by simp [h1,h2]),h3];simp
theorem zny {r x}:x∈levA E K a (r+1)↔∃ l,l∈levA E K a r∧∃ b,b<K∧E (lstN l) b=true∧(b:Int)∉l∧x=l++[(b:Int)]:=by
 simp only [levA,ue,zr8]
end
theorem ziM {E K a} (ha:a<K):∀ {r x},x∈levA E K a r→zuW K x∧x.length=r+1∧lstN x<K∧Rch E K a (lstN x)
 | 0,x,h=>by
  simp only [levA,yG] at h
  subst h
  have hl:lstN [(a:Int)]=a:=by simp [lstN]
  exact ⟨znA ha,rfl,by rw [hl];exact ha,by rw [hl];exact Rch.refl⟩
 | r+1,x,h=>by
  obtain ⟨l,hl,b,hb,h1,h2,rfl⟩:=(zny E K a).1 h
  obtain ⟨i1,i2,i3,i4⟩:=ziM ha hl
  rw [zeU]
  exact ⟨i1.snoc hb h2,by simp [i2],hb,i4.step hb h1⟩
theorem zpR {E K a}:∀ {r x} {c:Nat},x∈levA E K a r→(c:Int)∈x→∃ r',r'≤r∧∃ y,y∈levA E K a r'∧lstN y=c
 | 0,x,c,h,hc=>by
  simp only [levA,yG] at h
  subst h
  simp only [yG] at hc
  exact ⟨0,yk _,[(a:Int)],by simp [levA],by simp [lstN];omega⟩
 | r+1,x,c,h,hc=>by
  obtain ⟨l,hl,b,hb,h1,h2,rfl⟩:=(zny E K a).1 h
  rcases yr.1 hc with hc | hc
  ·obtain ⟨r',h1,h2⟩:=zpR hl hc
   exact ⟨r',by omega,h2⟩
  ·simp only [yG] at hc
   exact ⟨r+1,yk _,_,h,by rw [zeU];omega⟩
theorem zmQ {E K a t} (ha:a<K):∀ {d i},zxR E K a t d i≠[]→Rch E K a t
 | 0,_,h=>absurd rfl h
 | d+1,i,h=>by
  simp only [zxR] at h
  split at h <;> rename_i hf
  ·have h1:=List.find?_some hf
   have h2:=(ziM ha (List.mem_of_find?_eq_some hf)).2.2.2
   simp only [beq_iff_eq] at h1
   rw [← h1];exact h2
  ·exact zmQ ha h
theorem zmP {E K a t} (ha:a<K):∀ {d i},zxR E K a t d i=[]→∀ j,i≤j→j<i+d→∀ l∈levA E K a j,lstN l≠t
 | 0,_,_=>λj h1 h2=>by omega
 | d+1,i,h=>λj h1 h2 l hl=>by
  simp only [zxR] at h
  split at h <;> rename_i hf
  ·have h3:=(ziM ha (List.mem_of_find?_eq_some hf)).1.pos
   rw [h] at h3
   simp at h3
  ·by_cases e:j=i
   ·subst e
    have:=List.find?_eq_none.1 hf l hl
    simpa using this
   ·exact zmP ha h j (by omega) (by omega) l hl
theorem zry {E K a t} (ha:a<K):pathR E K a t≠[]↔Rch E K a t:=by
 constructor
 ·exact zmQ ha
 ·intro hR he
  have hn:=zmP ha he
  obtain ⟨j,hj,l,hl,e⟩:=hR (λv=>∃ j,j<K∧∃ l,l∈levA E K a j∧lstN l=v) ⟨0,by omega,[(a:Int)],by simp [levA],by simp [lstN]⟩ (λb c ⟨j,hj,l,hl,e⟩ hc he=>by
   by_cases hm:(c:Int)∈l
   ·obtain ⟨r',h1,y,h2,h3⟩:=zpR hl hm
    exact ⟨r',by omega,y,h2,h3⟩
   ·have hm':l++[(c:Int)]∈levA E K a (j+1):=(zny E K a).2 ⟨l,hl,c,hc,by rw [e];exact he,hm,rfl⟩
    obtain ⟨i1,i2,i3,i4⟩:=ziM ha hm'
    have:=i1.len
    exact ⟨j+1,by omega,_,hm',zeU⟩)
  exact hn j (yp _) (by omega) l hl e
theorem rem_n {r k:Nat} (h0:0<k):zvg (r:Int) (k:Int)=some ((r % k:Nat):Int):=by
 unfold zvg
 rw [if_neg (by omega),Int.tmod_eq_emod_of_nonneg (by omega)];simp
theorem quo_n {r k:Nat} (h0:0<k) (hr:r≤1000000):zvm (r:Int) (k:Int)=some ((r / k:Nat):Int):=by
 have h1:r / k≤r:=Nat.div_le_self _ _
 have h2:(r:Int).tdiv (k:Int)=((r / k:Nat):Int):=by rw [Int.tdiv_eq_ediv_of_nonneg (by omega)];simp
 unfold zvm
 rw [if_neg (by omega),h2]
 generalize r / k=q at *
 rw [zaK (by omega) (by omega)]
theorem ztt {r k:Nat} (h:r<k*k):r / k<k:=by
 rcases Nat.eq_zero_or_pos k with e | e
 ·subst e;simp at h
 ·exact (Nat.div_lt_iff_lt_mul e).2 h
structure GrOK (L:Nat) (g:zuc) (K:Nat):Prop where
 size:g.size=(K:Int)
 pos:1≤K
 le:K≤6
 len:g.least.length=K*K
 fst:0≤g.first∧g.first+((K*K:Nat):Int)≤(L:Int)
 num:∀ x∈g.least,-4000000≤x∧x≤4000000
theorem GrOK.sq {L g K} (h:GrOK L g K):K*K≤36:=uf h.le h.le
theorem GrOK.cell {L g K} (h:GrOK L g K) (hL:L≤1000000) {k:Nat} (hk:k<K*K):ztJ g.first (k:Int)=g.first+(k:Int)∧0≤g.first+(k:Int)∧g.first+(k:Int)<(L:Int):=by
 have h1:=h.fst
 have:=h.sq
 exact ⟨zaK (by omega) (by omega),by omega,by omega⟩
def lstG (g:zuc) (k:Nat):Int:=g.least.getD k 0
def zw4 (g:zuc) (b:List Range):List Bool:=(List.range g.least.length).map λj=>decide (lstG g j≤(rgP b (g.first+(j:Int))).lo)
def zgD (g:zuc) (b:List Range) (k:Nat):Bool:=!(pathR (hasP ⟨g.size,zw4 g b⟩) g.size.toNat (k % g.size.toNat) (k / g.size.toNat)).isEmpty
def cutP (g:zuc) (b:List Range) (k:Nat):Range:=if (decide (lstG g k≤(rgP b (g.first+(k:Int))).hi)&&zgD g b k)=true then ⟨(rgP b (g.first+(k:Int))).lo,lstG g k - 1⟩ else rgP b (g.first+(k:Int))
theorem zpX {g:zuc} {k:Nat} (h:k<g.least.length):idx g.least (k:Int)=some (lstG g k):=by
 rw [zb h];simp [lstG,yY,h]
theorem zi0 (g b):(zw4 g b).length=g.least.length:=by simp [zw4]
theorem zkO {n L K:Nat} {g:zuc} {b:List Range} {k:Nat} (hg:GrOK L g K) (hb:b.length=L) (hL:L≤1000) (hk:k<K*K) (hn:1000000≤n):zbh n g b (k:Int)=some (zgD g b k):=by
 have hsq:=hg.sq
 have h6:=hg.le
 have h1:=hg.pos
 have hlen:=hg.len
 have hmk:mkl 1 (g.least.length:Int) (false:Bool)=some (List.replicate g.least.length false):=by
  unfold mkl;rw [if_pos (by omega)];simp
 unfold zbh
 rw [hmk,ya]
 have:=zbn (body:=zbh.l1 n g b (k:Int)) (len:=g.least.length) (st:=λ(s:List Bool) i=>(s,(i:Int))) (g:=λ_ _=>some (zgD g b k)) (λi s=>s=(zw4 g b).take i++List.replicate (g.least.length - i) false) (λrec i s hi hI hr=>?_) (λrec s hI=>?_) n 0 (List.replicate g.least.length false) (yp _) (by omega) (by simp)
 ·exact this
 ·have hc:=hg.cell (show L≤1000000 by omega) (k:=i) (by omega)
  have hil:((zw4 g b).take i).length=i:=by rw [ub,zi0];omega
  have his:i<s.length:=by rw [hI,yQ,hil];simp;omega
  simp only [zbh.l1,zw hi,if_true,zpX hi,ya,hc.1]
  rw [zkm hc.2.1 (by rw [hb];exact hc.2.2),ya,zb his,ya,zoQ his,ya,zd (i:=i) (by omega)]
  refine hr _ ?_
  have hp:i<(zw4 g b).length:=by rw [zi0];exact hi
  rw [hI,yA hp,show g.least.length - i=(g.least.length - (i+1))+1 by omega,List.replicate_succ,uN _ _ (by omega),hil,uu,List.set_cons_zero,yM]
  congr 1
  simp [zw4]
 ·have hs:s=zw4 g b:=by
   rw [hI,uu,List.replicate_zero,y8]
   exact List.take_of_length_le (by rw [zi0];exact yk _)
  have hm:k % K<K:=Nat.mod_lt _ h1
  have hd:k / K<K:=ztt hk
  obtain ⟨l,e1,e2⟩:=zlj (n:=n) (zt9:=zw4 g b) h6 (by rw [zi0,hlen]) hn hm hd
  simp only [zbh.l1,zaw,ye,if_false,hs,hg.size,rem_n h1,quo_n (r:=k) h1 (by omega),ya,e1]
  rw [← zry hm] at e2
  unfold zgD
  rw [hg.size,yz]
  congr 1
  rw [Bool.eq_iff_iff,yg,yB,List.isEmpty_eq_false_iff,← e2]
  rw [← List.length_pos_iff];omega
structure PR where
 k:Nat
 st:List Step
 b:List Range
def PR.bind (p:PR) (f:List Step→List Range→PR):PR:=if p.k=0 then f p.st p.b else p
theorem PR.zwV {st b f}:(PR.mk 0 st b).bind f=f st b:=rfl
theorem PR.zwv {p:PR} {f} (h:p.k≠0):p.bind f=p:=if_neg h
def zvB (bud:Nat) (kind index cell:Int) (r:Range) (st:List Step) (b:List Range):PR:=
 if r=rgP b cell then ⟨0,st,b⟩ else if bud≤st.length then ⟨2,st,b⟩ else if r.hi<r.lo then ⟨1,st++[⟨kind,index,cell⟩],b⟩ else ⟨0,st++[⟨kind,index,cell⟩],zvQ b cell r⟩
def rowT (bud i:Nat) (row:Row):List Term→PR→PR
 | [],p=>p
 | t::l,p=>rowT bud i row l (p.bind λst b=>zvB bud 0 i t.cell (zgt row b t.cell) st b)
def zwk (row:Row):Bool:=row.ztP.isEmpty&&decide (row.bound<0)
def zdl (bud i:Nat) (row:Row) (p:PR):PR:=p.bind λst b=>if zwk row=true then (if bud≤st.length then ⟨2,st,b⟩ else ⟨1,st++[⟨0,(i:Int),-1⟩],b⟩) else rowT bud i row row.ztP ⟨0,st,b⟩
def zvs (bud:Nat):Nat→List Row→PR→PR
 | _,[],p=>p
 | i,r::l,p=>zvs bud (i+1) l (zdl bud i r p)
def grT (bud i:Nat) (g:zuc):Nat→Nat→PR→PR
 | 0,_,p=>p
 | d+1,k,p=>grT bud i g d (k+1) (p.bind λst b=>zvB bud 1 i (g.first+(k:Int)) (cutP g b k) st b)
def zch (bud:Nat):Nat→List zuc→PR→PR
 | _,[],p=>p
 | i,g::l,p=>zch bud (i+1) l (grT bud i g g.least.length 0 p)
def zu2 (bud:Nat) (R:List Row) (G:List zuc) (st:List Step) (b:List Range):PR:=zch bud 0 G (zvs bud 0 R ⟨0,st,b⟩)
def runU (bud:Nat) (R:List Row) (G:List zuc):Nat→List Step→List Range→PR
 | 0,st,b=>⟨0,st,b⟩
 | f+1,st,b=>if (zu2 bud R G st b).k=0∧st.length<(zu2 bud R G st b).st.length then runU bud R G f (zu2 bud R G st b).st (zu2 bud R G st b).b else zu2 bud R G st b
theorem zi9 {bud i row}:∀ {l} {p},p.k≠0→rowT bud i row l p=p
 | [],_,_=>rfl
 | t::l,p,h=>by rw [rowT,PR.zwv h];exact zi9 h
theorem zkv {bud i row} {p} (h:p.k≠0):zdl bud i row p=p:=PR.zwv h
theorem zeK {bud}:∀ {i} {l} {p},p.k≠0→zvs bud i l p=p
 | _,[],_,_=>rfl
 | i,r::l,p,h=>by rw [zvs,zkv h];exact zeK h
theorem ziH {bud i g}:∀ {d k} {p},p.k≠0→grT bud i g d k p=p
 | 0,_,_,_=>rfl
 | d+1,k,p,h=>by rw [grT,PR.zwv h];exact ziH h
theorem zdp {bud}:∀ {i} {l} {p},p.k≠0→zch bud i l p=p
 | _,[],_,_=>rfl
 | i,g::l,p,h=>by rw [zch,ziH h];exact zdp h
structure PI (bud L m:Nat) (st:List Step) (b:List Range):Prop where
 box:boxP b=true
 len:b.length=L
 ne:∀ r∈b,r.lo≤r.hi
 ge:m≤st.length
 le:st.length≤bud
def PG (bud L m:Nat) (p:PR):Prop:=p.k=0→PI bud L m p.st p.b
def SubR (r o:Range):Prop:=r.lo≤r.hi→o.lo≤r.lo∧r.hi≤o.hi
theorem zqH {o rest f}:SubR (zoS o rest f) o:=by
 unfold SubR zoS
 grind
theorem zm2 {r b c}:SubR (zgt r b c) (rgP b c):=zqH
theorem zpA {g b k}:SubR (cutP g b k) (rgP b (g.first+(k:Int))):=by
 unfold SubR cutP
 grind
theorem zsU {α:Type} {l:List α} {i} {x y} (h:y∈l.set i x):y∈l∨y=x:=uP h
theorem zo4 {b} (h:boxP b=true):∀ r∈b,-1000000≤r.lo∧r.lo≤1000000∧-1000000≤r.hi∧r.hi≤1000000:=zpw h
theorem zqS {b} (h:∀ r∈b,-1000000≤r.lo∧r.lo≤1000000∧-1000000≤r.hi∧r.hi≤1000000) (hl:b.length≤128):boxP b=true:=by
 simp only [boxP]
 grind
theorem zrX {b} (h:boxP b=true):b.length≤128:=by
 simp only [boxP,yd,yg] at h;omega
theorem zpx {b} (h:boxP b=true) (hne:∀ r∈b,r.lo≤r.hi) {c} {r} (h0:0≤c) (h1:c<(b.length:Int)) (hs:SubR r (rgP b c)) (hr:r.lo≤r.hi):boxP (zvQ b c r)=true∧∀ x∈zvQ b c r,x.lo≤x.hi:=by
 have d:=zo4 h _ (zoE h0 h1)
 have:=hs hr
 unfold zvQ
 rw [if_pos h0]
 refine ⟨zqS (λx a=>?_) (by grind [zrX]),λx a=>?_⟩
 ·rcases zsU a with a | rfl
  ·exact zo4 h x a
  ·omega
 grind
theorem zjd {bud L m kind index cell r st b} (h:PI bud L m st b) (h0:0≤cell) (h1:cell<(L:Int)) (hs:SubR r (rgP b cell)):PG bud L m (zvB bud kind index cell r st b):=by
 unfold zvB
 split
 ·exact λ_=>h
 ·split
  ·intro d;grind
  ·split
   ·intro d;grind
   ·intro _
    have a:=zpx h.box h.ne h0 (by rw [h.len];exact h1) hs (by omega)
    have c:=h.ge
    exact ⟨a.1,by rw [zjm,h.len],a.2,by grind,by grind⟩
theorem PG.bind {bud L m p f} (h:PG bud L m p) (hf:∀ st b,PI bud L m st b→PG bud L m (f st b)):PG bud L m (p.bind f):=by
 unfold PR.bind
 split <;> rename_i a
 ·exact hf _ _ (h a)
 grind
theorem znL {bud L m i:Nat} {row}:∀ {l} {p},(∀ t∈l,0≤t.cell∧t.cell<(L:Int))→PG bud L m p→PG bud L m (rowT bud i row l p)
 | [],_,_,h=>h
 | t::l,p,a,h=>by
  exact znL (l:=l) (λx d=>a x (yX _ d)) (h.bind λe b c=>zjd c (a t (by simp)).1 (a t (by simp)).2 zm2)
structure RwOK (L:Nat) (r:Row):Prop where
 fits:zxi (L:Int) r=true
 few:r.ztP.length≤1000
theorem RwOK.cells {L r} (h:RwOK L r):∀ t∈r.ztP,0≤t.cell∧t.cell<(L:Int):=λt a=>by
 have:=h.fits
 simp only [zxi,yd] at this
 have:=(zia (by omega) this.1).1 t a
 grind
theorem zpn {bud L m i row p} (hr:RwOK L row) (h:PG bud L m p):PG bud L m (zdl bud i row p):=h.bind λd b a=>by
 split
 ·split <;> (intro c;grind)
 ·exact znL hr.cells λ_=>a
theorem zlY {bud L m}:∀ {i} {l} {p},(∀ r∈l,RwOK L r)→PG bud L m p→PG bud L m (zvs bud i l p)
 | _,[],_,_,h=>h
 | i,r::l,p,a,h=>by
  exact zlY (l:=l) (λx b=>a x (yX _ b)) (zpn (a r (by simp)) h)
theorem zpc {bud L m i g K} (hg:GrOK L g K) (hL:L≤1000):∀ {d k} {p},k+d≤K*K→PG bud L m p→PG bud L m (grT bud i g d k p)
 | 0,_,_,_,h=>h
 | d+1,k,p,c,h=>by
  exact zpc hg hL (d:=d) (k:=k+1) (by omega) (h.bind λe b f=>by
   have a:=hg.cell (show L≤1000000 by omega) (k:=k) (by omega)
   grind [zjd,zpA])
theorem zlo {bud L m} (hL:L≤1000):∀ {i} {l} {p},(∀ g∈l,∃ K,GrOK L g K)→PG bud L m p→PG bud L m (zch bud i l p)
 | _,[],_,_,h=>h
 | i,g::l,p,b,h=>by
  obtain ⟨K,a⟩:=b g (by simp)
  exact zlo (l:=l) hL (λx c=>b x (yX _ c)) (zpc (d:=g.least.length) (k:=0) a hL (by rw [a.len];omega) h)
theorem zoo {bud L R G st b m} (hL:L≤1000) (hR:∀ r∈R,RwOK L r) (hG:∀ g∈G,∃ K,GrOK L g K) (h:PI bud L m st b):PG bud L m (zu2 bud R G st b):=
 zlo hL hG (zlY hR λ_=>h)
theorem znO {bud L R G m} (hL:L≤1000) (hR:∀ r∈R,RwOK L r) (hG:∀ g∈G,∃ K,GrOK L g K):∀ {f st b},PI bud L m st b→PG bud L m (runU bud R G f st b)
 | 0,_,_,h=>λ_=>h
 | f+1,st,b,h=>by
  have c:=zoo hL hR hG h
  unfold runU
  split <;> rename_i a
  ·exact znO hL hR hG (c a.1)
  grind

def zuL (t0:zuj) (st:List Step):Int:=t0.cost+1+(st.length:Int)
def finW (t0:zuj) (p:PR) (K:List Step→List Range→Option (Option (Found×zuj))):Option (Option (Found×zuj)):=
 if p.k=0 then K p.st p.b else if p.k=2 then some none else some (some (⟨[],0,⟨0,p.st,0,0,[]⟩⟩,⟨t0.s,t0.rows,t0.zt7,zuL t0 p.st⟩))
structure SW (t0:zuj) (bud:Nat):Prop where
 c0:0≤t0.cost
 e:t0.zt7=t0.cost+1+(bud:Int)
 le:t0.zt7≤65536
theorem SW.bud {t0 bud} (h:SW t0 bud):bud≤65536:=by have:=h.c0;have:=h.e;have:=h.le;omega
theorem SW.full {t0 bud} (h:SW t0 bud) {st} (hl:st.length≤bud):zuL t0 st=t0.zt7↔bud≤st.length:=by
 have:=h.e
 grind [zuL]
theorem SW.next {t0 bud} (h:SW t0 bud) {st} (hl:st.length≤bud) (x):ztJ (zuL t0 st) 1=zuL t0 (st++[x]):=by
 have:=h.c0;have:=h.e;have:=h.le
 grind [zuL,ztJ,zaK]
theorem zng {t0} {p} {K1 K2} {F:PR→PR} (h0:p.k=0→K1 p.st p.b=finW t0 (F p) K2) (h1:p.k≠0→F p=p):finW t0 p K1=finW t0 (F p) K2:=by
 by_cases h:p.k=0
 ·rw [← h0 h];exact if_pos h
 ·unfold finW;grind
theorem znP {b} {c} (h0:0≤c) (h1:c<(b.length:Int)) (r):sto b c r=some (zvQ b c r):=by
 unfold sto zvQ
 grind
theorem zsW {n bud L m i:Nat} {t0} {t1 b1} {rec7} {rec8} {row} (hw:SW t0 bud) (ht1:t1.length=L) (hb1:b1.length=L) (hi:i<1000000) (hr:RwOK L row) {st} {b} (hI:PI bud L m st b) (hn:1000000≤n) :
  ztO (za.l9 n t0 t1 b1 rec7 (i:Int) rec8 row) n (b,st,zuL t0 st,decide (m<st.length),0)=finW t0 (rowT bud i row row.ztP ⟨0,st,b⟩) λst b=>rec8 (b,st,zuL t0 st,decide (m<st.length),((i+1:Nat):Int)):=by
 have hfew:=hr.few
 have hbud:=hw.bud
 have:=zbn (σ:=List Step×List Range) (body:=za.l9 n t0 t1 b1 rec7 (i:Int) rec8 row) (len:=row.ztP.length) (st:=λs j=>(s.2,s.1,zuL t0 s.1,decide (m<s.1.length),(j:Int))) (g:=λj s=>finW t0 (rowT bud i row (row.ztP.drop j) ⟨0,s.1,s.2⟩) λst b=>rec8 (b,st,zuL t0 st,decide (m<st.length),((i+1:Nat):Int))) (λ_ s=>PI bud L m s.1 s.2) (λrec2 j s hj hI hrr=>?_) (λrec2 s hI=>?_) n 0 (st,b) (yp _) (by omega) hI
 ·grind
 ·obtain ⟨st,b⟩:=s
  simp only at hI hrr
  have hc:=hr.cells _ (ym hj)
  have hc1:row.ztP[j].cell<(b.length:Int):=by rw [hI.len];grind
  have hT:=zqk (n:=n) (r:=row) (b:=b) (c:=row.ztP[j].cell) hI.box (by rw [hI.len];exact hr.fits) hr.few hc.1 hc1 hn
  have hx:=zkm hc.1 hc1
  have hst:=hI.le
  have hge:=hI.ge
  have ha:∀ x:Step,Go.Proofs.YtipkniadbkndfaaGreatDoor.app 24 st [x]=some (st++[x]):=λx=>app1 (by omega)
  have hinv:=zjd (kind:=0) (index:=(i:Int)) hI hc.1 hc.2 (zm2 (r:=row) (b:=b) (c:=row.ztP[j].cell))
  rw [zo hj,rowT,PR.zwV]
  simp only [za.l9,zw hj,if_true,jn,zb hj,ya,hT,hx,znP hc.1 hc1,ha,zd (i:=j) (by omega),uC,hI.len,hb1,ht1,zjm,decide_true,grd,yg,beq_iff_eq]
  revert hinv
  unfold zvB
  by_cases h1:zgt row b row.ztP[j].cell=rgP b row.ztP[j].cell
  ·simp_all
  ·rw [if_neg h1,if_neg h1]
   by_cases h2:bud≤st.length
   ·rw [if_pos h2,if_pos ((hw.full hst).2 h2),zi9 (by simp)]
    exact λ_=>rfl
   ·rw [if_neg h2,if_neg (λh=>h2 ((hw.full hst).1 h))]
    by_cases h3:(zgt row b row.ztP[j].cell).hi<(zgt row b row.ztP[j].cell).lo
    ·rw [if_pos h3,if_pos h3,zi9 (by simp),hw.next hst ⟨0,(i:Int),row.ztP[j].cell⟩]
     exact λ_=>rfl
    ·rw [if_neg h3,if_neg h3,hw.next hst ⟨0,(i:Int),row.ztP[j].cell⟩]
     intro hinv
     have:=hrr (st++[⟨0,(i:Int),row.ztP[j].cell⟩],zvQ b row.ztP[j].cell (zgt row b row.ztP[j].cell)) (hinv rfl)
     have e:decide (m<(st++[(⟨0,(i:Int),row.ztP[j].cell⟩:Step)]).length)=true:=by simp;omega
     simp only [e] at this
     exact this
 ·simp only [za.l9,zaw,ye,if_false,List.drop_length,rowT,zd (i:=i) (by omega)]
  rfl
theorem zsV {n bud L m} {self} {t0} {t1 b1} {t2} {rec7} (hw:SW t0 bud) (ht1:t1.length=L) (hb1:b1.length=L) (hR:∀ r∈t0.rows,RwOK L r) (hRl:t0.rows.length<1000000) {st} {b} (hI:PI bud L m st b) (hn:1000000≤n) :
  ztO (za.l8 n self t0 t1 t2 b1 rec7) n (b,st,zuL t0 st,decide (m<st.length),0)=finW t0 (zvs bud 0 t0.rows ⟨0,st,b⟩) λst b=>ztO (za.l10 n self t0 t1 t2 b1 rec7) n (b,st,zuL t0 st,decide (m<st.length),0):=by
 have hbud:=hw.bud
 have:=zbn (σ:=List Step×List Range) (body:=za.l8 n self t0 t1 t2 b1 rec7) (len:=t0.rows.length) (st:=λs j=>(s.2,s.1,zuL t0 s.1,decide (m<s.1.length),(j:Int))) (g:=λj s=>finW t0 (zvs bud j (t0.rows.drop j) ⟨0,s.1,s.2⟩) λst b=>ztO (za.l10 n self t0 t1 t2 b1 rec7) n (b,st,zuL t0 st,decide (m<st.length),0)) (λ_ s=>PI bud L m s.1 s.2) (λrec2 i s hi hI hrr=>?_) (λrec2 s hI=>?_) n 0 (st,b) (yp _) (by omega) hI
 ·grind
 ·obtain ⟨st,b⟩:=s
  simp only at hI hrr
  have hr:=hR _ (ym hi)
  have hst:=hI.le
  have ha:∀ x:Step,Go.Proofs.YtipkniadbkndfaaGreatDoor.app 24 st [x]=some (st++[x]):=λx=>app1 (by omega)
  rw [zo hi,zvs]
  have hv:((t0.rows[i].ztP.length:Int)==0&&decide (t0.rows[i].bound<0))=zwk t0.rows[i]:=by
   unfold zwk
   have:((t0.rows[i].ztP.length:Int)==0)=t0.rows[i].ztP.isEmpty:=by
    rw [Bool.eq_iff_iff];simp
   rw [this]
  simp only [za.l8,zw hi,if_true,zb hi,ya,hv]
  by_cases h1:zwk t0.rows[i]=true
  ·have es:zdl bud i t0.rows[i] ⟨0,st,b⟩=if bud≤st.length then ⟨2,st,b⟩ else ⟨1,st++[⟨0,(i:Int),-1⟩],b⟩:=by
    unfold zdl;rw [PR.zwV,if_pos h1]
   rw [if_pos h1,es]
   simp only [ha,ya,hI.len,hb1,ht1,decide_true,grd,if_true,uC,beq_iff_eq]
   by_cases h2:bud≤st.length
   ·rw [if_pos h2,if_pos ((hw.full hst).2 h2),zeK (by simp)]
    rfl
   ·rw [if_neg h2,if_neg (λh=>h2 ((hw.full hst).1 h)),zeK (by simp),hw.next hst ⟨0,(i:Int),-1⟩]
    rfl
  ·have es:zdl bud i t0.rows[i] ⟨0,st,b⟩=rowT bud i t0.rows[i] t0.rows[i].ztP ⟨0,st,b⟩:=by
    unfold zdl;rw [PR.zwV,if_neg h1]
   rw [if_neg h1,es,zsW hw ht1 hb1 (by omega) hr hI hn]
   exact zng (F:=zvs bud (i+1) (t0.rows.drop (i+1))) (λhk=>by
    have hinv:=znL (bud:=bud) (m:=m) (i:=i) (row:=t0.rows[i]) (p:=⟨0,st,b⟩) hr.cells (λ_=>hI) hk
    have:=hrr ((rowT bud i t0.rows[i] t0.rows[i].ztP ⟨0,st,b⟩).st,(rowT bud i t0.rows[i] t0.rows[i].ztP ⟨0,st,b⟩).b) hinv
    refine this.trans ?_
    congr 1
    congr 1
    generalize rowT bud i t0.rows[i] t0.rows[i].ztP ⟨0,st,b⟩=q at hk
    cases q;grind) (λhk=>zeK hk)
 ·simp only [za.l8,zaw,ye,if_false,List.drop_length,zvs]
  rfl
theorem zsa {n bud L m i K:Nat} {t0} {t1 b1} {rec7} {rec10} {g} (hw:SW t0 bud) (ht1:t1.length=L) (hb1:b1.length=L) (hi:i<1000000) (hL:L≤1000) (hg:GrOK L g K) {st} {b} (hI:PI bud L m st b) (hn:1000000≤n) :
  ztO (za.l11 n t0 t1 b1 rec7 (i:Int) rec10 g) n (b,st,zuL t0 st,decide (m<st.length),0)=finW t0 (grT bud i g g.least.length 0 ⟨0,st,b⟩) λst b=>rec10 (b,st,zuL t0 st,decide (m<st.length),((i+1:Nat):Int)):=by
 have hsq:=hg.sq
 have hlen:=hg.len
 have hbud:=hw.bud
 have:=zbn (σ:=List Step×List Range) (body:=za.l11 n t0 t1 b1 rec7 (i:Int) rec10 g) (len:=g.least.length) (st:=λs j=>(s.2,s.1,zuL t0 s.1,decide (m<s.1.length),(j:Int))) (g:=λj s=>finW t0 (grT bud i g (g.least.length - j) j ⟨0,s.1,s.2⟩) λst b=>rec10 (b,st,zuL t0 st,decide (m<st.length),((i+1:Nat):Int))) (λ_ s=>PI bud L m s.1 s.2) (λrec2 j s hj hI hrr=>?_) (λrec2 s hI=>?_) n 0 (st,b) (yp _) (by omega) hI
 ·grind
 ·obtain ⟨st,b⟩:=s
  simp only at hI hrr
  have hjK:j<K*K:=by omega
  have hc:=hg.cell (show L≤1000000 by omega) hjK
  have hc1:g.first+(j:Int)<(b.length:Int):=by rw [hI.len];omega
  have hx:=zkm hc.2.1 hc1
  have hst:=hI.le
  have hge:=hI.ge
  have ha:∀ x:Step,Go.Proofs.YtipkniadbkndfaaGreatDoor.app 24 st [x]=some (st++[x]):=λx=>app1 (by omega)
  have hcl:=zkO (n:=n) hg hI.len hL hjK hn
  have hinv:=zjd (kind:=1) (index:=(i:Int)) hI hc.2.1 hc.2.2 (zpA (g:=g) (b:=b) (k:=j))
  have hnum:=hg.num (lstG g j) (by grind [lstG])
  have hs:zt2 (lstG g j) 1=lstG g j - 1:=zaK (by omega) (by omega)
  have hrr':∀ st' b',PI bud L m st' b'→rec2 (b',st',zuL t0 st',decide (m<st'.length),((j+1:Nat):Int))=finW t0 (grT bud i g (g.least.length - (j+1)) (j+1) ⟨0,st',b'⟩) λst b=>rec10 (b,st,zuL t0 st,decide (m<st.length),((i+1:Nat):Int)):=λst' b' h=>hrr (st',b') h
  rw [show g.least.length - j=(g.least.length - (j+1))+1 by omega,grT,PR.zwV]
  simp only [za.l11,zw hj,if_true,jn,zpX hj,ya,hc.1,hx,hcl,hs,yo,yi,yy,znP hc.2.1 hc1,ha,zd (i:=j) (by omega),uC,hI.len,hb1,ht1,zjm,decide_true,grd]
  by_cases h0:(decide (lstG g j≤(rgP b (g.first+(j:Int))).hi)&&zgD g b j)=true
  ·have hcut:cutP g b j=⟨(rgP b (g.first+(j:Int))).lo,lstG g j - 1⟩:=if_pos h0
   have h0':(decide ((rgP b (g.first+(j:Int))).hi<lstG g j)||!zgD g b j)=false:=by
    simp only [yd,yg] at h0
    rw [h0.2];simp;omega
   rw [h0']
   simp only [ye,if_false,yg,beq_iff_eq,← hcut]
   have h3e:lstG g j - 1<(rgP b (g.first+(j:Int))).lo↔(cutP g b j).hi<(cutP g b j).lo:=by rw [hcut]
   revert hinv
   unfold zvB
   by_cases h1:cutP g b j=rgP b (g.first+(j:Int))
   ·rw [if_pos h1,if_pos h1]
    exact λ_=>hrr' st b hI
   ·rw [if_neg h1,if_neg h1]
    by_cases h2:bud≤st.length
    ·rw [if_pos h2,if_pos ((hw.full hst).2 h2),ziH (by simp)]
     exact λ_=>rfl
    ·rw [if_neg h2,if_neg (λh=>h2 ((hw.full hst).1 h))]
     by_cases h3:(cutP g b j).hi<(cutP g b j).lo
     ·rw [if_pos h3,if_pos (h3e.2 h3),ziH (by simp),hw.next hst ⟨1,(i:Int),g.first+(j:Int)⟩]
      exact λ_=>rfl
     ·rw [if_neg h3,if_neg (λh=>h3 (h3e.1 h)),hw.next hst ⟨1,(i:Int),g.first+(j:Int)⟩]
      intro hinv
      have:=hrr' (st++[⟨1,(i:Int),g.first+(j:Int)⟩]) (zvQ b (g.first+(j:Int)) (cutP g b j)) (hinv rfl)
      have e:decide (m<(st++[(⟨1,(i:Int),g.first+(j:Int)⟩:Step)]).length)=true:=by simp;omega
      simp only [e] at this
      exact this
  ·have hcut:cutP g b j=rgP b (g.first+(j:Int)):=if_neg h0
   have h0':(decide ((rgP b (g.first+(j:Int))).hi<lstG g j)||!zgD g b j)=true:=by
    simp only [yd,yg] at h0
    simp only [yK,yg,yB]
    by_cases h:(rgP b (g.first+(j:Int))).hi<lstG g j
    ·exact .inl h
    ·right
     cases hh:zgD g b j with
     | false=>rfl
     | true=>exact absurd ⟨by omega,hh⟩ h0
   rw [h0',if_pos rfl,show zvB bud 1 (i:Int) (g.first+(j:Int)) (cutP g b j) st b=⟨0,st,b⟩ from if_pos hcut]
   exact hrr' st b hI
 ·simp only [za.l11,zaw,ye,if_false,uu,grT,zd (i:=i) (by omega)]
  rfl
noncomputable def zjs (n:Nat) (self:zuj→List Range→Int→Option (Option (Found×zuj))) (t0:zuj) (t1:List Range) (t2:Int) (st:List Step) (b:List Range):Option (Option (Found×zuj)):=
 if ((decide (0<(t0.s.cases.length:Int)))&&(decide (t2<0)))=true then
  ztO (za.l12 n self t0 t1 b st) n (([]:List Tree),t0.s.box,t0.s.rows,t0.s.ztQ,t0.s.cases,t0.rows,t0.zt7,zuL t0 st,0)
 else
  (zh n b (λq0=>zbz n q0)).bind λc=>
  if (decide (c<0))=true then
   (mkl 8 (b.length:Int) (0:Int)).bind λv=>
   ztO (za.l13 n t0 t1 t2 b (zuL t0 st)) n (v,0)
  else
   (idx b c).bind λx1=>
   (zcN n x1).bind λat_=>
   (idx b c).bind λx2=>
   (idx b c).bind λx3=>
   ztO (za.l14 n self t1 t2 b st c at_ x2 x3) n (([]:List Tree),t0.s.box,t0.s.rows,t0.s.ztQ,t0.s.cases,t0.rows,t0.zt7,zuL t0 st,0)
theorem zr9 {n bud L m} {self} {t0} {t1 b1} {t2} {rec7} (hw:SW t0 bud) (ht1:t1.length=L) (hb1:b1.length=L) (hL:L≤1000) (hG:∀ g∈t0.s.ztQ,∃ K,GrOK L g K) (hGl:t0.s.ztQ.length<1000000) {st} {b} (hI:PI bud L m st b) (hn:1000000≤n) :
  ztO (za.l10 n self t0 t1 t2 b1 rec7) n (b,st,zuL t0 st,decide (m<st.length),0)=finW t0 (zch bud 0 t0.s.ztQ ⟨0,st,b⟩) λst b=>if m<st.length then rec7 (b,st,zuL t0 st) else zjs n self t0 t1 t2 st b:=by
 have:=zbn (σ:=List Step×List Range) (body:=za.l10 n self t0 t1 t2 b1 rec7) (len:=t0.s.ztQ.length) (st:=λs j=>(s.2,s.1,zuL t0 s.1,decide (m<s.1.length),(j:Int))) (g:=λj s=>finW t0 (zch bud j (t0.s.ztQ.drop j) ⟨0,s.1,s.2⟩) λst b=>if m<st.length then rec7 (b,st,zuL t0 st) else zjs n self t0 t1 t2 st b) (λ_ s=>PI bud L m s.1 s.2) (λrec2 i s hi hI hrr=>?_) (λrec2 s hI=>?_) n 0 (st,b) (yp _) (by omega) hI
 ·grind
 ·obtain ⟨st,b⟩:=s
  simp only at hI hrr
  obtain ⟨K,hK⟩:=hG _ (ym hi)
  rw [zo hi,zch]
  simp only [za.l10,zw hi,if_true,zb hi,ya]
  rw [zsa hw ht1 hb1 (by omega) hL hK hI hn]
  exact zng (F:=zch bud (i+1) (t0.s.ztQ.drop (i+1))) (λhk=>by
   have hinv:=zpc (bud:=bud) (m:=m) (i:=i) (d:=t0.s.ztQ[i].least.length) (k:=0) (p:=⟨0,st,b⟩) hK hL (by rw [hK.len];omega) (λ_=>hI) hk
   have:=hrr ((grT bud i t0.s.ztQ[i] t0.s.ztQ[i].least.length 0 ⟨0,st,b⟩).st,(grT bud i t0.s.ztQ[i] t0.s.ztQ[i].least.length 0 ⟨0,st,b⟩).b) hinv
   refine this.trans ?_
   congr 1
   congr 1
   generalize grT bud i t0.s.ztQ[i] t0.s.ztQ[i].least.length 0 ⟨0,st,b⟩=q at hk
   cases q;grind) (λhk=>zdp hk)
 ·obtain ⟨st,b⟩:=s
  simp only at hI
  have e1:decide (b1.length=b.length)=true:=by rw [hb1,hI.len];simp
  have e2:decide (t1.length=b.length)=true:=by grind
  simp only [za.l10,zaw,ye,if_false,List.drop_length,zch,e1,e2,grd,if_true,ur]
  show _=(if m<st.length then _ else _)
  by_cases h:m<st.length
  ·grind
  ·rw [if_pos (by simp [h]),if_neg h]
   rfl
theorem zsb {n bud L} {self} {t0} {t1 b} {t2} (hw:SW t0 bud) (ht1:t1.length=L) (hL:L≤1000) (hR:∀ r∈t0.rows,RwOK L r) (hRl:t0.rows.length<1000000) (hG:∀ g∈t0.s.ztQ,∃ K,GrOK L g K) (hGl:t0.s.ztQ.length<1000000) (hb:PI bud L 0 [] b) (hn:1000000≤n) :
  ztO (za.l7 n self t0 t1 t2) n (b,([]:List Step),zuL t0 [])=finW t0 (runU bud t0.rows t0.s.ztQ (bud+1) [] b) (zjs n self t0 t1 t2):=by
 have hbud:=hw.bud
 have:=zdF (body:=za.l7 n self t0 t1 t2) (λs=>bud - s.2.1.length) (λs=>s.2.2=zuL t0 s.2.1∧PI bud L 0 s.2.1 s.1) (λs r=>∀ f,bud<f+s.2.1.length→r=finW t0 (runU bud t0.rows t0.s.ztQ f s.2.1 s.1) (zjs n self t0 t1 t2)) (λrec s hI hr=>?_) n (b,[],zuL t0 []) ⟨rfl,hb⟩ (by grind) (bud+1) (by simp)
 ·grind
 ·obtain ⟨b,st,c⟩:=s
  obtain ⟨e,hI⟩:=hI
  simp only at e hI
  subst e
  intro f hf
  simp only at hf hr
  have hle:=hI.le
  obtain ⟨f,rfl⟩:∃ f',f=f'+1:=⟨f - 1,by omega⟩
  have hI2:PI bud L st.length st b:=⟨hI.box,hI.len,hI.ne,yk _,hI.le⟩
  have hp:=zoo hL hR hG hI2
  have e1:=zsV (n:=n) (self:=self) (t2:=t2) (rec7:=rec) hw ht1 hI.len hR hRl hI2 hn
  rw [show decide (st.length<st.length)=false by simp] at e1
  simp only [za.l7]
  rw [e1]
  have e2:finW t0 (zvs bud 0 t0.rows ⟨0,st,b⟩) (λst' b'=>ztO (za.l10 n self t0 t1 t2 b rec) n (b',st',zuL t0 st',decide (st.length<st'.length),0))=finW t0 (zu2 bud t0.rows t0.s.ztQ st b) (λst' b'=>if st.length<st'.length then rec (b',st',zuL t0 st') else zjs n self t0 t1 t2 st' b'):=by
   refine zng (F:=zch bud 0 t0.s.ztQ) (λhk=>?_) (λhk=>zdp hk)
   have hinv:=zlY (i:=0) (m:=st.length) hR (p:=⟨0,st,b⟩) (λ_=>hI2) hk
   refine (zr9 hw ht1 hI.len hL hG hGl hinv hn).trans ?_
   congr 1
   congr 1
   generalize zvs bud 0 t0.rows ⟨0,st,b⟩=q at hk
   cases q;grind
  rw [e2]
  unfold runU
  by_cases hc:(zu2 bud t0.rows t0.s.ztQ st b).k=0∧st.length<(zu2 bud t0.rows t0.s.ztQ st b).st.length
  ·have hp:=hp hc.1
   have hple:=hp.le
   rw [if_pos hc]
   unfold finW
   rw [if_pos hc.1]
   refine (if_pos hc.2).trans ?_
   exact hr ((zu2 bud t0.rows t0.s.ztQ st b).b,(zu2 bud t0.rows t0.s.ztQ st b).st,zuL t0 (zu2 bud t0.rows t0.s.ztQ st b).st) ⟨rfl,⟨hp.box,hp.len,hp.ne,yp _,hp.le⟩⟩ (by grind) f (by grind)
  ·rw [if_neg hc]
   unfold finW
   by_cases hk:(zu2 bud t0.rows t0.s.ztQ st b).k=0
   ·rw [if_pos hk,if_pos hk]
    exact if_neg (λh=>hc ⟨hk,h⟩)
   ·rw [if_neg hk,if_neg hk]
structure NR where
 k:Nat
 ix:Nat
 v:List Int
 t:Tree
 c:Nat
def zvi:Tree:=⟨0,[],0,0,[]⟩
def zky:NR:=⟨2,0,[],zvi,0⟩
def zuX {α:Type} (self:α→Nat→NR) (tr:List Tree→Tree) (ix:Nat→Nat) (d:Nat):Nat→List α→List Tree→Nat→NR
 | _,[],kids,c=>⟨1,0,[],tr kids,c⟩
 | i,x::l,kids,c=>if (self x (d - c)).k=2 then zky else if (self x (d - c)).k=0 then ⟨0,ix i,(self x (d - c)).v,zvi,c+(self x (d - c)).c⟩ else zuX self tr ix d (i+1) l (kids++[(self x (d - c)).t]) (c+(self x (d - c)).c)
def zxB (r:Range):Bool:=decide (r.lo<r.hi)
def zuw (b:List Range):Int:=ixA zxB b 0
def zvw (r:Range):List Range:=[⟨r.lo,midP r⟩,⟨midP r+1,r.hi⟩]
def zuP (G:List zuc) (cases_:List (List Row)):Nat→Bool→List Row→List Range→Nat→NR
 | 0,_,_,_,_=>zky
 | f+1,root,R,b,d=>if d=0 then zky else
  let p:=runU (d - 1) R G d [] b
  if p.k=2 then zky else if p.k≠0 then ⟨1,0,[],⟨0,p.st,0,0,[]⟩,1+p.st.length⟩
  else if (root&&!cases_.isEmpty)=true then zuX (λcs d=>zuP G cases_ f false (R++cs) p.b d) (λkids=>⟨2,p.st,0,0,kids⟩) id d 0 cases_ [] (1+p.st.length)
  else if zuw p.b<0 then ⟨0,0,p.b.map (·.lo),zvi,1+p.st.length⟩
  else zuX (λr d=>zuP G cases_ f false R (zvQ p.b (zuw p.b) r) d) (λkids=>⟨1,p.st,zuw p.b,midP (rgP p.b (zuw p.b)),kids⟩) (λ_=>0) d 0 (zvw (rgP p.b (zuw p.b))) [] (1+p.st.length)
theorem zeH {α} {self} {tr ix d}:∀ {i} {l:List α} {kids} {c},(∀ x∈l,∀ d',(self x d').k≠2→(self x d').c≤d')→c≤d→(zuX self tr ix d i l kids c).k≠2→c≤(zuX self tr ix d i l kids c).c∧(zuX self tr ix d i l kids c).c≤d
 | _,[],_,_,_,e,_=>⟨yk _,e⟩
 | i,x::l,kids,c,b,e,a=>by
  have j:=b x (by simp) (d - c)
  unfold zuX at a ⊢
  split at a <;> rename_i h
  ·exact absurd rfl a
  ·rw [if_neg h]
   split at a <;> rename_i g
   ·grind
   ·rw [if_neg g]
    have:=zeH (i:=i+1) (λy f=>b y (by simp [f])) (show c+(self x (d - c)).c≤d by omega) a
    omega
theorem zid {α} {self} {tr ix d}:∀ {i} {l:List α} {kids} {c},((zuX self tr ix d i l kids c).k=0→(zuX self tr ix d i l kids c).t=zvi)∧((zuX self tr ix d i l kids c).k≠0→(zuX self tr ix d i l kids c).v=[])
 | _,[],_,_=>⟨λh=>absurd h (by simp [zuX]),λ_=>rfl⟩
 | i,x::l,kids,c=>by
  unfold zuX
  split
  ·exact ⟨λh=>absurd h (by simp [zky]),λ_=>rfl⟩
  ·split
   ·grind
   ·exact zid
theorem zih {G cs}:∀ {f} {root R b d},((zuP G cs f root R b d).k=0→(zuP G cs f root R b d).t=zvi)∧((zuP G cs f root R b d).k≠0→(zuP G cs f root R b d).v=[])
 | 0,_,_,_,_=>⟨λh=>absurd h (by simp [zuP,zky]),λ_=>rfl⟩
 | f+1,root,R,b,d=>by
  unfold zuP
  split
  ·exact ⟨λh=>absurd h (by simp [zky]),λ_=>rfl⟩
  ·dsimp only
   split
   ·exact ⟨λh=>absurd h (by simp [zky]),λ_=>rfl⟩
   ·split
    ·grind
    ·split
     ·exact zid
     ·split
      ·grind
      ·exact zid
theorem zqa {bud kind index cell r st b} (h:st.length≤bud):(zvB bud kind index cell r st b).st.length≤bud:=by
 grind [zvB]
theorem zo3 {bud} {p:PR} {f} (h:p.st.length≤bud) (hf:∀ st b,st.length≤bud→(f st b).st.length≤bud):(p.bind f).st.length≤bud:=by
 grind [PR.bind]
theorem zrG {bud i row}:∀ {l} {p},p.st.length≤bud→(rowT bud i row l p).st.length≤bud
 | [],_,h=>h
 | t::l,p,h=>by
  exact zrG (l:=l) (zo3 h λ_ _ h=>zqa h)
theorem zqD {bud i row p} (h:p.st.length≤bud):(zdl bud i row p).st.length≤bud:=zo3 h λst b h=>by
 grind [zrG]
theorem znN {bud}:∀ {i} {l} {p},p.st.length≤bud→(zvs bud i l p).st.length≤bud
 | _,[],_,h=>h
 | i,r::l,p,h=>by
  exact znN (l:=l) (zqD h)
theorem zsA {bud i g}:∀ {d k} {p},p.st.length≤bud→(grT bud i g d k p).st.length≤bud
 | 0,_,_,h=>h
 | d+1,k,p,h=>by
  exact zsA (d:=d) (zo3 h λ_ _ h=>zqa h)
theorem zjF {bud}:∀ {i} {l} {p},p.st.length≤bud→(zch bud i l p).st.length≤bud
 | _,[],_,h=>h
 | i,g::l,p,h=>by
  exact zjF (l:=l) (zsA h)
theorem zl0 {bud R G}:∀ {f} {st b},st.length≤bud→(runU bud R G f st b).st.length≤bud
 | 0,_,_,h=>h
 | f+1,st,b,h=>by
  have a:(zu2 bud R G st b).st.length≤bud:=zjF (znN h)
  unfold runU
  split
  ·exact zl0 a
  grind
theorem zcB {G cs}:∀ {f} {root R b d},(zuP G cs f root R b d).k≠2→1≤(zuP G cs f root R b d).c∧(zuP G cs f root R b d).c≤d
 | 0,_,_,_,_,h=>absurd rfl h
 | f+1,root,R,b,d,h=>by
  unfold zuP at h ⊢
  split at h <;> rename_i hd
  ·exact absurd rfl h
  ·rw [if_neg hd]
   dsimp only at h ⊢
   have hle:=zl0 (bud:=d - 1) (R:=R) (G:=G) (f:=d) (st:=[]) (b:=b) (by simp)
   split at h <;> rename_i h2
   ·exact absurd rfl h
   ·rw [if_neg h2]
    split at h <;> rename_i h1
    ·grind
    ·rw [if_neg h1]
     split at h <;> rename_i hr
     ·rw [if_pos hr]
      have:=zeH (λx _ d' hk=>(zcB hk).2) (by omega) h
      omega
     ·rw [if_neg hr]
      split at h <;> rename_i hc
      ·grind
      ·rw [if_neg hc]
       have:=zeH (λx _ d' hk=>(zcB hk).2) (by omega) h
       omega
structure SysG (L:Nat) (G:List zuc) (cs:List (List Row)):Prop where
 gr:∀ g∈G,∃ K,GrOK L g K
 gl:G.length≤64
 ca:∀ l∈cs,l.length≤64∧∀ r∈l,RwOK L r
 cl:cs.length≤1024
 le:L≤128
theorem zrY {b}:∀ {k},ixA zxB b k<0∨∃ i,∃ hi:i<b.length,ixA zxB b k=((k+i:Nat):Int)∧b[i].lo<b[i].hi:=by
 induction b with
 | nil=>grind [ixA]
 | cons r b ih=>
  intro k
  unfold ixA
  by_cases h:zxB r=true
  ·rw [if_pos h]
   exact .inr ⟨0,by simp,rfl,by grind [zxB]⟩
  ·rcases ih (k:=k+1) with c | ⟨i,hi,e,a⟩
   ·grind
   ·exact .inr ⟨i+1,by grind,by grind,by grind⟩
theorem zpy {b} (h:¬ zuw b<0):0≤zuw b∧zuw b<(b.length:Int)∧(rgP b (zuw b)).lo<(rgP b (zuw b)).hi:=by
 grind [zrY,zuw,rgP]
theorem zr5 {r x} (h:x∈zvw r) (hw:r.lo<r.hi):x.lo≤x.hi∧r.lo≤x.lo∧x.hi≤r.hi:=by
 simp only [zvw] at h
 unfold midP at h
 grind
theorem zqP {bud d L st b x} (h:PI bud L 0 st b) (hc:¬ zuw b<0) (hx:x∈zvw (rgP b (zuw b))):PI d L 0 [] (zvQ b (zuw b) x):=by
 obtain ⟨e,g,f⟩:=zpy hc
 have a:=zr5 hx f
 have c:=zpx h.box h.ne e g (λ_=>a.2) a.1
 exact ⟨c.1,by rw [zjm,h.len],c.2,yp _,yp _⟩
theorem zpu {bud d L st b} (h:PI bud L 0 st b):PI d L 0 [] b:=⟨h.box,h.len,h.ne,yp _,yp _⟩

theorem zqJ {n} {A B} (hA:A.length≤2000) (hB:B.length≤2000) (hn:1000000≤n):zi n [A,B]=some (A++B):=by
 have a0:ztJ 0 1=1:=by grind [ztJ,zaK]
 have a1:ztJ 1 1=2:=by grind [ztJ,zaK]
 have h1:=zM (body:=zi.l1 n [A,B]) (len:=2) (st:=λi=>((((([A,B]:List (List Row)).take i).map List.length).sum:Nat),((i:Nat):Int))) (g:=λ_=>ztO (zi.l2 n [A,B]) n (([]:List Row),0)) (λrec i hi hr=>?_) (λrec=>?_) n 0 (yp _) (by omega)
 ·unfold zi
  refine (show ztO (zi.l1 n [A,B]) n (0,0)=_ from h1).trans ?_
  have h2:=zM (body:=zi.l2 n [A,B]) (len:=2) (st:=λi=>((([A,B]:List (List Row)).take i).flatten,((i:Nat):Int))) (g:=λ_=>some (A++B)) (λrec i hi hr=>?_) (λrec=>?_) n 0 (yp _) (by omega)
  ·exact h2
  ·rcases (show i=0∨i=1 by omega) with rfl | rfl
   ·simp only [zi.l2]
    rw [if_pos (by simp),show idx [A,B] ((0:Nat):Int)=some A from rfl,ya,zp (by grind),ya]
    grind
   ·simp only [zi.l2]
    rw [if_pos (by simp),show idx [A,B] ((1:Nat):Int)=some B from rfl,ya,zp (by grind),ya]
    grind
  ·simp [zi.l2]
 ·rcases (show i=0∨i=1 by omega) with rfl | rfl
  ·have e:ztJ 0 (A.length:Int)=(A.length:Int):=by grind [ztJ,zaK]
   simp only [zi.l1]
   rw [if_pos (by simp),show idx [A,B] ((0:Nat):Int)=some A from rfl,ya]
   grind
  ·have e:ztJ (A.length:Int) (B.length:Int)=((A.length+B.length:Nat):Int):=zea (by omega)
   simp only [zi.l1]
   rw [if_pos (by simp),show idx [A,B] ((1:Nat):Int)=some B from rfl,ya]
   grind
 ·simp only [zi.l1]
  rw [if_neg (by simp)]
  simp only [grd]
  rw [if_pos (by simp;omega)]
theorem ztb {n} {t0} {t1} {t2} {b} {c} (h1:1≤b.length) (hl:b.length≤1000) (ht:b.length=t1.length) (hn:1000000≤n) :
  ((mkl 8 (b.length:Int) (0:Int)).bind λv=>ztO (za.l13 n t0 t1 t2 b c) n (v,0))=some (some (⟨b.map (·.lo),gmax t2 0,zvi⟩,⟨t0.s,t0.rows,t0.zt7,c⟩)):=by
 rw [mkl_0 (by omega),ya]
 have:=zbn (body:=za.l13 n t0 t1 t2 b c) (len:=b.length) (st:=λs i=>(s,i)) (g:=λ_ _=>some (some (⟨b.map (·.lo),gmax t2 0,zvi⟩,⟨t0.s,t0.rows,t0.zt7,c⟩))) (λi s=>s=(b.map (·.lo)).take i++List.replicate (b.length - i) 0) (λe i s h f k=>?_) (λe s f=>?_) n 0 (List.replicate b.length 0) (yp _) (by omega) (by simp)
 ·grind
 ·have d:((b.map (·.lo)).take i).length=i:=by grind
  have a:i<s.length:=by grind
  simp only [za.l13,zw h,zb h]
  rw [zb a,ya,zoQ a,ya,zd (i:=i) (by omega)]
  refine k _ ?_
  have l:i<(b.map (·.lo)).length:=by grind
  rw [f,yA l,show b.length - i=(b.length - (i+1))+1 by omega,List.replicate_succ,uN _ _ (by omega),d,uu,List.set_cons_zero,yM]
  grind
 ·have j:s=b.map (·.lo):=by
   grind [List.take_of_length_le]
  simp only [za.l13,zaw,ye,if_false,j,ht,decide_true,grd]
  rw [if_pos]
  ·rfl
  grind
theorem zsG {n} {b} (hl:b.length≤1000) (hn:1000000≤n):zh n b (λq0=>zbz n q0)=some (zuw b):=by
 have:=zM (body:=zh.l1 n b (λq0=>zbz n q0)) (len:=b.length) (st:=λi=>i) (g:=λi=>some (ixA zxB (b.drop i) i)) (λa i c d=>?_) (λa=>?_) n 0 (yp _) (by omega)
 ·grind [zh,zuw]
 ·rw [zo c]
  simp only [zh.l1,zb c,zbz,zd (i:=i) (by omega),ixA]
  unfold zxB at d ⊢
  grind
 ·simp [zh.l1,ixA]
def OutW (t0:zuj) (L:Nat) (base:Int) (strict:Bool) (Y:NR) (w:Option (Found×zuj)):Prop:=
 (Y.k=2∧w=none)∨(Y.k≠2∧(Y.k=0→Y.v.length=L∧Y.v≠[])∧∃ ix rows,w=some (⟨Y.v,ix,Y.t⟩,⟨t0.s,rows,t0.zt7,base+(Y.c:Int)⟩)∧(strict=true→rows=t0.rows))
def Out (t0:zuj) (L:Nat) (strict:Bool) (Y:NR) (r:Option (Option (Found×zuj))):Prop:=∃ w,r=some w∧OutW t0 L t0.cost strict Y w
theorem zoq {α} {n d c0 L} {l:List α} {self} {tr} {ix} {t0} {strict}
  {body}
  (hs:∀ x∈l,∀ d',(self x d').k≠2→(self x d').c≤d') (hsh:∀ x∈l,∀ d',((self x d').k=0→(self x d').t=zvi)∧((self x d').k≠0→(self x d').v=[])) (hc0:c0≤d) (hd:d≤65536) (hl:l.length≤1024)
  (hb:∀ rec kids rows (c:Nat) i (hi),c0≤c→c≤d→kids.length=i→(strict=true→rows=t0.rows)→∃ w,body rec (kids,t0.s.box,t0.s.rows,t0.s.ztQ,t0.s.cases,rows,t0.zt7,t0.cost+(c:Int),(i:Int))=pnk w (λx=>(Go.Proofs.YtipkniadbkndfaaGreatDoor.app 72 kids [zvi]).bind λx10=>(idx x10 (kids.length:Int)).bind λ_=>(sto x10 (kids.length:Int) x.1.tree).bind λb10=>if (!x.1.values.isEmpty)=true then some (some (x.1,x.2)) else rec (b10,x.2.s.box,x.2.s.rows,x.2.s.ztQ,x.2.s.cases,x.2.rows,x.2.zt7,x.2.cost,ztJ (i:Int) 1))∧OutW t0 L (t0.cost+(c:Int)) strict (self l[i] (d - c)) w)
  (he:∀ rec kids rows (c:Nat),body rec (kids,t0.s.box,t0.s.rows,t0.s.ztQ,t0.s.cases,rows,t0.zt7,t0.cost+(c:Int),(l.length:Int))=some (some (⟨[],0,tr kids⟩,⟨t0.s,rows,t0.zt7,t0.cost+(c:Int)⟩))) (hn:1000000≤n) :
  Out t0 L strict (zuX self tr ix d 0 l [] c0) (ztO body n (([]:List Tree),t0.s.box,t0.s.rows,t0.s.ztQ,t0.s.cases,t0.rows,t0.zt7,t0.cost+(c0:Int),0)):=by
 generalize hY:zuX self tr ix d 0 l [] c0=Y
 refine zeT (σ:=List Tree×List Row×Nat) (body:=body) (k:=l.length) (st:=λs i=>(s.1,t0.s.box,t0.s.rows,t0.s.ztQ,t0.s.cases,s.2.1,t0.zt7,t0.cost+(s.2.2:Int),(i:Int))) (λi s=>c0≤s.2.2∧s.2.2≤d∧s.1.length=i∧(strict=true→s.2.1=t0.rows)∧zuX self tr ix d i (l.drop i) s.1 s.2.2=Y) (λw=>OutW t0 L t0.cost strict Y w) (λrec i s hi hI hr=>?_) (λrec s hI=>?_) (by omega) ([],t0.rows,c0) ⟨yk _,hc0,rfl,λ_=>rfl,hY⟩
 ·obtain ⟨kids,rows,c⟩:=s
  obtain ⟨i1,i2,i3,i4,i5⟩:=hI
  simp only at i1 i2 i3 i4 i5
  obtain ⟨w,e,hw⟩:=hb rec kids rows c i hi i1 i2 i3 i4
  simp only
  rw [e,← i5,zo hi]
  have hx:=hs _ (ym hi) (d - c)
  have hy:=hsh _ (ym hi) (d - c)
  rw [zo hi] at i5
  unfold zuX at i5 ⊢
  generalize self l[i] (d - c)=y at *
  rcases hw with ⟨h2,rfl⟩ | ⟨h2,hsol,ix',rows',rfl,hst⟩
  ·rw [if_pos h2]
   exact ⟨none,rfl,.inl ⟨rfl,rfl⟩⟩
  ·rw [if_neg h2] at i5 ⊢
   have hx:=hx h2
   have hkl:kids.length<(kids++[zvi]).length:=by simp
   simp only [pnk]
   rw [app1 (by omega),ya,zb hkl,ya,zoQ hkl,ya]
   have hset:(kids++[zvi]).set kids.length y.t=kids++[y.t]:=by
    rw [uN _ _ (yk _),uu];rfl
   rw [hset]
   by_cases h0:y.k=0
   ·obtain ⟨hv1,hv2⟩:=hsol h0
    rw [if_pos h0]
    rw [if_pos (by cases hv:y.v with | nil=>exact absurd hv hv2 | cons a l=>rfl)]
    refine ⟨_,rfl,.inr ⟨by simp,λ_=>⟨hv1,hv2⟩,ix',rows',?_,hst⟩⟩
    rw [hy.1 h0]
    simp only [Int.natCast_add,Int.add_assoc]
   ·rw [if_neg h0] at i5 ⊢
    rw [if_neg (by rw [hy.2 h0];simp)]
    rw [zd (i:=i) (by omega)]
    obtain ⟨r,e1,e2⟩:=hr (kids++[y.t],rows',c+y.c) ⟨by simp only;omega,by simp only;omega,by simp;omega,hst,i5⟩
    refine ⟨r,?_,by rw [i5];exact e2⟩
    rw [← e1]
    simp only [Int.natCast_add,Int.add_assoc]
 ·obtain ⟨kids,rows,c⟩:=s
  obtain ⟨i1,i2,i3,i4,i5⟩:=hI
  simp only [List.drop_length] at i1 i2 i3 i4 i5
  simp only
  rw [he,← i5]
  exact ⟨_,rfl,.inr ⟨by simp [zuX],λh=>absurd h (by simp [zuX]),0,rows,rfl,i4⟩⟩
theorem zqA {G cs f root R b d} (h:cs=[]):zuP G cs f root R b d=zuP G cs f false R b d:=by
 cases f with
 | zero=>rfl
 | succ f=>grind [zuP]
theorem zoV {bud}:∀ {i} {l} {p},(∃ r∈l,zwk r=true)→(zvs bud i l p).k≠0
 | _,[],_,h=>by grind
 | i,r::l,p,h=>by
  unfold zvs
  by_cases c:zwk r=true
  ·have e:(zdl bud i r p).k≠0:=by
    by_cases d:p.k=0
    ·unfold zdl PR.bind
     grind
    grind [zkv]
   grind [zeK]
  ·obtain ⟨x,a,b⟩:=h
   rcases yI.1 a with rfl | a
   ·grind
   ·exact zoV ⟨x,a,b⟩
theorem zso {bud R G f st b} (h:∃ r∈R,zwk r=true):(runU bud R G (f+1) st b).k≠0:=by
 have a:(zu2 bud R G st b).k≠0:=by
  grind [zu2,zdp,zoV]
 unfold runU
 grind
theorem zfA {L} {S} (hS:SysG L S.ztQ S.cases):∀ (f n d:Nat) (t0) (b) (t2),1000000+f≤n→d<f→t0.s=S→0≤t0.cost→t0.zt7=t0.cost+(d:Int)→t0.zt7≤65536→(∀ r∈t0.rows,RwOK L r)→t0.rows.length≤1024+(if t2<0 then 0 else 64)→(t2<0→t0.rows=S.rows)→(L=0→∃ r∈t0.rows,zwk r=true)→PI 0 L 0 [] b →
  Out t0 L (!(decide (t2<0)&&!S.cases.isEmpty)) (zuP S.ztQ S.cases f (decide (t2<0)) t0.rows b d) (za n t0 b t2)
 | 0,_,_,_,_,_,_,h,_,_,_,_,_,_,_,_,_=>by omega
 | f+1,n,d,t0,b,t2,hn,hd,hs,hc0,hbd,hle,hR,hRl,hroot,hE,hb=>by
  obtain ⟨n,rfl⟩:∃ m,n=m+1:=⟨n - 1,by omega⟩
  have hn1:1000000≤n:=by omega
  have hL:=hS.le
  have hd6:d≤65536:=by omega
  have hR2:t0.rows.length≤1088:=by grind
  unfold za za.body zuP
  by_cases hd0:d=0
  ·have hcb:(t0.cost==t0.zt7)=true:=by grind
   rw [if_pos hd0,if_pos hcb]
   simp only [decide_true,grd,if_true]
   exact ⟨none,rfl,.inl ⟨rfl,rfl⟩⟩
  ·have hcb:¬ (t0.cost==t0.zt7)=true:=by grind
   rw [if_neg hd0,if_neg hcb]
   have hw:SW t0 (d - 1):=⟨hc0,by omega,hle⟩
   have hb1:PI (d - 1) L 0 [] b:=zpu hb
   have hrun:=zsb (n:=n) (self:=za n) (t1:=b) (t2:=t2) hw hb.len (by omega) hR (by omega) (by rw [hs];exact hS.gr) (by rw [hs];have:=hS.gl;omega) hb1 hn1
   have ec:zuL t0 []=ztJ t0.cost 1:=by
    grind [zuL,ztJ,zaK]
   rw [show d - 1+1=d by omega,ec] at hrun
   have hp:=znO (bud:=d - 1) (f:=d) (show L≤1000 by omega) hR (show ∀ g∈t0.s.ztQ,∃ K,GrOK L g K by rw [hs];exact hS.gr) hb1
   have hple:=zl0 (bud:=d - 1) (R:=t0.rows) (G:=t0.s.ztQ) (f:=d) (st:=[]) (b:=b) (by simp)
   have hvoid:L=0→(runU (d - 1) t0.rows t0.s.ztQ d [] b).k≠0:=λh=>by
    have:=zso (bud:=d - 1) (R:=t0.rows) (G:=t0.s.ztQ) (f:=d - 1) (st:=[]) (b:=b) (hE h)
    rwa [show d - 1+1=d by omega] at this
   rw [hrun]
   rw [hs] at hp hple hvoid ⊢
   generalize runU (d - 1) t0.rows S.ztQ d [] b=p at *
   unfold finW
   by_cases h2:p.k=2
   ·rw [if_pos h2,if_neg (by omega),if_pos h2]
    exact ⟨none,rfl,.inl ⟨rfl,rfl⟩⟩
   ·rw [if_neg h2]
    have hcc:zuL t0 p.st=t0.cost+((1+p.st.length:Nat):Int):=by unfold zuL;omega
    by_cases h1:p.k≠0
    ·rw [if_pos h1,if_neg h1,if_neg h2]
     refine ⟨_,rfl,.inr ⟨by simp,λh=>absurd h (by simp),0,t0.rows,?_,λ_=>rfl⟩⟩
     rw [hcc]
    ·have hk:p.k=0:=by omega
     have hI:=hp hk
     have hbl:=hI.len
     rw [if_neg h1,if_pos hk]
     unfold zjs
     have hcases:((decide (0<(t0.s.cases.length:Int)))&&(decide (t2<0)))=(decide (t2<0)&&!S.cases.isEmpty):=by
      rw [hs,Bool.and_comm]
      congr 1
      rw [Bool.eq_iff_iff]
      simp only [yg,yB,List.isEmpty_eq_false_iff]
      rw [← List.length_pos_iff];omega
     rw [hcases]
     by_cases hr:(decide (t2<0)&&!S.cases.isEmpty)=true
     ·rw [if_pos hr,if_pos hr,hcc,hr]
      simp only [yd,yg] at hr
      have hrow:=hroot hr.1
      rw [if_pos hr.1] at hRl
      refine zoq (ix:=id) (tr:=λkids=>⟨2,p.st,0,0,kids⟩) (self:=λcs d=>zuP S.ztQ S.cases f false (t0.rows++cs) p.b d) (l:=S.cases) (λx _ d' hk=>(zcB hk).2) (λx _ d'=>zih) (by omega) hd6 hS.cl (λrec kids rows c i hi hcc hcd hkl hst=>?_) (λrec kids rows c=>?_) hn1
      ·have hcs:=hS.ca _ (ym hi)
       have hi':i<t0.s.cases.length:=by rw [hs];exact hi
       have ei:t0.s.cases[i]=S.cases[i]:=by simp only [hs]
       have hsr:t0.s.rows=t0.rows:=by rw [hs];exact hrow.symm
       obtain ⟨w,e,hw⟩:=zfA hS f n (d - c) ⟨t0.s,t0.rows++S.cases[i],t0.zt7,t0.cost+(c:Int)⟩ p.b (i:Int) (by omega) (by omega) hs (by simp only;omega) (by simp only;omega) hle (λr hr=>(yr.1 hr).elim (hR r) (hcs.2 r)) (by rw [if_neg (show ¬ (i:Int)<0 by omega),yQ];omega) (λh=>by omega) (λh=>by
        obtain ⟨r,hr,hr2⟩:=hE h
        exact ⟨r,List.mem_append_left _ hr,hr2⟩) (zpu hI)
       rw [show decide ((i:Int)<0)=false by simp] at hw
       refine ⟨w,?_,?_⟩
       ·simp only [za.l12,zw hi',if_true,zb hi',ya,ei,hsr]
        rw [zqJ (by omega) (by omega) hn1,ya,zp (by simp;omega),ya]
        simp only [hbl,hb.len,decide_true,grd,if_true,yU]
        rw [show (⟨⟨t0.s.box,t0.rows,t0.s.ztQ,t0.s.cases⟩,t0.rows++S.cases[i],t0.zt7,t0.cost+(c:Int)⟩:zuj)=⟨t0.s,t0.rows++S.cases[i],t0.zt7,t0.cost+(c:Int)⟩ by rw [← hsr],e,ya]
        rfl
       ·rcases hw with h | ⟨h1,h2,ix',rows',h3,h4⟩
        ·exact .inl h
        ·exact .inr ⟨h1,h2,ix',rows',h3,λh=>absurd h (by simp)⟩
      ·have e1:t0.s.cases.length=S.cases.length:=by rw [hs]
       rw [← e1]
       simp only [za.l12,zaw,ye,if_false,hbl,hb.len,decide_true,grd,if_true]
     ·rw [if_neg hr,if_neg hr,zsG (by omega) hn1,ya]
      have hstrict:(!(decide (t2<0)&&!S.cases.isEmpty))=true:=by
       cases hx:(decide (t2<0)&&!S.cases.isEmpty) with
       | false=>rfl
       | true=>exact absurd hx hr
      rw [hstrict]
      by_cases hc:zuw p.b<0
      ·have hL1:1≤L:=by
        rcases Nat.eq_zero_or_pos L with h | h
        ·exact absurd hk (hvoid h)
        ·exact h
       rw [if_pos (show decide (zuw p.b<0)=true by simpa using hc),if_pos hc,ztb (by omega) (by omega) (by rw [hbl,hb.len]) hn1]
       refine ⟨_,rfl,.inr ⟨by simp,λ_=>⟨by simp [hbl],λh=>?_⟩,gmax t2 0,t0.rows,?_,λ_=>rfl⟩⟩
       ·have:=congrArg List.length h
        rw [yL,hbl,un] at this
        omega
       ·rw [hcc]
      ·obtain ⟨c0,c1,c2⟩:=zpy hc
       have hmem:=zo4 hI.box _ (zoE c0 c1)
       have hmid:ztJ (midP (rgP p.b (zuw p.b))) 1=midP (rgP p.b (zuw p.b))+1:=by
        unfold midP ztJ;rw [zaK (by omega) (by omega)]
       rw [if_neg (show ¬ decide (zuw p.b<0)=true by simpa using hc),if_neg hc,zkm c0 c1,ya,zqO (box1 hI.box (zoE c0 c1)) hn1,ya,ya,ya,hcc]
       refine zoq (ix:=λ_=>0) (tr:=λkids=>⟨1,p.st,zuw p.b,midP (rgP p.b (zuw p.b)),kids⟩) (self:=λr d=>zuP S.ztQ S.cases f false t0.rows (zvQ p.b (zuw p.b) r) d) (l:=zvw (rgP p.b (zuw p.b))) (λx _ d' hk=>(zcB hk).2) (λx _ d'=>zih) (by omega) hd6 (by simp [zvw]) (λrec kids rows c i hi hcc hcd hkl hst=>?_) (λrec kids rows c=>?_) hn1
       ·have hx:=zqP (d:=0) hI hc (ym hi)
        have hrows:=hst rfl
        obtain ⟨w,e,hw⟩:=zfA hS f n (d - c) ⟨t0.s,t0.rows,t0.zt7,t0.cost+(c:Int)⟩ (zvQ p.b (zuw p.b) (zvw (rgP p.b (zuw p.b)))[i]) t2 (by omega) (by omega) hs (by simp only;omega) (by simp only;omega) hle hR hRl hroot hE hx
        rw [hstrict] at hw
        have hnr:zuP S.ztQ S.cases f (decide (t2<0)) t0.rows (zvQ p.b (zuw p.b) (zvw (rgP p.b (zuw p.b)))[i]) (d - c)=zuP S.ztQ S.cases f false t0.rows (zvQ p.b (zuw p.b) (zvw (rgP p.b (zuw p.b)))[i]) (d - c):=by
         by_cases h:t2<0
         ·refine zqA ?_
          simp only [h,decide_true,yE,yB,List.isEmpty_eq_false_iff] at hr
          exact Classical.not_not.1 hr
         ·rw [show decide (t2<0)=false by simpa using h]
        simp only at hw
        rw [hnr] at hw
        refine ⟨w,?_,hw⟩
        have hi2:i<2:=by simpa [zvw] using hi
        have hsto:∀ r,sto p.b (zuw p.b) r=some (zvQ p.b (zuw p.b) r):=znP c0 c1
        subst hrows
        rcases (show i=0∨i=1 by omega) with rfl | rfl
        ·simp only [za.l14,hmid]
         rw [if_pos (by simp),show idx [(⟨(rgP p.b (zuw p.b)).lo,midP (rgP p.b (zuw p.b))⟩:Range),⟨midP (rgP p.b (zuw p.b))+1,(rgP p.b (zuw p.b)).hi⟩] ((0:Nat):Int)=some ⟨(rgP p.b (zuw p.b)).lo,midP (rgP p.b (zuw p.b))⟩ from rfl,ya,zp (by simp;omega),ya,yU,zkm c0 c1,ya,hsto,ya]
         simp only [hbl,hb.len,decide_true,grd,if_true]
         simp only [zvw,List.getElem_cons_zero] at e
         rw [e,ya]
         rfl
        ·simp only [za.l14,hmid]
         rw [if_pos (by simp),show idx [(⟨(rgP p.b (zuw p.b)).lo,midP (rgP p.b (zuw p.b))⟩:Range),⟨midP (rgP p.b (zuw p.b))+1,(rgP p.b (zuw p.b)).hi⟩] ((1:Nat):Int)=some ⟨midP (rgP p.b (zuw p.b))+1,(rgP p.b (zuw p.b)).hi⟩ from rfl,ya,zp (by simp;omega),ya,yU,zkm c0 c1,ya,hsto,ya]
         simp only [hbl,hb.len,decide_true,grd,if_true]
         simp only [zvw,List.getElem_cons_succ,List.getElem_cons_zero] at e
         rw [e,ya]
         rfl
       ·simp only [za.l14]
        rw [if_neg (by simp [zvw])]
        simp only [hbl,hb.len,decide_true,grd,if_true]
def rowH (x:List Int) (r:Row):Bool:=decide (sumP x r.ztP≤r.bound)
def edgeG (x:List Int) (g:zuc) (a b:Nat):Bool:=decide (g.least.getD (a*g.size.toNat+b) 0≤x.getD (g.first+((a*g.size.toNat+b:Nat):Int)).toNat 0)
def zhM (x:List Int) (g:zuc):Bool:=zwG (edgeG x g) g.size.toNat
theorem zo1 {E F K} (h:∀ a b,a<K→b<K→E a b=F a b):zwG E K=zwG F K:=by
 rw [Bool.eq_iff_iff];exact ⟨zjq λa b ha hb hF=>by rw [h a b ha hb];exact hF,zjq λa b ha hb hE=>by rw [← h a b ha hb];exact hE⟩
theorem zo7 {n a r} (ha:zuV a) (hd:zfT a.effect.delta) (ht:∀ t∈r.ztP,-1000≤t.ztV∧t.ztV≤1000) (hl:r.ztP.length≤1000) (hn:1000000≤n):chgN n a r=chgP a.effect.delta r.ztP:=by
 have:=ha.delta
 grind [chgN,zcr,zld]
def zfg (q:Question) (a b:Action):List Row:=a.effect.hold++(if (q.e != q.f)=true then b.effect.hold else [])
noncomputable def zda (n:Nat) (m:Model) (q:Question) (a b:Action):List zuc:=(List.range m.constraints.length).flatMap λi=>gS n (q.e != q.f) a b (m.constraints.getD i default)
def zlL (r:Row) (x:Int):Row:=⟨r.ztP.map λt=>⟨t.cell,zuH t.ztV⟩,zt2 (ztJ (zuH r.bound) x) 1⟩
inductive Tgt (n:Nat) (m:Model) (q:Question) (a b:Action) (box:List Range):List Row→List (List Row)→Prop
 | hold (r:Row):q.target.hold=true→idx a.effect.hold q.target.index=some r→Tgt n m q a b box [zlL r (chgN n b r)] []
 | row (c:Constraint):q.target.hold=false→idx m.constraints q.target.index=some c→c.kind=0→Tgt n m q a b box [zlL c.row (ztJ (chgN n a c.row) (chgN n b c.row))] []
 | none (c:Constraint) (s:Nat):q.target.hold=false→idx m.constraints q.target.index=some c→c.kind=1→c.size=(s:Int)→ziy (zB a.effect.delta) (zB b.effect.delta) box c s=[]→Tgt n m q a b box [⟨[],-1⟩] []
 | graph (c:Constraint) (s:Nat):q.target.hold=false→idx m.constraints q.target.index=some c→c.kind=1→c.size=(s:Int)→ziy (zB a.effect.delta) (zB b.effect.delta) box c s≠[]→Tgt n m q a b box [] (ziy (zB a.effect.delta) (zB b.effect.delta) box c s)
theorem zsl {n m q a b box} (ha:zuV a) (hb:zuV b) (hc:∀ c∈m.constraints,zvp box.length c) (sa:zuY a) (sb:zuY b) (hl:m.constraints.length≤1000) (hbx:box.length≤1000)
  (hh:q.target.hold=true→0≤q.target.index∧q.target.index<(a.effect.hold.length:Int)) (hh2:q.target.hold=false→0≤q.target.index∧q.target.index<(m.constraints.length:Int)) (hn:1000000≤n) :
  ∃ (Y:List Row) (cs:List (List Row)),Tgt n m q a b box Y cs∧((zfg q a b++Y).length≤30∧∀ r∈zfg q a b++Y,r.ztP.length≤1000)∧((zda n m q a b).length≤3000∧∀ g∈zda n m q a b,g.least.length≤36)∧zgw cs ∧
   ∀ R ,R.length≤1000→zwK n m q a b box R=endS n ⟨box,R++(zfg q a b++Y),zda n m q a b,cs⟩ (zak n ⟨box,R++(zfg q a b++Y),zda n m q a b,cs⟩):=by
 obtain ⟨H,hH⟩:∃ H:List Row,H=zfg q a b:=⟨_,rfl⟩
 have hHl:H.length≤20∧∀ r∈H,r.ztP.length≤1000:=by
  have h1:=ha.hold;have h2:=hb.hold;rw [hH];unfold zfg;constructor
  ·grind
  ·intro r hr;rcases yr.1 hr with hr | hr
   ·exact ha.ztP r hr
   ·split at hr
    ·exact hb.ztP r hr
    ·simp at hr
 have hstep:∀ R:List Row,R.length≤1000→zwK n m q a b box R=zdy n m q a b box (R++H):=λR hR=>by
  have h1:=ha.hold;have h2:=hb.hold;have hloop:ztO (zf.l3 n m q a b box H) n (R,0)=zdy n m q a b box (R++H):=by
   have:=zeh (body:=zf.l3 n m q a b box H) (l:=H) (n:=n) (st:=λb i=>(b,(i:Int))) (λr:Row=>r) (zdy n m q a b box) R (λrec b6 i hi hb6=>?_) (λrec b6 hb6=>?_) (by omega)
   ·simpa using this
   ·simp only [zf.l3,zw hi,if_true,zb hi,ya,zrL (hHl.2 _ (ym hi)) hn];rw [zp (by first | omega | (simp;omega)),ya,zd (by omega)]
   ·simp only [zf.l3,zaw,ye,if_false];rfl
  unfold zwK;simp only [jn];rw [zp (by first | omega | (simp;omega)),ya,yU];by_cases he:(q.e != q.f)=true
  ·rw [if_pos he,zp (by first | omega | (simp;omega)),ya,← hloop,hH,zfg,if_pos he]
  ·rw [if_neg he,← hloop,hH,zfg,if_neg he,y8]
 obtain ⟨G,hG⟩:∃ G,G=zda n m q a b:=⟨_,rfl⟩
 have hGl:G.length≤3000∧∀ g∈G,g.least.length≤36:=by
  have key:∀ k,k≤m.constraints.length→((List.range k).flatMap λi=>gS n (q.e != q.f) a b (m.constraints.getD i default)).length≤3*k∧∀ g∈((List.range k).flatMap λi=>gS n (q.e != q.f) a b (m.constraints.getD i default)),g.least.length≤36:=by
   intro k
   induction k with
   | zero=>intro _;simp
   | succ k ih=>
    intro hk;obtain ⟨i1,i2⟩:=ih (by omega);have e:m.constraints.getD k default=m.constraints[k]'(by omega):=by simp [List.getD,show k<m.constraints.length by omega]
    obtain ⟨g1,g2⟩:=zpN (n:=n) (ef:=(q.e != q.f)) ha hb (hc _ (ym (show k<m.constraints.length by omega))) hn;rw [zjS,e];constructor
    ·rw [yQ];omega
    ·intro g hg;rcases yr.1 hg with hg | hg
     ·exact i2 g hg
     ·exact g2 g hg
  rw [hG];obtain ⟨k1,k2⟩:=key _ (yk _);unfold zda;exact ⟨by omega,k2⟩
 have h0:∀ (c:Constraint) (R:List Row),(c.kind==1)=false→finS n box a b R c G=endS n ⟨box,R,G,[]⟩ (zak n ⟨box,R,G,[]⟩):=λc R hk=>by
  unfold finS;simp only [jn,hk,ye,if_false];rfl
 have c0:zgw []:=⟨by simp,by simp⟩
 rw [← hG,← hH];cases hhold:q.target.hold with
 | true=>
  obtain ⟨i1,i2⟩:=hh hhold;obtain ⟨r,hr⟩:=za7 i1 i2;have hrl:=ha.ztP r (zbb hr);have hx:=zeF hb hrl hn;have hnr:=zeG (n:=n) (r:=r) (f:=λq0=>zaN n q0) (g:=λq0=>zam n q0 (chgN n b r)) (fP:=zuH) (B:=zt2 (ztJ (zuH r.bound) (chgN n b r)) 1) (λ_=>rfl) rfl hrl hn;refine ⟨_,_,.hold r hhold hr,⟨by first | omega | (simp;omega),λs hs=>?_⟩,hGl,c0,λR hR=>?_⟩
  ·rcases yr.1 hs with hs | hs
   ·exact hHl.2 s hs
   ·simp at hs;subst hs;simpa [zlL] using hrl
  ·rw [hstep R hR];unfold zdy;simp only [jn,hhold,if_true,hr,ya,hx,hnr];rw [zp (by first | omega | (simp;omega)),ya];have:=zkW (q:=q) (a:=a) (b:=b) (box:=box) (R:=R++H++[zlL r (chgN n b r)]) (c:=⟨0,0,⟨[],0⟩,0,0⟩) ha hb hc hl hn;rw [← zda,← hG] at this;rw [yM] at this ⊢;exact this.trans (h0 _ _ rfl)
 | false=>
  obtain ⟨i1,i2⟩:=hh2 hhold;obtain ⟨c,hcx⟩:=za7 i1 i2;have hco:=hc c (zbb hcx);have hgl:=λR:List Row=>(zkW (q:=q) (a:=a) (b:=b) (box:=box) (R:=R) (c:=c) ha hb hc hl hn)
  rw [← zda,← hG] at hgl;rcases hco.kind with hk | hk
  ·have hx:=zeF ha hco.len hn;have hy:=zeF hb hco.len hn;have hnr:=zeG (n:=n) (r:=c.row) (f:=λq0=>zaN n q0) (g:=λq0=>zam n q0 (ztJ (chgN n a c.row) (chgN n b c.row))) (fP:=zuH) (B:=zt2 (ztJ (zuH c.row.bound) (ztJ (chgN n a c.row) (chgN n b c.row))) 1) (λ_=>rfl) rfl hco.len hn;refine ⟨_,_,.row c hhold hcx hk,⟨by first | omega | (simp;omega),λs hs=>?_⟩,hGl,c0,λR hR=>?_⟩
   ·rcases yr.1 hs with hs | hs
    ·exact hHl.2 s hs
    ·simp at hs;subst hs;simpa [zlL] using hco.len
   ·rw [hstep R hR];unfold zdy;have hk':(c.kind==0)=true:=by simp [hk]
    simp only [jn,hhold,ye,if_false,hcx,ya,hk',if_true,hx,hy,hnr];rw [zp (by first | omega | (simp;omega)),ya,yM];exact (hgl _).trans (h0 _ _ (by simp [hk]))
  ·obtain ⟨s,s1,s2,s3,s4,s5⟩:=hco.sz hk;obtain ⟨cs,hcs,hcsO⟩:=zn4 (n:=n) (box:=box) (e:=a) (f:=b) s1 s2 s3 s4 s5 hbx ha.delta hb.delta hn;have hcq:cs=ziy (zB a.effect.delta) (zB b.effect.delta) box c s:=by
    have:=(zmD (n:=n) (c:=c) sa sb s3 hn (box:=box) s1 s2 s4 s5 hbx).1;rw [hcs] at this;exact Option.some.inj this
   have hk0:(c.kind==0)=false:=by simp [hk]
   have hk1:(c.kind==1)=true:=by simp [hk]
   by_cases he:cs=[]
   ·have he':((cs.length:Int)==0)=true:=by simp [he]
    refine ⟨_,_,.none c s hhold hcx hk s1 (hcq▸he),⟨by first | omega | (simp;omega),λs hs=>?_⟩,hGl,c0,λR hR=>?_⟩
    ·rcases yr.1 hs with hs | hs
     ·exact hHl.2 s hs
     ·simp at hs;subst hs;simp
    ·rw [hstep R hR];unfold zdy;simp only [jn,hhold,ye,if_false,hcx,ya,hk0];refine (hgl _).trans ?_;unfold finS;simp only [jn,hk1,if_true,hcs,ya,he'];rw [zp (by first | omega | (simp;omega)),ya,yM,he];rfl
   ·have he':¬ ((cs.length:Int)==0)=true:=by simp [he]
    refine ⟨_,_,.graph c s hhold hcx hk s1 (hcq▸he),⟨by simpa using (by omega:H.length≤30),by simpa using hHl.2⟩,hGl,hcq▸hcsO,λR hR=>?_⟩;rw [hstep R hR];unfold zdy;simp only [jn,hhold,ye,if_false,hcx,ya,hk0];refine (hgl _).trans ?_;unfold finS;simp only [jn,hk1,if_true,hcs,ya];rw [if_neg he',← hcq,y8];rfl
theorem gr_eq {n K:Nat} {c} {s:Nat} {f} {fP:Int→Int} (hs:c.size=(s:Int)) (h6:s≤6) (hf:∀ x,f x=some (fP x)) (hn:1000000≤n):gr n c f=⟨c.first,c.size,(List.range (s*s)).map λi:Nat=>zt2 1 (fP (ztJ c.first (i:Int)))⟩:=by
 have e :=uf h6 h6;have b:ztZ c.size c.size=((s*s:Nat)):=by
  grind [zht]
 have:zH n c f=some ⟨c.first,c.size,(List.range (s*s)).map λi:Nat=>zt2 1 (fP (ztJ c.first i))⟩:=by
  unfold zH;have:=zM (body:=zH.l1 n c f) (len:=s*s) (st:=λi=>(((List.range i).map λi:Nat=>zt2 1 (fP (ztJ c.first i))),i)) (g:=λ_=>some (⟨c.first,c.size,(List.range (s*s)).map λi:Nat=>zt2 1 (fP (ztJ c.first i))⟩)) (λa i h d=>?_) (λa=>?_) n 0 (yp _) (by omega)
  ·grind
  ·simp only [zH.l1]
   grind [zp,zd,List.range_succ]
  ·simp only [zH.l1,b,zhL (yk _),ye,if_false]
 grind [gr]
theorem znl {n K} {c} {x y} {f} {fP:Int→Int} (hc:zvp K c) (hk:c.kind=1) (hx:x.length=K) (hK:K≤1000) (hf:∀ z,f z=some (fP z)) (hsm:∀ z,-4000000000≤fP z∧fP z≤4000000000)
  (hy:∀ i ,0≤i→i<(K:Int)→y.getD i.toNat 0=x.getD i.toNat 0+fP i) (hn:1000000≤n):zhM x (gr n c f)=zav c y:=by
 obtain ⟨s,e,p,h,o,m⟩:=hc.sz hk;rw [gr_eq (K:=K) e h hf hn];unfold zhM zav;rw [if_pos hk];simp only [e,yz];refine zo1 λa b j k=>?_
 have l:=zjR j k;have d:c.first+a*s+b=c.first+((a*s+b:Nat)):=by grind
 have g:=hsm (c.first+((a*s+b:Nat)));unfold edgeG zwg;rw [Bool.eq_iff_iff];simp only [yg,e,yz,d];rw [hy _ (by omega) (by omega),yY,y9,List.getElem?_range l];simp only [yT,yi];rw [zcp (by omega) (by omega),zk2 (by omega) (by omega)];omega
theorem zm3 {K x} (hp:zuW K x) {j} (hj:j<x.length):vtx x j<K∧x.getD j 0=((vtx x j:Nat):Int):=by
 have a:=hp.mem x[j] (ym hj)
 grind [vtx]
section
variable {c:Constraint} {K:Nat} {box:List Range} {s:List Int} {da db:List Change}
theorem zpB (hs:c.size=(K:Int)) (h6:K≤6) (h0:0≤c.first) (h1:c.first≤1000000) {x} (hp:zuW K x) {i} (hi:i<x.length) :
  zcF c x i=c.first+((vtx x i*K+vtx x ((i+1) % x.length):Nat):Int):=by
 obtain ⟨d,f⟩:=zm3 hp hi;obtain ⟨b,g⟩:=zm3 hp (Nat.mod_lt (i+1) (show 0<x.length by omega));have e:=zjR d b;have a :=uf h6 h6
 grind [zcF,zht,zcp]
theorem zn7 (hs:c.size=(K:Int)) (h0:0≤c.first) (hf:c.first+((K*K:Nat):Int)≤(s.length:Int)) {a b} (ha:a<K) (hb:b<K):zwg (zun s da) c a b=decide (1≤s.getD (c.first+((a*K+b:Nat):Int)).toNat 0+zB da (c.first+((a*K+b:Nat):Int))):=by
 have d:=zjR ha hb
 grind [zwg,zhu]
theorem zjC (hs:c.size=(K:Int)) (h0:0≤c.first) (hf:c.first+((K*K:Nat):Int)≤(s.length:Int)) {a b} (ha:a<K) (hb:b<K):zwg (zun (zun s da) db) c a b=decide (1≤s.getD (c.first+((a*K+b:Nat):Int)).toNat 0+zB da (c.first+((a*K+b:Nat):Int))+zB db (c.first+((a*K+b:Nat):Int))):=by
 have hp:=zjR ha hb;rw [zn7 hs h0 (by rw [zkZ];exact hf) ha hb,zhu (by omega) (by omega)]
theorem zpF (hs:c.size=(K:Int)) (h6:K≤6) (h0:0≤c.first) (hf:c.first+((K*K:Nat):Int)≤(s.length:Int)) (hl:s.length≤1000) (hA:zfT da) (hB:zfT db) {x} (hp:zuW K x) {i} (hi:i<x.length) :
  rowH s (zjB (zB da) (zB db) c x i)=zwg (zun (zun s da) db) c (vtx x i) (vtx x ((i+1) % x.length)):=by
 have b:=(zm3 hp hi).1;have a:=(zm3 hp (Nat.mod_lt (i+1) (show 0<x.length by omega))).1;rw [zjC hs h0 hf b a];unfold rowH zjB;rw [zpB hs h6 h0 (by omega) hp hi];have e:=zcK hA (c.first+((vtx x i*K+vtx x ((i+1) % x.length))));have d:=zcK hB (c.first+((vtx x i*K+vtx x ((i+1) % x.length))))
 grind [sumP,zcp,zk2]
theorem zn3 (hk:c.kind=1) (hs:c.size=(K:Int)) (h6:K≤6) (h0:0≤c.first) (hf:c.first+((K*K:Nat):Int)≤(box.length:Int)) (hg:zw1 box=true) (hx:zwn box s=true) (hl:box.length≤1000) (hA:zfT da) (hB:zfT db)
  (ha:zav c (zun s da)=true) (hb:zav c (zun s db)=true):(ziy (zB da) (zB db) box c K).any (λrows=>rows.all (rowH s)) = !zav c (zun (zun s da) db):=by
 have hxl:=zlr hx;have hK:c.size.toNat=K:=by omega
 have h36:K*K≤36:=uf h6 h6;have hfs:c.first+((K*K:Nat):Int)≤(s.length:Int):=by omega
 have hbig:∀ a b,a<K→b<K→zwg (zun (zun s da) db) c a b=true→hasP ⟨(K:Int),(List.range (K*K)).map λi:Nat=>decide (1≤ztJ ((idx box (ztJ c.first (i:Int))).getD default).hi (ztJ (zB da (ztJ c.first (i:Int))) (zB db (ztJ c.first (i:Int)))))⟩ a b=true:=by
  intro a b h1 h2 he;have hp:=zjR h1 h2;rw [zjC hs h0 hfs h1 h2] at he;have e1:ztJ c.first ((a*K+b:Nat):Int)=c.first+((a*K+b:Nat):Int):=zcp (by omega) (by omega)
  obtain ⟨z,hz⟩:=yW (show 0≤c.first+((a*K+b:Nat):Int) by omega);have hzl:z<box.length:=by omega
  have hin:=zlq hx z hzl (by omega);have hgz:=yq.1 hg _ (ym hzl);simp only [yd,yg] at hgz;have a1:=zcK hA (z:Int);have b1:=zcK hB (z:Int);unfold hasP;simp only [yz];rw [yY,y9,List.getElem?_range hp];simp only [yT,yi,e1];rw [hz,yz] at he;rw [hz,zb hzl,yi,zcp (x:=zB da (z:Int)) (by omega) (by omega),zcp (by omega) (by omega)]
  grind
 have hrows:∀ x,zuW K x→(((List.range x.length).map (zjB (zB da) (zB db) c x)).all (rowH s)=true↔zwP (zwg (zun (zun s da) db) c) x):=λx hp=>by
  rw [List.all_map,yq];unfold zwP;constructor
  ·intro h i hi;have:=h i (y7.2 hi)
   rwa [Function.comp_apply,zpF hs h6 h0 hfs (by omega) hA hB hp hi] at this
  ·intro h i hi;rw [Function.comp_apply,zpF hs h6 h0 hfs (by omega) hA hB hp (y7.1 hi)];exact h i (y7.1 hi)
 have hup:∀ (d e:List Change) x,x∈cycP (zwg (zun (zun s da) db) c) K→zav c (zun s e)=true→(∀ z,zB da z+zB db z=zB d z+zB e z)→(List.range x.length).any (λi=>decide (0<zB d (zcF c x i)))=true:=by
  intro d e x hxc hh hsum;have hp:=zlh hxc;refine Classical.byContradiction λhno=>?_
  simp only [yO,List.any_eq_false,y7,yg] at hno;have hin:zwP (zwg (zun s e) c) x:=λi hi=>by
   have v1:=(zm3 hp hi).1;have w1:=(zm3 hp (Nat.mod_lt (i+1) (show 0<x.length by omega))).1;have h1:=zq1 hxc i hi;have h2:=hno i hi;rw [zpB hs h6 h0 (by omega) hp hi] at h2;rw [zjC hs h0 hfs v1 w1] at h1;rw [zn7 hs h0 hfs v1 w1];have h3:=hsum (c.first+((vtx x i*K+vtx x ((i+1) % x.length):Nat):Int));simp only [yg] at h1 ⊢;omega
  unfold zav at hh;rw [if_pos hk,hK] at hh;exact zn0.1 hh x (zli hxc hin)
 have hab:zav c (zun (zun s da) db)=zwG (zwg (zun (zun s da) db) c) K:=by unfold zav;rw [if_pos hk,hK]
 rw [hab,Bool.eq_iff_iff,yB,← yO,zn0,uD];constructor
 ·rintro ⟨rows,hr,hall⟩ hno;obtain ⟨x,hx1,hx2⟩:=ue.1 hr;have hp:=zlh hx1;unfold zdT at hx2;split at hx2
  ·simp only [yG] at hx2;subst hx2;exact hno x (zli hx1 ((hrows x hp).1 hall))
  ·simp at hx2
 ·intro hex;obtain ⟨x,hxc⟩:∃ x,x∈cycP (zwg (zun (zun s da) db) c) K:=Classical.byContradiction λh=>hex λx hx=>h ⟨x,hx⟩
  have hp:=zlh hxc;have hin:=zq1 hxc;refine ⟨_,ue.2 ⟨x,zli hxc (hin.mono hp hbig),?_⟩,(hrows x hp).2 hin⟩;unfold zdT;rw [if_pos]
  ·exact yG.2 rfl
  ·rw [hup da db x hxc hb (λ_=>rfl),hup db da x hxc ha (λz=>Int.add_comm _ _)];rfl
theorem zol {x} (h1 : -1000000000000000000≤x) (h2:x≤1000000000000000000):zuH x = -x:=by
 grind [zuH,zaK]
theorem zrP {K}:∀ {l},(∀ t∈l,zhi K t)→sumP s (l.map λt=>⟨t.cell,zuH t.ztV⟩) = -sumP s l
 | [],_=>rfl
 | t::l,h=>by
  obtain ⟨-,-,b,c⟩:=h t (by simp);simp only [yV,sumP];rw [zrP (λu a=>h u (by simp [a])),zol (by omega) (by omega),Int.neg_mul];omega
theorem zp1 {K r x} (ht:∀ t∈r.ztP,zhi K t) (hb : -1000000000≤r.bound∧r.bound≤1000000000) (hx : -1000000000000000000≤x∧x≤1000000000000000000):rowH s (zlL r x) = !decide (sumP s r.ztP+x≤r.bound):=by
 unfold rowH zlL;rw [zrP ht,zol (by omega) (by omega),zcp (by omega) (by omega),zk2 (by omega) (by omega),Bool.eq_iff_iff]
 grind
end
theorem zln {x y B}:gmax x y≤B↔x≤B∧y≤B:=
 ⟨λh=>by have:=zni x y;omega,λh=>znj h.1 h.2⟩
def relB (q:Question) (i:Int):Bool:=q.target.hold||(q.target.index != i)
def zk9 (m:Model) (q:Question) (a b:Action) (s:List Int):Bool:=
 if q.target.hold=true then !zav ⟨0,0,(idx a.effect.hold q.target.index).getD default,0,0⟩ (zun s b.effect.delta)
 else !zav ((idx m.constraints q.target.index).getD default) (zun (zun s a.effect.delta) b.effect.delta)
def zoM (m:Model) (q:Question) (rows:List Int) (a b:Action) (s:List Int):Bool:=
 (zxS m a.effect s&&zxS m b.effect s)&&(rows.all (λi=>!(relB q i&&!zav ((idx m.constraints i).getD default) (zun (zun s a.effect.delta) b.effect.delta)))&&zk9 m q a b s)
structure zuT (n:Nat) (m:Model) (q:Question) (a b:Action) (s:List Int):Prop where
 small:zuz m
 valid:zvt m
 quest:zgp m q=true
 ha:idx m.ztL q.e=some a
 hb:idx m.ztL q.f=some b
 box:zwn (boxM m) s=true
 len:(boxM m).length≤100
 fuel:4294967296≤n
section
variable {n:Nat} {m:Model} {q:Question} {rows:List Int} {a b:Action} {s:List Int}
theorem zuT.state (h:zuT n m q a b s):zxX m s:=zsi h.valid.lay h.box
theorem zuT.conIn (h:zuT n m q a b s) {c} (hc:c∈m.constraints):ConIn c s.length:=by
 rw [h.state.len];exact zsw h.small h.valid hc
theorem zuT.zxg (h:zuT n m q a b s) {c} (hc:c∈m.constraints):zvp (boxM m).length c:=zsx h.small h.valid hc
theorem zuT.dA (h:zuT n m q a b s):zfT a.effect.delta∧∀ r∈a.effect.hold,zuI (boxM m).length r=true:=znZ h.valid (zbb h.ha)
theorem zuT.dB (h:zuT n m q a b s):zfT b.effect.delta∧∀ r∈b.effect.hold,zuI (boxM m).length r=true:=znZ h.valid (zbb h.hb)
theorem zuT.oA (h:zuT n m q a b s):zuV a:=zmz h.small (zbb h.ha)
theorem zuT.oB (h:zuT n m q a b s):zuV b:=zmz h.small (zbb h.hb)
theorem zuT.sA (h:zuT n m q a b s):zuY a:=zk1 h.fuel h.small h.valid (zbb h.ha)
theorem zuT.sB (h:zuT n m q a b s):zuY b:=zk1 h.fuel h.small h.valid (zbb h.hb)
theorem zuT.same (h:zuT n m q a b s) (he:(q.e != q.f)=false):a=b:=by
 have e:q.e=q.f:=by grind
 have c:=h.ha;rw [e,h.hb] at c
 grind
theorem zuT.row (h:zuT n m q a b s) {c} (hc:c∈m.constraints) (hk:c.kind=0) :
  (∀ t∈c.row.ztP,zhi s.length t)∧c.row.ztP.length≤1000∧(-1000000000≤c.row.bound∧c.row.bound≤1000000000)∧chgN n a c.row=chgP a.effect.delta c.row.ztP∧chgN n b c.row=chgP b.effect.delta c.row.ztP ∧
   (-1000000000000000≤chgN n a c.row∧chgN n a c.row≤1000000000000000)∧(-1000000000000000≤chgN n b c.row∧chgN n b c.row≤1000000000000000):=by
 have f:1000000≤n:=by have:=h.fuel;omega
 have g:=zqY h.valid hc hk;have i : -1000000000≤c.row.bound∧c.row.bound≤1000000000:=by
  simp only [zuI,zaQ,yd,yg] at g;omega
 have d:=(h.zxg hc).len;have ht :=by
  cases h.conIn hc with
  | row _ ht _ _=>exact ht
  | graph _ hk1=>omega
 have e :=λt h=>(ht t h).2.2
 exact ⟨ht,d,i,zo7 h.oA h.dA.1 e d f,zo7 h.oB h.dB.1 e d f,zo6 h.oA h.dA.1 e d f,zo6 h.oB h.dB.1 e d f⟩
theorem zeP {c} (hk:c.kind=0) (x):zav c x=decide (sumP x c.row.ztP≤c.row.bound):=by
 unfold zav;grind
theorem zrH (h:zuT n m q a b s):(zvD n m q rows a b).all (rowH s)=true↔∀ i (hi:i<m.constraints.length),m.constraints[i].kind=0 →
  ((zav m.constraints[i] s=true∧zav m.constraints[i] (zun s a.effect.delta)=true)∧zav m.constraints[i] (zun s b.effect.delta)=true)∧((i:Int)∈rows→relB q (i:Int)=true→zav m.constraints[i] (zun (zun s a.effect.delta) b.effect.delta)=true):=by
 unfold zvD;rw [List.all_flatMap,yq];have key:∀ i (hi:i<m.constraints.length),((rowS n q rows a b i (m.constraints.getD i default)).all (rowH s)=true↔(m.constraints[i].kind=0 →
   ((zav m.constraints[i] s=true∧zav m.constraints[i] (zun s a.effect.delta)=true)∧zav m.constraints[i] (zun s b.effect.delta)=true)∧((i:Int)∈rows→relB q (i:Int)=true→zav m.constraints[i] (zun (zun s a.effect.delta) b.effect.delta)=true))):=λi hi=>by
  have e:m.constraints.getD i default=m.constraints[i]:=by grind [List.getD]
  rw [e];unfold rowS;by_cases hk:m.constraints[i].kind=0
  ·obtain ⟨ht,hlen,hbd,ea,eb,ba,bb⟩:=h.row (ym hi) hk;rw [if_neg (by simp [hk]),zeP hk,zeP hk,zeP hk,zeP hk];have e1:=zgi (s:=s) (d:=a.effect.delta) ht;have e2:=zgi (s:=s) (d:=b.effect.delta) ht;have e3:=zgi (s:=zun s a.effect.delta) (d:=b.effect.delta) (l:=m.constraints[i].row.ztP) (by grind [zkZ]);rw [e3,e1,e2];rw [← ea,← eb];have hs:ztJ (chgN n a m.constraints[i].row) (chgN n b m.constraints[i].row)=chgN n a m.constraints[i].row+chgN n b m.constraints[i].row:=zcp (by omega) (by omega);obtain ⟨k1,-,k3⟩:=zr7 (q:=q) (rows:=rows) (less:=rows) (i:=i) ba bb id;simp only [uj,List.all_nil,ul,rowH];rw [zk2 (by omega) (by omega)];simp only [yg,hk,true_imp_iff];have hle:sumP s m.constraints[i].row.ztP≤m.constraints[i].row.bound - kS n q rows a b i m.constraints[i]↔kS n q rows a b i m.constraints[i]≤m.constraints[i].row.bound - sumP s m.constraints[i].row.ztP:=by omega
   rw [hle];unfold kS;rw [hs];by_cases hr:(i:Int)∈rows∧relB q (i:Int)=true
   ·obtain ⟨r1,r2⟩:=hr;have r2':=r2;unfold relB at r2';simp only [r1,r2',decide_true,uL,if_true,zln,true_imp_iff,r2];omega
   ·have:(decide ((i:Int)∈rows)&&(q.target.hold||(q.target.index != (i:Int))))=false:=by
     rw [Bool.eq_false_iff];intro hh;rw [yd,yg] at hh;exact hr hh
    rw [this];simp only [ye,if_false,zln];constructor
    ·intro h;exact ⟨by omega,λh1 h2=>absurd ⟨h1,h2⟩ hr⟩
    ·intro h;omega
  ·rw [if_pos (by simpa using hk)];simp [hk]
 simp_all
theorem zuT.lenP (h:zuT n m q a b s):s.length=(boxM m).length:=h.state.len
theorem zlO (h:zuT n m q a b s) {x} (hx:x∈m.ztL) {c} (hc:c∈m.constraints) (hk:c.kind=1) (hno:¬ 0<(((zz n x c).getD []).length:Int)) (hs:zav c s=true):zav c (zun s x.effect.delta)=true:=by
 have w:=h.fuel;have y:=h.len;obtain ⟨k,f,z⟩:=(h.zxg hc).mul hk;have g:=(zmz h.small hx).delta;rw [zdk f (by omega) (by omega) (by omega) (by omega),yi] at hno;obtain ⟨d,l,e,r,o,t⟩:=(h.zxg hc).sz hk;have u:k=d*d:=by
  grind [zht]
 refine zpd hk ⟨l,e,r,o,by rw [h.lenP];exact t,by rw [h.lenP];omega⟩ (λj v=>?_) hs;have:=zmR (p:=zeA x.effect.delta c) (k:=k) (i:=0) (by omega) j (by omega) (by omega)
 grind [zeA,zcp]
theorem zpe (h:zuT n m q a b s):(zda n m q a b).all (zhM s)=true↔∀ i (hi:i<m.constraints.length),m.constraints[i].kind=1 →
  (zav m.constraints[i] s=true∧zav m.constraints[i] (zun s a.effect.delta)=true)∧zav m.constraints[i] (zun s b.effect.delta)=true:=by
 have hn:1000000≤n:=by have:=h.fuel;omega
 have hL:=h.len;unfold zda;rw [List.all_flatMap,yq];have key:∀ i (hi:i<m.constraints.length),((gS n (q.e != q.f) a b (m.constraints.getD i default)).all (zhM s)=true↔(m.constraints[i].kind=1 →
   (zav m.constraints[i] s=true∧zav m.constraints[i] (zun s a.effect.delta)=true)∧zav m.constraints[i] (zun s b.effect.delta)=true)):=λi hi=>by
  have e:m.constraints.getD i default=m.constraints[i]:=by grind
  rw [e];have hc:=ym hi;unfold gS;by_cases hk:m.constraints[i].kind=1
  ·rw [if_neg (by simp [hk]),show (zz n b m.constraints[i]).getD default=(zz n b m.constraints[i]).getD [] from rfl];have hco:=h.zxg hc;have g2:zhM s (gr n m.constraints[i] λq0=>zaT n q0)=zav m.constraints[i] s:=
    znl (fP:=λ_=>0) hco hk h.lenP (by omega) (λ_=>rfl) (λ_=>by omega) (λi _ _=>by omega) hn
   have g3:zhM s (gr n m.constraints[i] λq0=>zP n q0 a)=zav m.constraints[i] (zun s a.effect.delta):=
    znl (fP:=zB a.effect.delta) hco hk h.lenP (by omega) (λz=>by unfold zP;rw [h.sA.added hn];rfl) (λz=>by have:=zcK h.dA.1 z;omega) (λi h0 h1=>zhu h0 (by rw [h.lenP];exact h1)) hn
   have g4:zhM s (gr n m.constraints[i] λq0=>zac n q0 b)=zav m.constraints[i] (zun s b.effect.delta):=
    znl (fP:=zB b.effect.delta) hco hk h.lenP (by omega) (λz=>by unfold zac;rw [h.sB.added hn];rfl) (λz=>by have:=zcK h.dB.1 z;omega) (λi h0 h1=>zhu h0 (by rw [h.lenP];exact h1)) hn
   have k3:=λhno=>zlO h (zbb h.ha) hc hk hno
   have k4:=λhno=>zlO h (zbb h.hb) hc hk hno
   rw [List.all_append,List.all_append];simp only [uj,List.all_nil,ul,g2,hk,true_imp_iff];by_cases h3:0<(((zz n a m.constraints[i]).getD []).length:Int)
   ·rw [if_pos (by simpa using h3)];simp only [uj,List.all_nil,ul,g3];cases hef:(q.e != q.f) with
    | false=>
     have hab:=h.same hef;subst hab;simp only [uh,ye,if_false,List.all_nil,ul,yd];exact ⟨λh=>⟨h,h.2⟩,λh=>h.1⟩
    | true=>
     by_cases h4:0<(((zz n b m.constraints[i]).getD []).length:Int)
     ·rw [if_pos (by simpa using h4)];simp only [uj,List.all_nil,ul,g4,yd,and_assoc]
     ·rw [if_neg (by simpa using h4)];simp only [List.all_nil,ul,yd];exact ⟨λh=>⟨h,k4 h4 h.1⟩,λh=>h.1⟩
   ·rw [if_neg (by simpa using h3)];simp only [List.all_nil,yE];cases hef:(q.e != q.f) with
    | false=>
     have hab:=h.same hef;subst hab;simp only [uh,ye,if_false,List.all_nil,ul];exact ⟨λh=>⟨⟨h,k3 h3 h⟩,k3 h3 h⟩,λh=>h.1.1⟩
    | true=>
     by_cases h4:0<(((zz n b m.constraints[i]).getD []).length:Int)
     ·rw [if_pos (by simpa using h4)];simp only [uj,List.all_nil,ul,g4,yd];exact ⟨λh=>⟨⟨h.1,k3 h3 h.1⟩,h.2⟩,λh=>⟨h.1.1,h.2⟩⟩
     ·rw [if_neg (by simpa using h4)];simp only [List.all_nil,ul];exact ⟨λh=>⟨⟨h,k3 h3 h⟩,k4 h4 h⟩,λh=>h.1.1⟩
  grind
 simp_all
theorem zqw (h:zuT n m q a b s):(zfg q a b).all (rowH s)=(a.effect.hold.all (λr=>zav ⟨0,0,r,0,0⟩ s)&&b.effect.hold.all (λr=>zav ⟨0,0,r,0,0⟩ s)):=by
 have e:(λr=>zav ⟨0,0,r,0,0⟩ s)=rowH s:=by
  funext r;exact zeP rfl s
 rw [e];unfold zfg;cases c:(q.e != q.f) with
 | false=>
  have d:=h.same c
  grind
 | true=>simp
theorem zqG {Y cs} (h:zuT n m q a b s) (hT:Tgt n m q a b (boxM m) Y cs)
  (hg:∀ c∈m.constraints,c.kind=1→zav c (zun s a.effect.delta)=true∧zav c (zun s b.effect.delta)=true) :
  (Y.all (rowH s)&&(cs.isEmpty||cs.any (λrows=>rows.all (rowH s))))=zk9 m q a b s:=by
 have hn:1000000≤n:=by have:=h.fuel;omega
 have hgood:=zix h.valid.lay;unfold zk9;cases hT with
 | hold r h1 h2=>
  rw [if_pos h1,h2,yi,zeP rfl];have hro:=h.dA.2 r (zbb h2);have hlen:=h.oA.ztP r (zbb h2);have hbd : -1000000000≤r.bound∧r.bound≤1000000000:=by
   simp only [zuI,zaQ,yd,yg] at hro;omega
  have ht:∀ t∈r.ztP,zhi (boxM m).length t:=by
   simp only [zuI,yd] at hro
   grind [zjV]
  have hf:∀ t∈r.ztP,-1000≤t.ztV∧t.ztV≤1000:=λt h=>(ht t h).2.2
  have hb:=zo6 h.oB h.dB.1 hf hlen hn;simp only [uj,List.all_nil,ul,List.isEmpty_nil,uC];rw [zp1 ht hbd (by omega),zo7 h.oB h.dB.1 hf hlen hn,zgi (by rw [h.lenP];exact ht)]
 | row c h1 h2 hk=>
  rw [if_neg (by simp [h1]),h2,yi,zeP hk];obtain ⟨ht,hlen,hbd,ea,eb,ba,bb⟩:=h.row (zbb h2) hk;simp only [uj,List.all_nil,ul,List.isEmpty_nil,uC];rw [zcp (by omega) (by omega),zp1 ht hbd (by omega),zgi (by grind [zkZ]),zgi ht,ea,eb,Int.add_assoc]
 | none c k h1 h2 hk hz he=>
  rw [if_neg (by simp [h1]),h2,yi];obtain ⟨size,z1,z2,z3,z4,z5⟩:=(h.zxg (zbb h2)).sz hk;have hks:k=size:=by omega
  subst hks;obtain ⟨ga,gb⟩:=hg c (zbb h2) hk;rw [← zn3 hk z1 z3 z4 z5 hgood h.box (by have:=h.len;omega) h.dA.1 h.dB.1 ga gb,he];rfl
 | graph c k h1 h2 hk hz he=>
  rw [if_neg (by simp [h1]),h2,yi];obtain ⟨size,z1,z2,z3,z4,z5⟩:=(h.zxg (zbb h2)).sz hk;have hks:k=size:=by omega
  subst hks;obtain ⟨ga,gb⟩:=hg c (zbb h2) hk;rw [← zn3 hk z1 z3 z4 z5 hgood h.box (by have:=h.len;omega) h.dA.1 h.dB.1 ga gb]
  grind
theorem zrq {Y cs} (h:zuT n m q a b s) (hT:Tgt n m q a b (boxM m) Y cs) (hrows:∀ i∈rows,∃ (k:Nat) (hk:k<m.constraints.length),i=(k:Int)∧m.constraints[k].kind=0) :
  (((zvD n m q rows a b++(zfg q a b++Y)).all (rowH s)&&(zda n m q a b).all (zhM s))&&(cs.isEmpty||cs.any (λrows=>rows.all (rowH s))))=zoM m q rows a b s:=by
 rw [List.all_append,List.all_append,zqw h];have h1:=zrH (rows:=rows) h;have h2:=zpe h;have kinds:∀ c∈m.constraints,c.kind=0∨c.kind=1:=λc hc=>(h.zxg hc).kind
 have base:((zvD n m q rows a b).all (rowH s)=true∧(a.effect.hold.all (λr=>zav ⟨0,0,r,0,0⟩ s)=true∧b.effect.hold.all (λr=>zav ⟨0,0,r,0,0⟩ s)=true))∧(zda n m q a b).all (zhM s)=true ↔
   (zxS m a.effect s=true∧zxS m b.effect s=true)∧rows.all (λi=>!(relB q i&&!zav ((idx m.constraints i).getD default) (zun (zun s a.effect.delta) b.effect.delta)))=true:=by
  rw [h1,h2];unfold zxS;simp only [yd,yq];constructor
  ·rintro ⟨⟨r1,r2,r3⟩,g1⟩;have hall:∀ c∈m.constraints,(zav c s=true∧zav c (zun s a.effect.delta)=true)∧zav c (zun s b.effect.delta)=true:=λc hc=>by
    obtain ⟨i,hi,rfl⟩:=List.getElem_of_mem hc;rcases kinds _ hc with hk | hk
    ·exact (r1 i hi hk).1
    ·exact g1 i hi hk
   refine ⟨⟨⟨λc hc=>(hall c hc).1,r2⟩,λc hc=>⟨(hall c hc).1.1,(hall c hc).2⟩,r3⟩,λi hi=>?_⟩;obtain ⟨k,hk,rfl,hk0⟩:=hrows i hi;rw [zb hk,yi];cases hr:relB q (k:Int) with
   | false=>rfl
   | true=>rw [(r1 k hk hk0).2 hi hr];rfl
  ·rintro ⟨⟨⟨a1,a2⟩,b1,b2⟩,r1⟩;refine ⟨⟨λi hi hk=>⟨⟨a1 _ (ym hi),(b1 _ (ym hi)).2⟩,λhm hr=>?_⟩,a2,b2⟩,λi hi hk=>⟨a1 _ (ym hi),(b1 _ (ym hi)).2⟩⟩;have:=r1 _ hm;rw [zb hi,yi,hr] at this;simpa using this
 rw [Bool.eq_iff_iff];unfold zoM;have tgt:((zvD n m q rows a b).all (rowH s)=true∧(a.effect.hold.all (λr=>zav ⟨0,0,r,0,0⟩ s)=true∧b.effect.hold.all (λr=>zav ⟨0,0,r,0,0⟩ s)=true))∧(zda n m q a b).all (zhM s)=true →
   ((Y.all (rowH s)&&(cs.isEmpty||cs.any (λrows=>rows.all (rowH s))))=true↔zk9 m q a b s=true):=λhb=>by
  rw [zqG h hT λc hc hk=>?_];obtain ⟨i,hi,rfl⟩:=List.getElem_of_mem hc;have:=h2.1 hb.2 i hi hk;exact ⟨this.1.2,this.2⟩
 grind
end
theorem zsF {m} {rows:List Int} (h:(rows.all λx=>!badR m x)=true):∀ i∈rows,∃ (k:Nat) (hk:k<m.constraints.length),i=(k:Int)∧m.constraints[k].kind=0:=λi hi=>by
 have:=yq.1 h i hi;unfold badR at this;simp only [yB,uc,yH,Int.not_lt,Int.not_le,bne_eq_false_iff_eq] at this;obtain ⟨⟨h1,h2⟩,h3⟩:=this;obtain ⟨k,rfl⟩:=yW h1;have hk:k<m.constraints.length:=by omega
 rw [zb hk,yi] at h3;exact ⟨k,hk,rfl,h3⟩
theorem zp7 {K}:∀ {l} {last},-1≤last→rowP K last l=true→l=[]∨(l.length:Int)≤(K:Int) - 1 - last
 | [],_,_,_=>.inl rfl
 | t::l,last,a,h=>by
  simp only [rowP,yd,yg] at h
  rcases zp7 (by omega) h.2 with e | e
  ·grind
  grind
theorem zp6 {L} {r} (hL:L≤100) (h:zuI L r=true):RwOK L r:=by
 have b:r.ztP.length≤100:=by
  have a:=h
  simp only [zuI,yd] at a
  rcases zp7 (by omega) a.1 with e | e
  ·simp [e]
  ·omega
 have d:=zq4 (n:=1000000) (K:=L) (r:=r) (by omega) (yk _)
 have c:=zpM (n:=1000000) (k:=L) (r:=r) (by omega) (yk _)
 exact ⟨by grind,by omega⟩
theorem zrd {L} {g} (hL:L≤100) (h:zez L g=true):∃ K,GrOK L g K:=by
 simp only [zez,zkj,yd,yB,uc,yH,bne_eq_false_iff_eq,List.any_eq_false] at h
 obtain ⟨⟨⟨⟨⟨l,k⟩,m⟩,f⟩,c⟩,i⟩:=h
 obtain ⟨K,d⟩:∃ K:Nat,g.size=K:=⟨g.size.toNat,by omega⟩
 have a:K≤6:=by omega
 have j :=uf a a
 have e:ztZ g.size g.size=((K*K:Nat)):=by
  grind [ztZ,zaK]
 rw [e] at f c
 have n:zt2 L ((K*K:Nat))=L - ((K*K)):=zaK (by omega) (by omega)
 refine ⟨K,d,by omega,a,by omega,⟨by omega,by omega⟩,λx b=>?_⟩
 have:=i x b
 simp only [zgP,yK,yg] at this
 omega
theorem ztC {L} {R G cs} (hL:L≤100) (h:sysP L R G cs=true):SysG L G cs∧(∀ r∈R,RwOK L r)∧R.length≤1024:=by
 simp only [sysP,yd,yg,yq] at h
 obtain ⟨⟨⟨⟨b,c⟩,d⟩,e⟩,f,i⟩:=h
 refine ⟨⟨λg j=>zrd hL (f g j),d,λl k=>?_,e,by omega⟩,λr a=>zp6 hL (c r a),b⟩
 have:=i l k
 simp only [zwH] at this
 grind [zp6]
structure SysD (n:Nat) (m:Model) (q:Question) (rows:List Int) (a b:Action) (S:System):Prop where
 valid:zvt m
 quest:zgp m q=true
 ha:idx m.ztL q.e=some a
 hb:idx m.ztL q.f=some b
 bad:(rows.all λx=>!badR m x)=true
 len:(boxM m).length≤12
 box:S.box=boxM m
 tgt:∃ Y,Tgt n m q a b (boxM m) Y S.cases∧S.rows=zvD n m q rows a b++(zfg q a b++Y)
 ztQ:S.ztQ=zda n m q a b
 ok:SysOK S.rows S.ztQ S.cases
 sys:sysP (boxM m).length S.rows S.ztQ S.cases=true
theorem zo0 {n m q rows} (hF:Fuel n) (hf:fewP m=true) (hrl:rows.length≤50) :
  zf n m q rows=zt n m q rows∧((∃ e,zf n m q rows=some (⟨[],[],[],[]⟩,e)∧(e=1∨e=2∨e=8))∨∃ a b S,SysD n m q rows a b S∧zf n m q rows=some (S,0)):=by
 have hn:=hF.big
 have hn1:1000000≤n:=by omega
 have hS:=zmF hf
 by_cases hvq:(zfX m&&zgp m q)=true
 case neg=>
  simp only [yO] at hvq
  have h1:zf n m q rows=some (⟨[],[],[],[]⟩,1):=by
   unfold zf
   rw [zfU hF hS,hvq,ya,if_pos (by simp)]
  have h2:zt n m q rows=some (⟨[],[],[],[]⟩,1):=by
   unfold zt
   rw [zhW hn hS,hvq,ya,if_pos (by simp)]
  grind
 simp only [yd] at hvq
 have hV:=zfY.1 hvq.1
 obtain ⟨q1,q2,q3,q4,q5⟩:=zlN hvq.2
 obtain ⟨a,ha⟩:=za7 q1.1 q1.2
 obtain ⟨b,hb⟩:=za7 q2.1 q2.2
 have hA:=zmz hS (zbb ha)
 have hB:=zmz hS (zbb hb)
 have sA:=zk1 hn hS hV (zbb ha)
 have sB:=zk1 hn hS hV (zbb hb)
 have hC:∀ c∈m.constraints,zvp (boxM m).length c:=λc hc=>zsx hS hV hc
 have hfp:=hf
 simp only [fewP,zdL,hV.lay,if_true,yd,yg] at hfp
 have hK:(boxM m).length≤12:=hfp.2.2.1
 have hgood:=zix hV.lay
 have hcl:=hS.constraints
 have hct:∀ c∈m.constraints,c.row.ztP.length≤1000:=λc hc=>(hC c hc).len
 have hshort:=zpp (n:=n) (q:=q) (rows:=rows) (a:=a) (b:=b) hcl hct
 have e1:=zm5 (rows:=rows) hF hS hV hvq.2 ha hb hA hB hC (by omega)
 have e2:=zmm (rows:=rows) hF hS hV hvq.2 ha hb hA hB hC sA sB (by omega)
 by_cases hbad:(rows.all λx=>!badR m x)=true
 case neg=>
  grind
 rw [if_pos hbad] at e1 e2
 constructor
 ·obtain ⟨X,G,cs,hX,hG,hcs,htail⟩:=zsk (n:=n) (m:=m) (q:=q) (box:=boxM m) hA hB hC (by omega) (by omega) sA sB (λh=>⟨q3,q4 h a ha⟩) (λh=>⟨q3,(q5 h).2⟩) hn1
  grind [zqc,ze7,zhY]
 ·obtain ⟨Y,cs,hT,hX,hG,hcs,htail⟩:=zsl (n:=n) (m:=m) (q:=q) (box:=boxM m) hA hB hC sA sB (by omega) (by omega) (λh=>⟨q3,q4 h a ha⟩) (λh=>⟨q3,(q5 h).2⟩) hn1
  have hso:=zqc hshort hX hG hcs
  rw [e1,htail _ (by grind),ze7 hgood (by omega) hso hn1]
  cases hP:sysP (boxM m).length (zvD n m q rows a b++(zfg q a b++Y)) (zda n m q a b) cs with
  | false=>exact .inl ⟨8,by simp [endS],.inr (.inr rfl)⟩
  | true=>exact .inr ⟨a,b,⟨boxM m,zvD n m q rows a b++(zfg q a b++Y),zda n m q a b,cs⟩,⟨hV,hvq.2,ha,hb,hbad,hK,rfl,⟨Y,hT,rfl⟩,rfl,hso,hP⟩,by simp [endS]⟩
theorem SysD.g {n m q rows a b S} (h:SysD n m q rows a b S):SysG (boxM m).length S.ztQ S.cases∧(∀ r∈S.rows,RwOK (boxM m).length r)∧S.rows.length≤1024:=ztC (by have:=h.len;omega) h.sys
theorem SysD.valid1 {n m q rows a b S} (h:SysD n m q rows a b S) (hn:1000000≤n):zak n S=some true∧zad n S=some true:=by
 have c:=zix h.valid.lay
 have j:=h.len
 obtain ⟨f,R,G,g⟩:=S
 have i:=h.box
 have d:=h.ok
 have e:=h.sys
 grind [ze7,zhY]
theorem SysD.pi {n m q rows a b S} (h:SysD n m q rows a b S):PI 0 (boxM m).length 0 [] S.box:=by
 have c:=zix h.valid.lay
 have f:=h.len
 rw [h.box]
 have e:∀ r∈boxM m,r.lo≤r.hi∧-9999≤r.lo∧r.hi≤9999:=λr d=>by
  have:=yq.1 c r d
  grind
 exact ⟨zqS (λr d=>by grind) (by omega),rfl,λr d=>(e r d).1,yp _,yp _⟩
theorem SysD.void {n m q rows a b S} (h:SysD n m q rows a b S) (hn:4294967296≤n) (hS:zuz m) (h0:(boxM m).length=0):∃ r∈S.rows,zwk r=true:=by
 have hbox:boxM m=[]:=List.length_eq_zero_iff.1 h0
 obtain ⟨hg,hr,-⟩:=h.g
 have hsc:zuT n m q a b []:=⟨hS,h.valid,h.quest,h.ha,h.hb,by rw [hbox];rfl,by omega,hn⟩
 obtain ⟨Y,hT,hrows⟩:=h.tgt
 have hmeans:=zrq (rows:=rows) hsc hT (zsF h.bad)
 have hshow:zoM m q rows a b []=false:=by
  have hp:∀ d,zun [] d=[]:=λd=>List.length_eq_zero_iff.1 (by rw [zkZ];rfl)
  cases hh:zoM m q rows a b [] with
  | false=>rfl
  | true=>
   exfalso
   simp only [zoM,yd,zxS,yq] at hh
   obtain ⟨⟨⟨p1,p2⟩,-⟩,-,hb⟩:=hh
   obtain ⟨q1,q2,q3,q4,q5⟩:=zlN h.quest
   unfold zk9 at hb
   simp only [hp] at hb
   split at hb <;> rename_i ht
   ·obtain ⟨r,hr⟩:=za7 q3 (q4 ht a h.ha)
    grind [zbb]
   ·obtain ⟨c,hc⟩:=za7 q3 (q5 (by grind)).2
    grind [zbb]
 by_cases hv:∃ r∈S.rows,zwk r=true
 ·exact hv
 exfalso
 have hrow:∀ r∈S.rows,rowH [] r=true:=λr hr'=>by
  have ht:r.ztP=[]:=by
   cases hterms:r.ztP with
   | nil=>rfl
   | cons t l=>
    have:=(hr r hr').cells t (by rw [hterms];simp)
    omega
  have:¬ zwk r=true:=λe=>hv ⟨r,hr',e⟩
  simp only [zwk,ht,List.isEmpty_nil,yE,yg] at this
  simp only [rowH,ht,yg]
  show (0:Int)≤r.bound
  omega
 have hnog:∀ g∈S.ztQ,False:=λg hgm=>by
  obtain ⟨K,hK⟩:=hg.gr g hgm
  have h1:=hK.fst
  have h2:=hK.pos
  have h3:1*1≤K*K:=uf h2 h2
  omega
 have hcs:S.cases.isEmpty=true:=by
  generalize S.cases=cs at hT
  cases hT with
  | hold r h1 h2=>rfl
  | row c h1 h2 hk=>rfl
  | none c k h1 h2 hk hz he=>rfl
  | graph c k h1 h2 hk hz he=>
   obtain ⟨size,z1,z2,z3,z4,z5⟩:=(hsc.zxg (zbb h2)).sz hk
   have h3:1*1≤size*size:=uf z2 z2
   omega
 rw [hshow,← hrows,← h.ztQ] at hmeans
 grind
def zwb (d:Nat) (y:NR):zt6:=if y.k=2 then ⟨2,[],zvi,(d:Int)⟩ else if y.k=0 then ⟨0,y.v,zvi,(y.c:Int)⟩ else ⟨1,[],y.t,(y.c:Int)⟩
def zuF (S:System) (d:Nat):NR:=zuP S.ztQ S.cases (d+1) true S.rows S.box d
theorem zjo {n m q rows a b S} {d:Nat} (h:SysD n m q rows a b S) (hn:4294967296≤n) (hS:zuz m) (hd:d≤65536) (hc:zf n m q rows=some (S,0)):zbP n m q (d:Int) rows=some (zwb d (zuF S d),0):=by
 obtain ⟨hg,hr,hrl⟩:=h.g
 have hpi:=h.pi
 have hbl:S.box.length=(boxM m).length:=hpi.len
 have hlen:=h.len
 obtain ⟨w,e,hw⟩:=zfA hg (d+1) n d ⟨S,S.rows,(d:Int),0⟩ S.box (-1) (by omega) (by omega) rfl (by grind) (by grind) (by grind) hr (by grind) (λ_=>rfl) (λh0=>h.void hn hS h0) hpi
 rw [show decide ((-1:Int)<0)=true from rfl] at hw
 have hsh:=zih (G:=S.ztQ) (cs:=S.cases) (f:=d+1) (root:=true) (R:=S.rows) (b:=S.box) (d:=d)
 have hrange:(decide ((d:Int)<0)||decide (65536<(d:Int)))=false:=by grind
 have hfind:zgf n S (d:Int)=some (if (zuF S d).k=2 then ⟨2,0,[],zvi,(d:Int)⟩ else if (zuF S d).k=0 then ⟨0,((w.getD default).1.index),(zuF S d).v,zvi,((zuF S d).c:Int)⟩ else ⟨1,0,[],(zuF S d).t,((zuF S d).c:Int)⟩,0):=by
  unfold zgf
  rw [(h.valid1 (by omega)).1,ya,if_neg (by simp),hrange,if_neg (by simp),zp (by grind),ya,yU,e,ya]
  change OutW _ _ _ _ (zuF S d) w at hw
  change ((zuF S d).k=0→(zuF S d).t=zvi)∧((zuF S d).k≠0→(zuF S d).v=[]) at hsh
  generalize zuF S d=Y at *
  rcases hw with ⟨h2,rfl⟩ | ⟨h2,hsol,ix,rows',rfl,-⟩
  ·rw [if_pos h2];rfl
  ·rw [if_neg h2]
   simp only [ppk]
   by_cases h0:Y.k=0
   ·obtain ⟨hv1,hv2⟩:=hsol h0
    rw [if_pos h0]
    rw [if_pos (by cases hv:Y.v with | nil=>exact absurd hv hv2 | cons x l=>rfl)]
    simp [zvi]
   grind
 unfold zbP
 rw [hc,ya]
 simp only [show ((0:Int)==1)=false from rfl,show ((0:Int)==2)=false from rfl,show ((0:Int) != 0)=false from rfl,hrange,Bool.or_self,ye,if_false,hfind,ya]
 unfold zwb
 generalize zuF S d=Y
 by_cases h2:Y.k=2
 ·simp only [if_pos h2]
  rfl
 ·by_cases h0:Y.k=0
  ·simp only [if_neg h2,if_pos h0]
   rfl
  ·simp only [if_neg h2,if_neg h0]
   rfl
def ziv:Nat→Tree→Prop
 | 0,_=>False
 | f+1,t=>t.steps.length≤65536∧t.kids.length≤1024∧∀ k∈t.kids,ziv f k
theorem zjJ {α} {self} {tr ix d} {P:Tree→Prop}:∀ {i} {l:List α} {kids} {c},(∀ x∈l,∀ d',d'≤d→(self x d').k≠2→(self x d').k≠0→P (self x d').t)→(∀ t∈kids,P t)→(zuX self tr ix d i l kids c).k≠2→(zuX self tr ix d i l kids c).k≠0→∃ ks,(zuX self tr ix d i l kids c).t=tr ks∧(∀ t∈ks,P t)∧ks.length=kids.length+l.length
 | _,[],kids,_,_,e,_,_=>⟨kids,rfl,e,by simp⟩
 | i,x::l,kids,c,g,e,a,b=>by
  unfold zuX at a b ⊢
  split at a <;> rename_i j
  ·exact absurd rfl a
  ·rw [if_neg j] at b ⊢
   split at a <;> rename_i f
   ·grind
   ·rw [if_neg f] at b ⊢
    obtain ⟨ks,p,n,o⟩:=zjJ (i:=i+1) (λy h=>g y (by simp [h])) (λt m=>by
     grind) a b
    grind
theorem zjQ {G cs} (hcl:cs.length≤1024):∀ {f} {root R b d},d≤65536→(zuP G cs f root R b d).k≠2→(zuP G cs f root R b d).k≠0→ziv f (zuP G cs f root R b d).t
 | 0,_,_,_,_,_,h,_=>absurd rfl h
 | f+1,root,R,b,d,hd,h,h0=>by
  unfold zuP at h h0 ⊢
  split at h <;> rename_i hd0
  ·exact absurd rfl h
  ·rw [if_neg hd0] at h0 ⊢
   dsimp only at h h0 ⊢
   have hle:=zl0 (bud:=d - 1) (R:=R) (G:=G) (f:=d) (st:=[]) (b:=b) (by simp)
   split at h <;> rename_i h2
   ·exact absurd rfl h
   ·rw [if_neg h2] at h0 ⊢
    split at h <;> rename_i h1
    ·rw [if_pos h1]
     exact ⟨by grind,by simp,by simp⟩
    ·rw [if_neg h1] at h0 ⊢
     split at h <;> rename_i hr
     ·rw [if_pos hr] at h0 ⊢
      obtain ⟨ks,k1,k2,k3⟩:=zjJ (P:=ziv f) (λx _ d' hd'=>zjQ hcl (by omega)) (by simp) h h0
      rw [k1]
      exact ⟨by grind,by grind,k2⟩
     ·rw [if_neg hr] at h0 ⊢
      split at h <;> rename_i hc
      ·rw [if_pos hc] at h0;exact absurd rfl h0
      ·rw [if_neg hc] at h0 ⊢
       obtain ⟨ks,k1,k2,k3⟩:=zjJ (P:=ziv f) (λx _ d' hd'=>zjQ hcl (by omega)) (by simp) h h0
       rw [k1]
       exact ⟨by dsimp only;omega,by dsimp only;simp [zvw] at k3;omega,k2⟩
theorem zqj {n} {l} (hl:l.length<1000000) (hn:1000000≤n):zbS n l l=some true:=by
 unfold zbS
 have:=zM (body:=zbS.l1 n l l) (len:=l.length) (st:=λi=>i) (g:=λ_=>some true) (λa i b c=>?_) (λa=>?_) n 0 (yp _) (by omega)
 ·grind
 ·simp only [zbS.l1,zw b,if_true,zb b,ya,decide_true,ui,ye,if_false,zd (i:=i) (by omega),c]
 ·simp [zbS.l1]
theorem znY:∀ {f n} {t},ziv f t→1000000+f≤n→zaY n t t=some true
 | 0,_,_,h,_=>h.elim
 | f+1,n,t,h,k=>by
  obtain ⟨n,rfl⟩:∃ m,n=m+1:=⟨n - 1,by omega⟩
  obtain ⟨l,e,d⟩:=h
  unfold zaY zaY.body
  have j:∀ x:Int,(x != x)=false:=λx=>by simp
  simp only [zqj (n:=n) (show t.steps.length<1000000 by omega) (by omega),grd]
  have:=zM (body:=zaY.l1 n (zaY n) t t) (len:=t.kids.length) (st:=λi=>i) (g:=λ_=>some true) (λb i a c=>?_) (λb=>?_) n 0 (yp _) (by omega)
  ·grind
  ·simp only [zaY.l1,zw a,if_true,zb a,ya,znY (n:=n) (d _ (ym a)) (by omega),ui,ye,if_false,zd (i:=i) (by omega),c]
  ·simp [zaY.l1]
theorem zqe {f}:ziv (f+1) zvi:=⟨by simp [zvi],by simp [zvi],by simp [zvi]⟩
theorem zoZ {n} {v} {f} (hv:v.state.length<1000000) (ht:ziv f v.tree) (hn:1000000+f≤n):zcE n v v=some true:=by
 unfold zcE
 simp only [zqN (n:=n) hv (by omega),znY ht hn,yo,yi,yy,grd,if_true,beq_self_eq_true,uL]
theorem zph {L G cs} (hG:SysG L G cs):∀ {f} {root R b d},(∀ r∈R,RwOK L r)→PI 0 L 0 [] b→(zuP G cs f root R b d).v.length≤L
 | 0,_,_,_,_,_,_=>yp _
 | f+1,root,R,b,d,hR,hb=>by
  have kv:∀ {α:Type} {self:α→Nat→NR} {tr ix} {d:Nat} {l:List α} {i:Nat} {kids:List Tree} {c:Nat},(∀ x∈l,∀ d',(self x d').v.length≤L)→(zuX self tr ix d i l kids c).v.length≤L:=by
   intro α self tr ix d l
   induction l with
   | nil=>intro i kids c _;exact yp _
   | cons x l ih=>
    intro i kids c hs
    unfold zuX
    split
    ·exact yp _
    grind
  unfold zuP
  split
  ·exact yp _
  ·dsimp only
   have hL:=hG.le
   have hp:=znO (bud:=d - 1) (f:=d) (show L≤1000 by omega) hR hG.gr (zpu (d:=d - 1) hb)
   generalize runU (d - 1) R G d [] b=p at *
   split
   ·exact yp _
   ·split
    ·grind
    ·rename_i h1
     have hI:=hp (by omega)
     split
     ·exact kv λx hx d'=>zph hG (λr hr=>(yr.1 hr).elim (hR r) ((hG.ca x hx).2 r)) (zpu hI)
     ·split
      ·simp only [yL,hI.len];exact yk _
      ·rename_i hc
       exact kv λx hx d'=>zph hG hR (zqP hI hc hx)
theorem zqs {n m q rows a b S} {d} (h:SysD n m q rows a b S) (hd:d≤65536):ziv (d+1) (zwb d (zuF S d)).tree∧(zwb d (zuF S d)).state.length≤12:=by
 obtain ⟨c,g,e⟩:=h.g
 have i:=zjQ (G:=S.ztQ) c.cl (f:=d+1) (root:=true) (R:=S.rows) (b:=S.box) hd
 have j:=zph c (f:=d+1) (root:=true) (d:=d) g h.pi
 have l:=h.len
 change (zuF S d).k≠2→(zuF S d).k≠0→ziv (d+1) (zuF S d).t at i
 change (zuF S d).v.length≤_ at j
 unfold zwb
 split
 ·exact ⟨zqe,yp _⟩
 ·split
  ·grind [zqe]
  grind
theorem zp9 {bud kind index cell r st b}:st.length≤(zvB bud kind index cell r st b).st.length:=by
 unfold zvB
 grind
theorem zmZ {bud bud' kind index cell r st b} (hk:(zvB bud kind index cell r st b).k≠2) (hl:(zvB bud kind index cell r st b).st.length≤bud'):zvB bud' kind index cell r st b=zvB bud kind index cell r st b:=by
 unfold zvB at hk hl ⊢
 grind
theorem zo2 {p:PR} {f} (hf:∀ st b,st.length≤(f st b).st.length):p.st.length≤(p.bind f).st.length:=by
 unfold PR.bind
 grind
theorem zpo {bud i row}:∀ {l} {p},p.st.length≤(rowT bud i row l p).st.length
 | [],_=>yk _
 | t::l,p=>by
  exact yJ (zo2 λ_ _=>zp9) (zpo (l:=l))
theorem zqC {bud i row p}:p.st.length≤(zdl bud i row p).st.length:=zo2 λst b=>by
 split
 ·grind
 ·exact zpo (p:=⟨0,st,b⟩)
theorem znM {bud}:∀ {i} {l} {p},p.st.length≤(zvs bud i l p).st.length
 | _,[],_=>yk _
 | i,r::l,p=>by
  exact yJ zqC (znM (l:=l))
theorem zrc {bud i g}:∀ {d k} {p},p.st.length≤(grT bud i g d k p).st.length
 | 0,_,_=>yk _
 | d+1,k,p=>by
  exact yJ (zo2 λ_ _=>zp9) (zrc (d:=d))
theorem zhr {bud}:∀ {i} {l} {p},p.st.length≤(zch bud i l p).st.length
 | _,[],_=>yk _
 | i,g::l,p=>by
  exact yJ zrc (zhr (l:=l))
theorem zk8 {p:PR} {f f'} {bud'} (hf:∀ st b,(f st b).k≠2→(f st b).st.length≤bud'→f' st b=f st b) (hk:(p.bind f).k≠2) (hl:(p.bind f).st.length≤bud'):p.bind f'=p.bind f:=by
 unfold PR.bind at *
 grind
theorem zyc {F:PR→PR} (hs:∀ p,p.k≠0→F p=p) {p} (h:(F p).k≠2):p.k≠2:=λe=>h (by grind)
theorem zoI {bud bud' i row}:∀ {l} {p},(rowT bud i row l p).k≠2→(rowT bud i row l p).st.length≤bud'→rowT bud' i row l p=rowT bud i row l p
 | [],_,_,_=>rfl
 | t::l,p,c,a=>by
  unfold rowT at c a ⊢
  have e:=zyc (F:=rowT bud i row l) (λp h=>zi9 h) c
  have d:=yJ (zpo (bud:=bud) (i:=i) (row:=row) (l:=l)) a
  rw [zk8 (f:=λst b=>zvB bud 0 i t.cell (zgt row b t.cell) st b) (f':=λst b=>zvB bud' 0 i t.cell (zgt row b t.cell) st b) (λst b=>zmZ) e d]
  exact zoI c a
theorem zoH {bud bud' i row p} (hk:(zdl bud i row p).k≠2) (hl:(zdl bud i row p).st.length≤bud'):zdl bud' i row p=zdl bud i row p:=by
 refine zk8 (λst b hk hl=>?_) hk hl
 by_cases a:zwk row=true
 ·grind
 ·grind [zoI]
theorem zmX {bud bud'}:∀ {i} {l} {p},(zvs bud i l p).k≠2→(zvs bud i l p).st.length≤bud'→zvs bud' i l p=zvs bud i l p
 | _,[],_,_,_=>rfl
 | i,r::l,p,b,a=>by
  unfold zvs at b a ⊢
  have d:=zyc (F:=zvs bud (i+1) l) (λp h=>zeK h) b
  have c:=yJ (znM (bud:=bud) (i:=i+1) (l:=l)) a
  rw [zoH d c]
  exact zmX b a
theorem zpO {bud bud' i g}:∀ {d k} {p},(grT bud i g d k p).k≠2→(grT bud i g d k p).st.length≤bud'→grT bud' i g d k p=grT bud i g d k p
 | 0,_,_,_,_=>rfl
 | d+1,k,p,c,a=>by
  unfold grT at c a ⊢
  have j:=zyc (F:=grT bud i g d (k+1)) (λp h=>ziH h) c
  have e:=yJ (zrc (bud:=bud) (i:=i) (g:=g) (d:=d) (k:=k+1)) a
  rw [zk8 (f:=λst b=>zvB bud 1 i (g.first+k) (cutP g b k) st b) (f':=λst b=>zvB bud' 1 i (g.first+k) (cutP g b k) st b) (λst b=>zmZ) j e]
  exact zpO c a
theorem zkk {bud bud'}:∀ {i} {l} {p},(zch bud i l p).k≠2→(zch bud i l p).st.length≤bud'→zch bud' i l p=zch bud i l p
 | _,[],_,_,_=>rfl
 | i,g::l,p,b,a=>by
  unfold zch at b a ⊢
  have d:=zyc (F:=zch bud (i+1) l) (λp h=>zdp h) b
  have c:=yJ (zhr (bud:=bud) (i:=i+1) (l:=l)) a
  rw [zpO d c]
  exact zkk b a
theorem zmO {bud bud' R G st b} (hk:(zu2 bud R G st b).k≠2) (hl:(zu2 bud R G st b).st.length≤bud'):zu2 bud' R G st b=zu2 bud R G st b:=by
 unfold zu2 at hk hl ⊢
 have a:=zyc (F:=zch bud 0 G) (λp h=>zdp h) hk
 grind [zhr,zmX,zkk]
theorem zpr {bud R G}:∀ {f} {st b},st.length≤(runU bud R G f st b).st.length
 | 0,_,_=>yk _
 | f+1,st,b=>by
  have a:st.length≤(zu2 bud R G st b).st.length:=by
   exact yJ (znM (bud:=bud) (i:=0) (l:=R) (p:=⟨0,st,b⟩)) zhr
  unfold runU
  split
  ·exact yJ a zpr
  grind
theorem zoJ {bud bud' R G}:∀ {f f'} {st b},st.length≤bud→(runU bud R G f st b).k≠2→(runU bud R G f st b).st.length≤bud'→bud<f+st.length→bud'<f'+st.length→runU bud' R G f' st b=runU bud R G f st b
 | 0,f',st,b,i,c,a,l,h=>by omega
 | f+1,f',st,b,i,c,a,l,h=>by
  have j:=zpr (bud:=bud) (R:=R) (G:=G) (f:=f+1) (st:=st) (b:=b)
  obtain ⟨f',rfl⟩:∃ g,f'=g+1:=⟨f' - 1,by omega⟩
  have d:(zu2 bud R G st b).st.length≤bud:=zjF (znN i)
  unfold runU at c a ⊢
  by_cases e:(zu2 bud R G st b).k=0∧st.length<(zu2 bud R G st b).st.length
  ·rw [if_pos e] at c a ⊢
   have m:=yJ (zpr (bud:=bud) (R:=R) (G:=G) (f:=f) (st:=(zu2 bud R G st b).st) (b:=(zu2 bud R G st b).b)) a
   rw [zmO (by omega) m,if_pos e]
   exact zoJ d c a (by omega) (by omega)
  ·rw [if_neg e] at c a ⊢
   rw [zmO c a,if_neg e]
theorem zjI {α} {self self'} {tr ix d d' F}:∀ {i} {l:List α} {kids} {c},(∀ x∈l,∀ e e',(self x e).k≠2→(self x e).c≤e'→e'<F→self' x e'=self x e)→(∀ x∈l,∀ e,(self x e).k≠2→(self x e).c≤e)→1≤c→c≤d→d'≤F→(zuX self tr ix d i l kids c).k≠2→(zuX self tr ix d i l kids c).c≤d'→zuX self' tr ix d' i l kids c=zuX self tr ix d i l kids c
 | _,[],_,_,_,_,_,_,_,_,_=>rfl
 | i,x::l,kids,c,j,m,s,n,p,a,f=>by
  have r:=m x (by simp) (d - c)
  unfold zuX at a f ⊢
  by_cases b:(self x (d - c)).k=2
  ·rw [if_pos b] at a;exact absurd rfl a
  ·rw [if_neg b] at a f
   have o:c+(self x (d - c)).c≤d':=by
    by_cases h:(self x (d - c)).k=0
    ·grind
    ·grind [zeH]
   have q:=j x (by simp) (d - c) (d' - c) b (by omega) (by omega)
   rw [q,if_neg b,if_neg b]
   by_cases h:(self x (d - c)).k=0
   ·grind
   ·rw [if_neg h] at a f ⊢
    rw [if_neg h]
    exact zjI (λy g=>j y (by simp [g])) (λy g=>m y (by simp [g])) (by omega) (by omega) p a f
theorem zjP {G cs}:∀ {f f'} {root R b d d'},(zuP G cs f root R b d).k≠2→(zuP G cs f root R b d).c≤d'→d'<f'→zuP G cs f' root R b d'=zuP G cs f root R b d
 | 0,_,_,_,_,_,_,h,_,_=>absurd rfl h
 | f+1,f',root,R,b,d,d',h,hl,hf'=>by
  have hcost:=zcB h
  obtain ⟨f',rfl⟩:∃ g,f'=g+1:=⟨f' - 1,by omega⟩
  have hd0:¬ d=0:=by omega
  have hd0':¬ d'=0:=by omega
  unfold zuP at h hl ⊢
  rw [if_neg hd0] at h hl ⊢
  rw [if_neg hd0']
  dsimp only at h hl ⊢
  have hle:=zl0 (bud:=d - 1) (R:=R) (G:=G) (f:=d) (st:=[]) (b:=b) (by simp)
  have hp:(runU (d - 1) R G d [] b).k≠2∧1+(runU (d - 1) R G d [] b).st.length≤d':=by
   by_cases h2:(runU (d - 1) R G d [] b).k=2
   ·rw [if_pos h2] at h;exact absurd rfl h
   ·refine ⟨h2,?_⟩
    rw [if_neg h2] at h hl
    split at hl
    ·exact hl
    ·rename_i h1
     rw [if_neg h1] at h
     split at hl
     ·rename_i hr
      rw [if_pos hr] at h
      have:=(zeH (λx _ d' hk=>(zcB hk).2) (by omega) h).1
      omega
     ·rename_i hr
      rw [if_neg hr] at h
      split at hl
      ·exact hl
      ·rename_i hc
       rw [if_neg hc] at h
       have:=(zeH (λx _ d' hk=>(zcB hk).2) (by omega) h).1
       omega
  have he:runU (d' - 1) R G d' [] b=runU (d - 1) R G d [] b:=zoJ (by simp) hp.1 (by omega) (by simp;omega) (by simp;omega)
  rw [he]
  generalize runU (d - 1) R G d [] b=p at *
  rw [if_neg hp.1] at h hl ⊢
  rw [if_neg hp.1]
  by_cases h1:p.k≠0
  ·rw [if_pos h1,if_pos h1]
  ·rw [if_neg h1] at h hl ⊢
   rw [if_neg h1]
   by_cases hr:(root&&!cs.isEmpty)=true
   ·rw [if_pos hr] at h hl ⊢
    rw [if_pos hr]
    exact zjI (F:=f') (λx _ e e' hk hl hf=>zjP hk hl hf) (λx _ e hk=>(zcB hk).2) (by omega) (by omega) (by omega) h hl
   ·rw [if_neg hr] at h hl ⊢
    rw [if_neg hr]
    by_cases hc:zuw p.b<0
    ·rw [if_pos hc,if_pos hc]
    ·rw [if_neg hc] at h hl ⊢
     rw [if_neg hc]
     exact zjI (F:=f') (λx _ e e' hk hl hf=>zjP hk hl hf) (λx _ e hk=>(zcB hk).2) (by omega) (by omega) (by omega) h hl
theorem zmG {S} {d d'} (h:(zuF S d).k≠2) (hl:(zuF S d).c≤d'):zuF S d'=zuF S d:=zjP h hl (Nat.lt_succ_self _)
theorem zk3 {n m q rows e} {zt7} (hc:zf n m q rows=some (⟨[],[],[],[]⟩,e)) (he:e=1∨e=2∨e=8) (hb:0≤zt7∧zt7≤65536):zbP n m q zt7 rows=some (if e=8 then (⟨2,[],zvi,0⟩,0) else (⟨0,[],zvi,0⟩,e)):=by
 have a:(decide (zt7<0)||decide (65536<zt7))=false:=by grind
 unfold zbP
 rw [hc,ya]
 rcases he with rfl | rfl | rfl
 ·rfl
 ·rfl
 ·simp only [a];rfl
theorem zoY {m} {q} {a b} {rows}:zdX 18446744073709551616 m q a b rows=some true:=by
 unfold zdX
 have hF:=ztv
 have hn:=hF.big
 have hn1:1000000≤18446744073709551616:=by omega
 rw [zqm,zou (by omega)]
 simp only [ya,ui,ye,if_false]
 split
 ·rfl
 rename_i hfew
 simp only [yK,yB,yg,not_or,Bool.not_eq_false] at hfew
 have hf:fewP m=true:=hfew.1.1.1.1.1
 have hrl:¬ 20<(rows.length:Int):=hfew.1.1.1.1.2
 have h0a:¬ a<0:=hfew.1.1.1.2
 have h0b:¬ b<0:=hfew.1.1.2
 have h1a:¬ 65536<a:=hfew.1.2
 have h1b:¬ 65536<b:=hfew.2
 have hS:=zmF hf
 obtain ⟨-,hres⟩:=zo0 (q:=q) (rows:=rows) hF hf (by omega)
 have e1:gmin a b=min a b:=zrb a b
 have e2:gmax a b=max a b:=zra a b
 rw [e1,e2]
 obtain ⟨x,hx⟩:∃ x:Nat,min a b=(x:Int):=⟨(min a b).toNat,by omega⟩
 obtain ⟨y,hy⟩:∃ y:Nat,max a b=(y:Int):=⟨(max a b).toNat,by omega⟩
 have hxy:x≤y:=by omega
 have hy6:y≤65536:=by omega
 rw [hx,hy]
 rcases hres with ⟨e,hc,he⟩ | ⟨aa,bb,S,hD,hc⟩
 ·rw [zk3 hc he (by omega),zk3 hc he (by omega)]
  grind
 ·have hvx:=zjo hD (by omega) hS (show x≤65536 by omega) hc
  have hvy:=zjo hD (by omega) hS hy6 hc
  rw [hvx,hvy]
  simp only [ya,uO,Bool.or_self,ye,if_false]
  by_cases h2:(zuF S x).k=2
  ·have hv:zwb x (zuF S x)=⟨2,[],zvi,(x:Int)⟩:=if_pos h2
   grind
  ·have hcost:1≤(zuF S x).c∧(zuF S x).c≤x:=zcB h2
   have ey:zuF S y=zuF S x:=zmG h2 (by omega)
   have ec:zuF S (zuF S x).c=zuF S x:=zmG h2 (yk _)
   have hst:(zwb x (zuF S x)).steps=((zuF S x).c:Int):=by
    unfold zwb;grind
   have hkind:((zwb x (zuF S x)).kind==2)=false:=by
    unfold zwb;grind
   have hsame:∀ z,zwb z (zuF S x)=zwb x (zuF S x):=λz=>by
    unfold zwb;grind
   have hvc:=zjo hD (by omega) hS (show (zuF S x).c≤65536 by omega) hc
   rw [hkind,hst,hvc,ey,ec,hsame y,hsame (zuF S x).c]
   obtain ⟨t1,t2⟩:=zqs hD (show x≤65536 by omega)
   have hrefl:=zoZ (n:=18446744073709551616) (f:=x+1) (v:=zwb x (zuF S x)) (by omega) t1 (by omega)
   simp only [ye,if_false,ya,hrefl,beq_self_eq_true,yo,yi,yy,grd,if_true,uL]
theorem closed22:joinedFacts Tryz.pinned.checked.prog 5 Tryz.f5 (OpenSpec.ofChange Rows.pairBudgetsSpec).bare Rows.pairBudgetsRow=true:=by
 unfold joinedFacts
 simp only [yd]
 repeat' apply And.intro
 all_goals as_aux_lemma=>kernel_rfl
section
open Go.ChangeShapes Go.WideShapes Go.ChangeAt Go.RowKit
theorem own:ownKnob Tryz.prog.godebug=none:=by kernel_rfl
theorem zsS:laidOutB Tryz.prog=true:=by kernel_rfl
set_option maxRecDepth 100000 in
theorem zxO (H:Type) (enc:TypeId×Value→H) (W:World) (base:Nat) (args:Array Value) (ds gs:List (DataW H)) (before:List MemPlace)
  (hval:∀ (j:Nat) t v,Tryz.f5.params[j]? = some t→args[j]? = some v→Value.okWide Tryz.prog W .any base t v)
  (hW:DataW.Whole enc Tryz.prog Tryz.f5.params.toList Rows.pairBudgetsSpec.vars false W args.toList ds gs before) (hL:laidMetH Tryz.prog Rows.pairBudgetsRow.laid W) (hS:W.ShapedOpen Tryz.prog) :
  Calls Tryz.prog 5 args W λe W'=>∃ v,e = .returned v∧Rows.pairBudgetsSpec.post enc Tryz.prog Tryz.f5 false true false false W args v W':=by
 have hW':=hW
 obtain ⟨p,q,hA0,hV,rfl,hfz,hnd⟩:=hW
 have hA:DataW.TrodAll enc Tryz.prog W 0 (λ_=>true) true Tryz.f5.params.toList args.toList ds p:=hA0
 rw [Tryz.params5] at hA hval
 obtain ⟨v0,vs0,d0,ds0,p0,q0,hargs,rfl,rfl,h0,r0⟩:=trodAll_cons hA
 obtain ⟨v1,vs1,d1,ds1,p1,q1,rfl,rfl,rfl,h1,r1⟩:=trodAll_cons r0
 obtain ⟨v2,vs2,d2,ds2,p2,q2,rfl,rfl,rfl,h2,r2⟩:=trodAll_cons r1
 obtain ⟨v3,vs3,d3,ds3,p3,q3,rfl,rfl,rfl,h3,r3⟩:=trodAll_cons r2
 obtain ⟨v4,vs4,d4,ds4,p4,q4,rfl,rfl,rfl,h4,r4⟩:=trodAll_cons r3
 obtain ⟨rfl,rfl,rfl⟩:=trodAll_nil r4
 obtain rfl:args = #[v0,v1,v2,v3,v4]:=by cases args;simp_all
 obtain ⟨rfl,rfl⟩:=trodVars_none hV
 obtain ⟨a0,k0⟩:=ztl.zxn (hval 0 _ v0 rfl rfl) h0
 obtain ⟨a1,k1⟩:=ztn.zxn (hval 1 _ v1 rfl rfl) h1
 obtain ⟨a2,k2⟩:=dInt.zxn (hval 2 _ v2 rfl rfl) h2
 obtain ⟨a3,k3⟩:=dInt.zxn (hval 3 _ v3 rfl rfl) h3
 obtain ⟨a4,k4⟩:=zx6.zxn (hval 4 _ v4 rfl rfl) h4
 have hrun:=(zhA _ a0 a1 a2 a3 a4 true zoY).run zvV W #[v0,v1,v2,v3,v4] (λ_ h=>h.elim) (zsQ hL hS) (by
  simp only [D.reps]
  exact ⟨v0,_,rfl,k0,v1,_,rfl,k1,v2,_,rfl,k2,v3,_,rfl,k3,v4,_,rfl,k4,rfl⟩)
 refine hrun.mono λe W' ⟨u,he,hf,hu⟩=>?_
 simp only [D.rep] at hu
 subst hu
 subst he
 refine ⟨_,rfl,zrz hW' rfl rfl rfl zsS (λt ht=>?_) hf (λ_ _ _=>trodAll_cons_mk (shut_bool Tryz.underlying4 _) trodAll_mk0)⟩
 rw [Tryz.params5] at ht
 have hall:([30,34,3,3,22].all λt=>Tryz.prog.readableRec t&&decide (t<Tryz.prog.types.size))=true:=by kernel_rfl
 have:=yq.1 hall t (by simpa using ht)
 simpa using this
theorem reads22 (os:Os) {H:Type} (enc:TypeId×Value→H):∃ places,DataW.whole enc Tryz.prog ((World.laidAll Tryz.prog os Rows.pairBudgetsRow.laid).forCall (λ_ _=>0) ⟨#[],#[.agg #[.slice none 0 0,.slice none 0 0,.slice none 0 0,.slice none 0 0,.slice none 0 0,.slice none 0 0,.slice none 0 0],.agg #[.int .i64 0,.int .i64 0,.bool false,.int .i64 0],.int .i64 0,.int .i64 0,.slice none 0 0],[]⟩).memory Tryz.f5.params.toList Rows.pairBudgetsSpec.vars false
  (#[.agg #[.slice none 0 0,.slice none 0 0,.slice none 0 0,.slice none 0 0,.slice none 0 0,.slice none 0 0,.slice none 0 0],.agg #[.int .i64 0,.int .i64 0,.bool false,.int .i64 0],.int .i64 0,.int .i64 0,.slice none 0 0]:Array Value).toList 8 =
  some ([.agg [.nil,.nil,.nil,.nil,.nil,.nil,.nil],.agg [.lit (.int .i64 0),.lit (.int .i64 0),.agg [.lit (.bool false),.lit (.int .i64 0)]],.lit (.int .i64 0),.lit (.int .i64 0),.nil],[],places):=
 ⟨[],by kernel_rfl⟩
set_option maxRecDepth 100000 in
theorem lifted22 (os:Os) (started:os.Started) (H:Type) (enc:TypeId×Value→H) (F:Stop.Interp) :
  ReturnsInHanded {} Tryz.checked os 5 .any ((OpenSpec.ofChange Rows.pairBudgetsSpec).preRow enc Tryz.prog Tryz.f5 Rows.pairBudgetsRow.domain false Rows.pairBudgetsRow.laid) (((OpenSpec.ofChange Rows.pairBudgetsSpec).at F).post enc Tryz.prog Tryz.f5 false true false false):=by
 obtain ⟨places,hx⟩:=reads22 os enc
 refine returnsInHanded_of_row (C:=Tryz.checked) (s:=OpenSpec.ofChange Rows.pairBudgetsSpec) own started (by kernel_rfl) Tryz.func5
  (witness_row_atRef (enc:=enc) (C:=Tryz.checked) false (World.laidAll Tryz.prog os Rows.pairBudgetsRow.laid) _ (World.laidAll_os _ _ _) (by kernel_rfl) (by kernel_rfl) (by kernel_rfl)
   (OpenSpec.preRow_of_cond 8 hx (by kernel_rfl) (λk hk=>by cases hk) (by kernel_rfl) (laidMet_laidAll _ (by kernel_rfl) (by kernel_rfl)))) ?_
 intro W base args ds gs before hval hW _ _ _ hL hS _
 exact zxO H enc W base args ds gs before hval hW hL hS
theorem said22:Rows.PairBudgetsSaid:=
 OpenClaim.holds_of_cond 5 Tryz.f5 rfl rfl rfl rfl rfl rfl rfl ⟨rfl,rfl,rfl,rfl,rfl⟩ rfl rfl rfl rfl rfl (by kernel_rfl) Tryz.func5 closed22
  (of_decide_eq_true (by kernel_rfl)) (by unfold Func.isWrapper;first | (rw [if_pos (by decide +kernel)];kernel_rfl) | (rw [if_neg (by decide +kernel)];exact ⟨rfl,rfl⟩))
  (λos started H enc _ F=>by rw [OpenClaim.pre_eq_preRow];exact lifted22 os started H enc F)
theorem plain22 (f:FuncId) (fn:Func) (hf:Tryz.pinned.checked.prog.funcNamed Rows.pairBudgetsRow.func=some f) (hfn:Tryz.pinned.checked.prog.funcs[f]? = some fn) :
  true=Tryz.pinned.checked.prog.looks []∧∀ (j:Nat) t,fn.params[j]? = some t→Tryz.pinned.checked.prog.wantsStandIn t=false:=by
 obtain rfl:f=5:=Option.some.inj ((show Tryz.prog.funcNamed Rows.pairBudgetsRow.func=some 5 by kernel_rfl).symm.trans hf) |>.symm
 obtain rfl:fn=Tryz.f5:=(Option.some.inj (Tryz.func5.symm.trans hfn)).symm
 refine ⟨by kernel_rfl,λj t ht=>?_⟩
 rw [Tryz.params5] at ht
 have hall:([30,34,3,3,22].all λu=>!Tryz.prog.wantsStandIn u)=true:=by kernel_rfl
 have:=yq.1 hall t (by simpa using Array.mem_of_getElem? ht)
 exact (show Tryz.prog.wantsStandIn t=false by simpa using this)
theorem pairBudgets_holds:Rows.PairBudgetsCardSaid:=
 Claim7.holds_tied_plain_at .later [] _ _ _ _ said22 (λ_ h=>by cases h) (by kernel_rfl) (λ_ h=>by cases h) pairBudgets_row_tie rfl ⟨rfl,rfl⟩ (by kernel_rfl) rfl plain22 (by kernel_rfl)
end
end Go.Proofs.YtipkniadbkndfaaGreatDoor
