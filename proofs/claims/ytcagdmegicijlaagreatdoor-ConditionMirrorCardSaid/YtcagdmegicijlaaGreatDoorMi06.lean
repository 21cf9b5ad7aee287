/- Part of the proof of one law of the seat. -/
import Derived.Test.YtcagdmegicijlaaGreatDoorMi05
set_option linter.unusedVariables false
set_option linter.unusedSectionVars false
set_option linter.unusedSimpArgs false
set_option maxHeartbeats 4000000
namespace Go.Proofs.YtcagdmegicijlaaGreatDoor
open Go Go.RowKit
def leastB4 (x:Int):Bool:=decide (x < -4000000)||decide (4000000<x)
def graphF (K:Nat) (g:Graph):Bool:=(((decide (g.size<1)||decide (6<g.size))||decide (g.first<0))||decide (sub64 (K:Int) (mul64 g.size g.size)<g.first))||((g.least.length:Int) != mul64 g.size g.size)
def zbC (K:Nat) (g:Graph):Bool:=!graphF K g&&!g.least.any leastB4
def caseV (K:Nat) (rows:List Row):Bool:=decide (rows.length≤64)&&rows.all (rowOK K)
def sysP (K:Nat) (R:List Row) (G:List Graph) (cs:List (List Row)):Bool:=(decide (R.length≤1024)&&R.all (rowOK K)&&decide (G.length≤64)&&decide (cs.length≤1024))&&(G.all (zbC K)&&cs.all (caseV K))
structure SysOK (R:List Row) (G:List Graph) (cs:List (List Row)):Prop where
 rows:shortR R
 graphs:G.length<1000000∧∀ g∈G,g.least.length<1000000
 cases:cs.length<1000000∧∀ rows∈cs,shortR rows
theorem system_graph_eq {n K:Nat} {g} (hl:g.least.length<1000000) (hn:1000000≤n):zfr n (K:Int) g=some (zbC K g):=by
 unfold zfr zbC;by_cases h:graphF K g=true
 ·have h':=h;unfold graphF at h';rw [if_pos h',h];rfl
 ·have h':=h;unfold graphF at h';rw [if_neg h',zce (f:=λq0=>zfH n q0) (p:=leastB4) (λx _=>rfl) (by omega) (by omega),ya];simp only [yC] at h;rw [h];rfl
theorem system_Valid_eq {n:Nat} {box:List Range} {R:List Row} {G:List Graph} {cs:List (List Row)} (hg:goodB box=true) (hl:box.length≤100) (hS:SysOK R G cs) (hn:1000000≤n):zbb n ⟨box,R,G,cs⟩=some (sysP box.length R G cs):=by
 unfold zbb;have hrows:∀ (rows:List Row) (k:Int),shortR rows→zdz n ⟨box,R,G,cs⟩ rows k=some (decide ((rows.length:Int)≤k)&&rows.all (rowOK box.length)):=λrows k hr=>by
  unfold zdz;simp only [zfR hg hl hr hn,yj,yr,grd,if_true,yf]
 have hbox:zbO n box []=some true:=by rw [zfR hg hl ⟨by simp,by simp⟩ hn];rfl
 simp only [hbox,ya,interval_Empty_eq hg hl hn,hrows R 1024 hS.rows,yj,yr,grd,if_true,yf,y6,uk];have hloop:loopF (zbb.l1 n ⟨box,R,G,cs⟩) n 0=some (G.all (zbC box.length)&&cs.all (caseV box.length)):=by
  have:=zaj (body:=zbb.l1 n ⟨box,R,G,cs⟩) (l:=G) (n:=n) (st:=λi=>(i:Int)) (zbC box.length) (some false) (some (cs.all (caseV box.length))) (λrec i hi=>?_) (λrec=>?_) (by have:=hS.graphs.1;omega)
  ·rw [show ((0:Nat):Int)=0 from rfl] at this;rw [this];cases G.all (zbC box.length) <;> rfl
  ·simp only [zbb.l1,zk hi,if_true,za hi,ya,system_graph_eq (hS.graphs.2 _ (yg hi)) hn,zb (show i<4611686018427387904 by have:=hS.graphs.1;omega)];cases zbC box.length G[i] <;> simp
  ·simp only [zbb.l1,zad,ye,if_false];rw [zgK (p:=λrows=>!caseV box.length rows) (λx hx=>by
    unfold zfG;rw [hrows x 64 (hS.cases.2 x hx),ya];congr 2;unfold caseV;congr 1;exact decide_eq_decide.2 (by omega)) hS.cases.1 hn,ya]
   simp [List.all_eq_not_any_not]
 have e1:decide ((R.length:Int)≤1024)=decide (R.length≤1024):=decide_eq_decide.2 (by omega);have e2:decide (64<(G.length:Int)) = !decide (G.length≤64):=by rw [← decide_not];exact decide_eq_decide.2 (by omega)
 have e3:decide (1024<(cs.length:Int)) = !decide (cs.length≤1024):=by rw [← decide_not];exact decide_eq_decide.2 (by omega)
 rw [hloop,e1,e2,e3];unfold sysP;generalize decide (R.length≤1024)=a;generalize R.all (rowOK box.length)=b;generalize decide (G.length≤64)=c;generalize decide (cs.length≤1024)=d;cases a <;> cases b <;> cases c <;> cases d <;> rfl
theorem ref18_Valid_eq {n box R G cs} (hg:goodB box=true) (hl:box.length≤100) (hS:SysOK R G cs) (hn:1000000≤n):zag n ⟨box,R,G,cs⟩=some (sysP box.length R G cs):=by
 unfold zag;simp only [ref17_Valid_eq hg hl hS.rows hn,ref17_Empty_eq hg hl hn,yj,yr,grd,if_true,yf,uS];have hgr:∀ i (rec:Int→Option Bool) (hi:i<G.length),zag.l2 n ⟨box,R,G,cs⟩ rec (i:Int)=if zbC box.length G[i]=true then rec ((i+1:Nat):Int) else some false:=λi rec hi=>by
  have hgl:=hS.graphs.2 _ (yg hi);have h3:=zaj (body:=zag.l3 n (i:Int) rec G[i]) (l:=G[i].least) (n:=n) (st:=λj=>(j:Int)) (λx=>!leastB4 x) (some false) (rec (add64 (i:Int) 1)) (λrec' j hj=>?_) (λrec'=>?_) (by omega)
  ·rw [show ((0:Nat):Int)=0 from rfl] at h3;simp only [zag.l2,zk hi,if_true,za hi,ya,h3,zb (show i<4611686018427387904 by have:=hS.graphs.1;omega)];by_cases h:graphF box.length G[i]=true
   ·have h':=h;unfold graphF at h';rw [if_pos h',if_neg (by unfold zbC;rw [h];simp)]
   ·have h':=h;unfold graphF at h';rw [if_neg h'];have e:zbC box.length G[i]=G[i].least.all λx=>!leastB4 x:=by
     unfold zbC;simp only [yC] at h;rw [h,uB,yE,List.all_eq_not_any_not];simp
    rw [e]
  ·simp only [zag.l3,zk hj,if_true,za hj,ya,yj,yr,grd,yf,zb (i:=j) (by omega)];by_cases h:leastB4 G[i].least[j]=true
   ·have h':=h;unfold leastB4 at h';rw [if_pos h',h];rfl
   ·have h':=h;unfold leastB4 at h';simp only [yC] at h;rw [if_neg h',h];rfl
  ·simp [zag.l3]
 have hloop:loopF (zag.l1 n ⟨box,R,G,cs⟩) n 0=some (G.all (zbC box.length)&&cs.all (caseV box.length)):=by
  have:=zaj (body:=zag.l1 n ⟨box,R,G,cs⟩) (l:=cs) (n:=n) (st:=λi=>(i:Int)) (caseV box.length) (some false) (some (G.all (zbC box.length))) (λrec i hi=>?_) (λrec=>?_) (by have:=hS.cases.1;omega)
  ·rw [show ((0:Nat):Int)=0 from rfl] at this;rw [this];cases cs.all (caseV box.length) <;> cases G.all (zbC box.length) <;> rfl
  ·simp only [zag.l1,zk hi,if_true,za hi,ya,ref17_Valid_eq hg hl (hS.cases.2 _ (yg hi)) hn,yj,yr,grd,yf,zb (show i<4611686018427387904 by have:=hS.cases.1;omega)];unfold caseV;by_cases h:cs[i].length≤64
   ·rw [decide_eq_true h,decide_eq_false (by omega),yE,uk];cases cs[i].all (rowOK box.length) <;> rfl
   ·rw [decide_eq_false h,decide_eq_true (show (64:Int)<(cs[i].length:Int) by omega)];rfl
  ·simp only [zag.l1,zad,ye,if_false];have:=zaj (body:=zag.l2 n ⟨box,R,G,cs⟩) (l:=G) (n:=n) (st:=λi=>(i:Int)) (zbC box.length) (some false) (some true) (λrec i hi=>hgr i rec hi) (λrec=>?_) (by have:=hS.graphs.1;omega)
   ·rw [show ((0:Nat):Int)=0 from rfl] at this;rw [this];cases G.all (zbC box.length) <;> rfl
   ·simp [zag.l2]
 have e1:decide (1024<(R.length:Int)) = !decide (R.length≤1024):=by rw [← decide_not];exact decide_eq_decide.2 (by omega)
 have e2:decide (64<(G.length:Int)) = !decide (G.length≤64):=by rw [← decide_not];exact decide_eq_decide.2 (by omega)
 have e3:decide (1024<(cs.length:Int)) = !decide (cs.length≤1024):=by rw [← decide_not];exact decide_eq_decide.2 (by omega)
 rw [hloop,e1,e2,e3];unfold sysP;generalize decide (R.length≤1024)=a;generalize R.all (rowOK box.length)=b;generalize decide (G.length≤64)=c;generalize decide (cs.length≤1024)=d;cases a <;> cases b <;> cases c <;> cases d <;> rfl
theorem changed_eq {n:Nat} {r} {f g:Int→Option Int} {fP:Int→Int} {B:Int} (hf:∀ x,f x=some (fP x)) (hg:g r.bound=some B) (hl:r.terms.length≤1000) (hn:1000000≤n):zQ n r f g=some ⟨r.terms.map λt=>⟨t.cell,fP t.factor⟩,B⟩:=by
 unfold zQ;rw [hg,ya];have:=loopF_map (body:=zQ.l1 n r f B) (l:=r.terms) (n:=n) (st:=λb i=>(b,(i:Int))) (λt=>(⟨t.cell,fP t.factor⟩:Term)) (λb=>some (⟨b,B⟩:Row)) [] (λrec b i hi hb=>?_) (λrec b hb=>?_) (by omega)
 ·simpa using this
 ·simp only [zQ.l1,zk hi,if_true,za hi,ya,hf];rw [zr (by simp at hb;simp;omega),ya,zb (by omega)]
 ·simp [zQ.l1]
theorem same_eq {n:Nat} {r} (hl:r.terms.length≤1000) (hn:1000000≤n):zQ n r (λq0=>zbt n q0) (λq0=>zbt n q0)=some r:=by
 rw [changed_eq (f:=λq0=>zbt n q0) (g:=λq0=>zbt n q0) (fP:=id) (B:=r.bound) (λ_=>rfl) rfl hl hn];simp
theorem graph_tot {n K:Nat} {c} {f:Int→Option Int} (hK:mul64 c.size c.size=(K:Int)) (hK2:K≤36) (hf:∀ x,∃ y,f x=some y) (hn:1000000≤n):∃ g,zO n c f=some g∧g.least.length≤36:=by
 unfold zO;have:=za3 (body:=zO.l1 n c f) (k:=K) (n:=n) (st:=λ(b:List Int) i=>(b,(i:Int))) (λi b=>b.length≤i) (λg:Graph=>g.least.length≤36) (λrec i b hi hI hr=>?_) (λrec b hI=>?_) (by omega) [] (by simp)
 ·simpa using this
 ·obtain ⟨y,hy⟩:=hf (add64 c.first (i:Int));simp only [zO.l1,hK,zcK hi,if_true,hy,ya];rw [zr (by simp;omega),ya,zb (by omega)];exact hr _ (by simp;omega)
 ·simp only [zO.l1,hK,zck (yn K),ye,if_false];exact ⟨_,rfl,by simp;omega⟩
structure ConOK (K:Nat) (c:Constraint):Prop where
 kind:c.kind=0∨c.kind=1
 len:c.row.terms.length≤1000
 sz:c.kind=1→∃ s:Nat,c.size=(s:Int)∧1≤s∧s≤6∧0≤c.first∧c.first+((s*s:Nat):Int)≤(K:Int)
theorem ConOK.mul {K c} (h:ConOK K c) (hk:c.kind=1):∃ k:Nat,mul64 c.size c.size=(k:Int)∧k≤36:=by
 obtain ⟨s,h1,h2,h3,-⟩:=h.sz hk;have h4:s*s≤36:=y0 h3 h3;refine ⟨s*s,?_,h4⟩;rw [h1,zc5 (by rw [← yH];omega) (by rw [← yH];omega)];simp
structure ActOK (a:Action):Prop where
 delta:a.effect.delta.length≤20
 hold:a.effect.hold.length≤10
 terms:∀ r∈a.effect.hold,r.terms.length≤1000
theorem raised_tot {n K a c} (ha:ActOK a) (hc:ConOK K c) (hk:c.kind=1) (hn:1000000≤n):∃ l,zi n a c=some l:=by
 obtain ⟨k,h1,h2⟩:=hc.mul hk;have:=ha.delta;exact ⟨_,zdu h1 (by omega) (by omega) (by omega) (by omega)⟩
theorem change_tot {n a r} (ha:ActOK a) (hr:r.terms.length≤1000) (hn:1000000≤n):∃ x,zq n a r=some x:=by
 have:=ha.delta;exact ⟨_,zdt (by omega) (by omega) (by omega) (by omega)⟩
noncomputable def gr (n:Nat) (c:Constraint) (f:Int→Option Int):Graph:=(zO n c f).getD default
noncomputable def gS (n:Nat) (ef:Bool) (a b:Action) (c:Constraint):List Graph:=
 if (c.kind != 1)=true then [] else
  [gr n c λq0=>zbB n q0]++((if (decide (0<(((zi n a c).getD []).length:Int)))=true then [gr n c λq0=>zm n q0 a] else []) ++
   (if (ef&&decide (0<(((zi n b c).getD default).length:Int)))=true then [gr n c λq0=>zae n q0 b] else []))
noncomputable def finS (n:Nat) (box:List Range) (a b:Action) (R:List Row) (c:Constraint) (G:List Graph):Option (System×Int):=
  jn (λ(v:(List Row)×(List (List Row)))=>
   let b6_150:=v.1
   let c3_3_151:=v.2
   (zbb n (⟨box,b6_150,G,c3_3_151⟩:System)).bind λx267_155=>
   if (!x267_155)=true then
    some ((⟨[],[],[],[]⟩:System),8)
   else
    some ((⟨box,b6_150,G,c3_3_151⟩:System),0)) λk_152=>
  if (c.kind==1)=true then
   (zj n box c a b).bind λx254_153=>
   if ((x254_153.length:Int)==0)=true then
    (app 32 R [(⟨[],(-1)⟩:Row)]).bind λx264_154=>
    k_152 (x264_154,x254_153)
   else
    k_152 (R,x254_153)
  else
   k_152 (R,[])
theorem zfQ {n K:Nat} {c} {f:Int→Option Int} (hc:ConOK K c) (hk:c.kind=1) (hf:∀ x,∃ y,f x=some y) (hn:1000000≤n):zO n c f=some (gr n c f)∧(gr n c f).least.length≤36:=by
 obtain ⟨k,h1,h2⟩:=hc.mul hk;obtain ⟨g,h3,h4⟩:=graph_tot h1 h2 hf hn;unfold gr;rw [h3];exact ⟨rfl,h4⟩
theorem gS_len {n K ef a b c} (ha:ActOK a) (hb:ActOK b) (hc:ConOK K c) (hn:1000000≤n):(gS n ef a b c).length≤3∧∀ g∈gS n ef a b c,g.least.length≤36:=by
 unfold gS;split
 ·simp
 ·rename_i hk;have hk:c.kind=1:=by simpa using hk
  have f3:∀ x,∃ y,zm n x a=some y:=λx=>by
   unfold zm;have:=ha.delta;rw [zal _ (by omega) (by omega)];exact ⟨_,rfl⟩
  have f4:∀ x,∃ y,zae n x b=some y:=λx=>by
   unfold zae;have:=hb.delta;rw [zal _ (by omega) (by omega)];exact ⟨_,rfl⟩
  have g2:=(zfQ (f:=λq0=>zbB n q0) hc hk (λx=>⟨_,rfl⟩) hn).2;have g3:=(zfQ (f:=λq0=>zm n q0 a) hc hk f3 hn).2;have g4:=(zfQ (f:=λq0=>zae n q0 b) hc hk f4 hn).2;constructor
  ·split <;> split <;> simp
  ·intro g hg;simp only [yK,yS] at hg;rcases hg with hg | hg | hg
   ·subst hg;exact g2
   ·split at hg
    ·simp at hg;subst hg;exact g3
    ·simp at hg
   ·split at hg
    ·simp at hg;subst hg;exact g4
    ·simp at hg
theorem gloop_eq {n K m q a b box R c} (ha:ActOK a) (hb:ActOK b) (hc:∀ c∈m.constraints,ConOK K c) (hl:m.constraints.length≤1000) (hn:1000000≤n) :
  loopF (zc.l4 n m q a b box R c.kind c.family c.row.terms c.row.bound c.first c.size) n ([],0)=finS n box a b R c ((List.range m.constraints.length).flatMap λi=>gS n (q.e != q.f) a b (m.constraints.getD i default)):=by
 have:=zcS (body:=zc.l4 n m q a b box R c.kind c.family c.row.terms c.row.bound c.first c.size) (k:=m.constraints.length) (n:=n) (st:=λb i=>(b,(i:Int))) (λi=>gS n (q.e != q.f) a b (m.constraints.getD i default)) (finS n box a b R c) 3 []
  (λi hi=>?_) (λrec b7 i hi hI=>?_) (λrec b7 hI=>?_) (by omega)
 ·simpa using this
 ·have e:m.constraints.getD i default=m.constraints[i]:=by simp [List.getD,hi]
  rw [e];exact (gS_len ha hb (hc _ (yg hi)) hn).1
 ·have e:m.constraints.getD i default=m.constraints[i]:=by simp [List.getD,hi]
  have hci:=hc _ (yg hi);have hI':b7.length≤3000:=by simp at hI;omega
  simp only [zc.l4,zk hi,if_true,jn,za hi,ya,e,zb (i:=i) (by omega)];unfold gS;by_cases hk:(m.constraints[i].kind != 1)=true
  ·rw [if_pos hk,if_pos hk,uh]
  ·rw [if_neg hk,if_neg hk];have hk:m.constraints[i].kind=1:=by simpa using hk
   have f3:∀ x,∃ y,zm n x a=some y:=λx=>by
    unfold zm;have:=ha.delta;rw [zal _ (by omega) (by omega)];exact ⟨_,rfl⟩
   have f4:∀ x,∃ y,zae n x b=some y:=λx=>by
    unfold zae;have:=hb.delta;rw [zal _ (by omega) (by omega)];exact ⟨_,rfl⟩
   obtain ⟨ra,hra⟩:=raised_tot ha hci hk hn;obtain ⟨rb,hrb⟩:=raised_tot hb hci hk hn;rw [(zfQ (f:=λq0=>zbB n q0) hci hk (λx=>⟨_,rfl⟩) hn).1,(zfQ (f:=λq0=>zm n q0 a) hci hk f3 hn).1,(zfQ (f:=λq0=>zae n q0 b) hci hk f4 hn).1,hra,hrb];simp only [ya,yf,yj,yr,grd,if_true];rw [zr (by simp;omega),ya];by_cases h3:(decide (0<(ra.length:Int)))=true
   ·rw [if_pos h3,if_pos h3,zr (by simp;omega),ya];by_cases h4:((q.e != q.f)&&decide (0<(rb.length:Int)))=true
    ·rw [if_pos h4,if_pos h4,zr (by simp;omega),ya];simp only [yL]
    ·rw [if_neg h4,if_neg h4];simp only [yL,uh]
   ·rw [if_neg h3,if_neg h3];by_cases h4:((q.e != q.f)&&decide (0<(rb.length:Int)))=true
    ·rw [if_pos h4,if_pos h4,zr (by simp;omega),ya];simp only [yL,yZ]
    ·rw [if_neg h4,if_neg h4];simp only [uh]
 ·simp only [zc.l4,zad,ye,if_false];rfl
noncomputable def brokenS (n:Nat) (m:Model) (q:Question) (a b:Action) (box:List Range) (R:List Row):Option (System×Int):=
  jn (λ(v:(List Row)×Int×Int×(List Term)×Int×Int×Int)=>
   let b6_84:=v.1
   let c9_0_85:=v.2.1
   let c9_1_86:=v.2.2.1
   let c9_2_87:=v.2.2.2.1
   let c9_3_88:=v.2.2.2.2.1
   let c9_4_89:=v.2.2.2.2.2.1
   let c9_5_90:=v.2.2.2.2.2.2
   loopF (zc.l4 n m q a b box b6_84 c9_0_85 c9_1_86 c9_2_87 c9_3_88 c9_4_89 c9_5_90) n (([]:List Graph),0)) λk_91=>
  if q.target.hold=true then
   (idx a.effect.hold q.target.index).bind λx164_92=>
   (zq n b x164_92).bind λx170_93=>
   (zQ n x164_92 (λq0=>zbp n q0) (λq0=>zaX n q0 x170_93)).bind λx9_94=>
   (app 32 R [x9_94]).bind λx11_95=>
   k_91 (x11_95,0,0,[],0,0,0)
  else
   (idx m.constraints q.target.index).bind λx177_96=>
   if (x177_96.kind==0)=true then
    (zq n a x177_96.row).bind λx188_97=>
    (zq n b x177_96.row).bind λx192_98=>
    (zQ n x177_96.row (λq0=>zbp n q0) (λq0=>zaX n q0 (add64 x188_97 x192_98))).bind λx9_99=>
    (app 32 R [x9_99]).bind λx11_100=>
    k_91 (x11_100,x177_96.kind,x177_96.family,x177_96.row.terms,x177_96.row.bound,x177_96.first,x177_96.size)
   else
    k_91 (R,x177_96.kind,x177_96.family,x177_96.row.terms,x177_96.row.bound,x177_96.first,x177_96.size)
noncomputable def tailS (n:Nat) (m:Model) (q:Question) (a b:Action) (box:List Range) (R:List Row):Option (System×Int):=
  (app 32 [] a.effect.hold).bind λx128_64=>
  jn (λ(v:(List Row))=>
   let b8_65:=v
   loopF (zc.l3 n m q a b box b8_65) n (R,0)) λk_66=>
  if (q.e != q.f)=true then
   (app 32 x128_64 b.effect.hold).bind λx138_67=>
   k_66 x138_67
  else
   k_66 x128_64
def endS (n:Nat) (S:System) (v:Option Bool):Option (System×Int):=v.bind λv=>if (!v)=true then some ((⟨[],[],[],[]⟩:System),8) else some (S,0)
noncomputable def chgN (n:Nat) (a:Action) (r:Row):Int:=(zq n a r).getD 0
noncomputable def kS (n:Nat) (q:Question) (rows:List Int) (a b:Action) (i:Nat) (c:Constraint):Int:=
 if (decide ((i:Int)∈rows)&&(q.target.hold||(q.target.index != (i:Int))))=true then gmax (gmax (gmax 0 (chgN n a c.row)) (chgN n b c.row)) (add64 (chgN n a c.row) (chgN n b c.row)) else gmax (gmax 0 (chgN n a c.row)) (chgN n b c.row)
noncomputable def rowS (n:Nat) (q:Question) (rows:List Int) (a b:Action) (i:Nat) (c:Constraint):List Row:=if (c.kind != 0)=true then [] else [⟨c.row.terms,sub64 c.row.bound (kS n q rows a b i c)⟩]
noncomputable def rowsR (n:Nat) (m:Model) (q:Question) (rows:List Int) (a b:Action):List Row:=(List.range m.constraints.length).flatMap λi=>rowS n q rows a b i (m.constraints.getD i default)
theorem zfK {n a r} (ha:ActOK a) (hr:r.terms.length≤1000) (hn:1000000≤n):zq n a r=some (chgN n a r):=by
 obtain ⟨x,hx⟩:=change_tot ha hr hn;unfold chgN;rw [hx];rfl
theorem rows_loop {n m q rows a b box} (ha:ActOK a) (hb:ActOK b) (hc:∀ c∈m.constraints,ConOK box.length c) (hl:m.constraints.length≤1000) (hr:rows.length≤1000) (hn:1000000≤n) :
  loopF (zc.l2 n m q rows a b box) n ([],0)=tailS n m q a b box (rowsR n m q rows a b):=by
 have:=zcS (body:=zc.l2 n m q rows a b box) (k:=m.constraints.length) (n:=n) (st:=λb i=>(b,(i:Int))) (λi=>rowS n q rows a b i (m.constraints.getD i default)) (tailS n m q a b box) 1 []
  (λi hi=>?_) (λrec b6 i hi hI=>?_) (λrec b6 hI=>?_) (by omega)
 ·simpa [rowsR] using this
 ·unfold rowS;split <;> simp
 ·have e:m.constraints.getD i default=m.constraints[i]:=by simp [List.getD,hi]
  have hci:=hc _ (yg hi);have hI':b6.length≤3000:=by simp at hI;omega
  rw [e];simp only [zc.l2,zk hi,if_true,jn,za hi,ya,zfK ha hci.len hn,zfK hb hci.len hn,zet (show rows.length<1000000 by omega) hn];unfold rowS;by_cases hk:(m.constraints[i].kind != 0)=true
  ·rw [if_pos hk,if_pos hk,uh,zb (by omega)]
  ·rw [if_neg hk,if_neg hk];have hch:=λk:Int=>changed_eq (n:=n) (r:=m.constraints[i].row) (f:=λq0=>zbt n q0) (g:=λq0=>zev n q0 k) (fP:=id) (B:=sub64 m.constraints[i].row.bound k) (λ_=>rfl) rfl hci.len hn
   have hid:(m.constraints[i].row.terms.map λt=>(⟨t.cell,id t.factor⟩:Term))=m.constraints[i].row.terms:=by simp
   simp only [hid] at hch;unfold kS;split <;> (rw [hch,ya,zr (by first | omega | (simp;omega)),ya,zb (by omega)])
 ·simp only [zc.l2,zad,ye,if_false];rfl
def badR (m:Model) (x:Int):Bool:=(decide (x<0)||decide ((m.constraints.length:Int)≤x))||(((idx m.constraints x).getD default).kind != 0)
theorem System_closed {n m q rows a b} (hF:Fuel n) (hS:SmallM m) (hV:ValidM m) (hq:zd3 m q=true) (ha:idx m.actions q.e=some a) (hb:idx m.actions q.f=some b) (hA:ActOK a) (hB:ActOK b) (hc:∀ c∈m.constraints,ConOK (boxM m).length c) (hr:rows.length≤1000) :
  zc n m q rows=if (rows.all λx=>!badR m x)=true then tailS n m q a b (boxM m) (rowsR n m q rows a b) else some (⟨[],[],[],[]⟩,2):=by
 have hn:=hF.big;have hn:1000000≤n:=by omega
 have hcl:=hS.constraints;have hst:zfh n m=some (boxM m):=by
  unfold zfh model_ranges;rw [model_Valid_eq hF hS,zed.2 hV,ya,if_neg (by simp),zgN hF (by have:=hS.sorts;omega) (by have:=hS.tables;omega) (λt ht=>by have:=(hS.tab t ht).2;omega),if_pos hV.lay];rfl
 unfold zc;rw [zga hF hS,zed.2 hV,hq,ya,if_neg (by simp)];have:=zaj (body:=zc.l1 n m q rows) (l:=rows) (n:=n) (st:=λi=>(i:Int)) (λx=>!badR m x) (some (⟨[],[],[],[]⟩,2)) (tailS n m q a b (boxM m) (rowsR n m q rows a b)) (λrec i hi=>?_) (λrec=>?_) (by omega)
 ·simpa using this
 ·simp only [zc.l1,zk hi,if_true,za hi,ya];by_cases h1:(decide (rows[i]<0)||decide ((m.constraints.length:Int)≤rows[i]))=true
  ·have hbad:badR m rows[i]=true:=by unfold badR;rw [h1];rfl
   rw [hbad];simp only [h1,uH,grd,if_true,y6,ye,if_false]
  ·have h2:=h1;simp only [yw,yd,not_or,Int.not_le,Int.not_lt] at h2;obtain ⟨c,hcx⟩:=zbc h2.1 h2.2;simp only [yC] at h1;unfold badR;simp only [h1,hcx,uk,yj,grd,if_true,yf,zb (i:=i) (by omega)];cases c.kind != 0 <;> simp
 ·simp only [zc.l1,zad,ye,if_false,ha,hb,hst,ya];exact rows_loop hA hB hc (by omega) hr hn
theorem Acyclic_tot {n K:Nat} {E:List Bool} (hK:K≤6) (hE:E.length=K*K) (hn:1000000≤n):∃ v,zd n (K:Int) E=some v:=by
 have h36:K*K≤36:=y0 hK hK;have main:∃ v,zd n (K:Int) E=some v∧True:=by
  unfold zd;have:=za3 (body:=zd.l1 n (K:Int) E) (k:=K) (n:=n) (st:=λ(b:List Bool) i=>(b,(i:Int))) (λi b=>b.length=i) (λ_:Bool=>True) (λrec i b hi hI hr=>?_) (λrec b hI=>?_) (by omega) [] rfl
  ·simpa using this
  ·simp only [zd.l1,zcK hi,if_true];rw [zr (by simp;omega),ya,zb (by omega)];exact hr _ (by simp;omega)
  ·simp only [zd.l1,zck (yn K),ye,if_false];have:=za3 (body:=zd.l2 n (K:Int) E) (k:=K) (n:=n) (st:=λ(b:List Bool) i=>(b,(i:Int))) (λi b=>b.length=K) (λ_:Bool=>True) (λrec i b hi hI hr=>?_) (λrec b hI=>?_) (by omega) b hI
   ·simpa using this
   ·simp only [zd.l2,zcK hi,if_true];have:=za3 (body:=zd.l3 n (K:Int) E (i:Int) rec) (k:=K) (n:=n) (st:=λ(b:List Bool) j=>(b,(j:Int))) (λj b=>b.length=K) (λ_:Bool=>True) (λrec2 j b hj hI hr2=>?_) (λrec2 b hI=>?_) (by omega) b hI
    ·simpa using this
    ·simp only [zd.l3,zcK hj,if_true,jn,zb (i:=j) (by omega)];have:=za3 (body:=zd.l4 n (K:Int) E b (j:Int) (λv=>rec2 (v,((j+1:Nat):Int)))) (k:=K) (n:=n) (st:=λ(x:Bool) p=>(x,(p:Int))) (λp x=>True) (λ_:Bool=>True) (λrec3 p x hp _ hr3=>?_) (λrec3 x _=>?_) (by omega) true trivial
     ·simpa using this
     ·have hpair:=zcH hp hj;have e1:mul64 (p:Int) (K:Int)=((p*K:Nat):Int):=by
       unfold mul64;rw [zbK (by rw [← yH];omega) (by rw [← yH];omega)];simp
      simp only [zd.l4,zcK hp,if_true,jn,za (show p<b.length by omega),ya,e1];rw [zcL (by omega),za (show p*K+j<E.length by omega)];simp only [yj,yr,grd,if_true,zb (i:=p) (by omega)];split <;> exact hr3 _ trivial
     ·simp only [zd.l4,zck (yn K),ye,if_false];split
      ·obtain ⟨b',hb1,hb2⟩:=sto_tot (l:=b) (i:=j) (x:=false) (by omega);rw [za (show j<b.length by omega),ya,hb1,ya];exact hr2 b' (by omega)
      ·exact hr2 b hI
    ·simp only [zd.l3,zck (yn K),ye,if_false,zb (i:=i) (by omega)];exact hr b hI
   ·simp only [zd.l2,zck (yn K),ye,if_false];have:=za3 (body:=zd.l5 n (K:Int) b) (k:=K) (n:=n) (st:=λ(_:Unit) i=>(i:Int)) (λi _=>True) (λ_:Bool=>True) (λrec i _ hi _ hr=>?_) (λrec _ _=>?_) (by omega) () trivial
    ·simpa using this
    ·simp only [zd.l5,zcK hi,if_true,za (show i<b.length by omega),ya];split
     ·exact ⟨_,rfl,trivial⟩
     ·rw [zb (by omega)];exact hr () trivial
    ·simp only [zd.l5,zck (yn K),ye,if_false];exact ⟨_,rfl,trivial⟩
 obtain ⟨v,hv,-⟩:=main;exact ⟨v,hv⟩
noncomputable def valN (n:Nat) (r:Row) (x:List Int):Int:=(zaR n r x).getD 0
theorem Value_get {n K r x} (hr:rowOK K r=true) (hl:r.terms.length<1000000) (hx:x.length=K) (hn:1000000≤n):zaR n r x=some (valN n r x):=by
 have hcell:∀ t∈r.terms,0≤t.cell∧t.cell<(K:Int):=λt ht=>by
  simp only [rowOK,yb] at hr;have:=zeN hr.1 (by omega) t ht;exact ⟨this.1,this.2.1⟩
 have main:∃ v,zaR n r x=some v∧True:=by
  unfold zaR;have:=za3 (body:=zaR.l1 n r x) (k:=r.terms.length) (n:=n) (st:=λ(s:Int) i=>(s,(i:Int))) (λi s=>True) (λ_:Int=>True) (λrec i s hi _ h=>?_) (λrec s _=>?_) (by omega) 0 trivial
  ·simpa using this
  ·obtain ⟨c1,c2⟩:=hcell _ (yg hi);obtain ⟨y,hy⟩:=zbc (l:=x) c1 (by omega);simp only [zaR.l1,zk hi,if_true,za hi,ya,hy,zb (i:=i) (by omega)];exact h _ trivial
  ·simp only [zaR.l1,zad,ye,if_false];exact ⟨_,rfl,trivial⟩
 obtain ⟨v,hv,-⟩:=main;unfold valN;rw [hv];rfl
theorem Edges_tot {n K g x} (hg:zbC K g=true) (hx:x.length=K) (hK:K≤1000) (hn:1000000≤n):∃ (s:Nat) (E:List Bool),g.size=(s:Int)∧s≤6∧za6 n g x=some E∧E.length=s*s:=by
 simp only [zbC,graphF,yb,yz,uf,yF,Int.not_lt,bne_eq_false_iff_eq] at hg;obtain ⟨⟨⟨⟨⟨g1,g2⟩,g3⟩,g4⟩,g5⟩,-⟩:=hg;obtain ⟨s,hs⟩:∃ s:Nat,g.size=(s:Int):=⟨g.size.toNat,by omega⟩
 have h36:s*s≤36:=y0 (show s≤6 by omega) (show s≤6 by omega);have em:mul64 g.size g.size=((s*s:Nat):Int):=by
  rw [hs,zc5 (by rw [← yH];omega) (by rw [← yH];omega)];simp
 rw [em,zeJ (by omega) (by omega)] at g4;rw [em] at g5;refine ⟨s,?_⟩;unfold za6;have:=za3 (body:=za6.l1 n g x) (k:=s*s) (n:=n) (st:=λ(b:List Bool) i=>(b,(i:Int))) (λi b=>b.length=i) (λE:List Bool=>E.length=s*s) (λrec i b hi hI h=>?_) (λrec b hI=>?_) (by omega) [] rfl
 ·obtain ⟨E,h1,h2⟩:=this;exact ⟨E,hs,by omega,h1,h2⟩
 ·obtain ⟨y,hy⟩:=zbc (l:=x) (i:=add64 g.first (i:Int)) (by rw [zaq (by omega) (by omega)];omega) (by rw [zaq (by omega) (by omega)];omega);simp only [za6.l1,em,zcK hi,if_true,hy,ya,za (show i<g.least.length by omega)];rw [zr (by simp;omega),ya,zb (by omega)];exact h _ (by simp;omega)
 ·simp only [za6.l1,em,zck (yn _),ye,if_false];exact ⟨b,rfl,hI⟩
noncomputable def acyN (n:Nat) (g:Graph) (x:List Int):Bool:=((za6 n g x).bind λE=>zd n g.size E).getD false
noncomputable def rowF (n:Nat) (x:List Int) (i:Nat) (r:Row):List Int:=if (decide (r.bound<valN n r x))=true then [(i:Int)] else []
noncomputable def rowsF (n:Nat) (x:List Int) (R:List Row):List Int:=(List.range R.length).flatMap λi=>rowF n x i (R.getD i default)
noncomputable def graphsF (n:Nat) (x:List Int) (G:List Graph):List Int:=(List.range G.length).flatMap λi=>if (!acyN n (G.getD i default) x)=true then [(i:Int)] else []
theorem right_eq {n S x K} (hV:zag n S=some true) (hK:S.box.length=K) (hx:x.length=K) (hl:x.length≤1000) (hs:∀ v∈x,-4000000≤v∧v≤4000000) (hn:1000000≤n):zbX n S x=some true:=by
 unfold zbX;rw [hV,ya,if_neg (by simp;omega)];have:=zE (body:=zbX.l1 n x) (len:=x.length) (st:=λi=>(i:Int)) (g:=λ_=>some true) (λrec i hi hr=>?_) (λrec=>?_) n 0 (yp _) (by omega)
 ·simpa using this
 ·obtain ⟨h1,h2⟩:=hs _ (yg hi);simp only [zbX.l1,zk hi,if_true,za hi,ya,yj,yr,grd,yf];rw [if_neg (by simp;omega),zb (by omega),hr]
 ·simp [zbX.l1]
theorem Fails_eq {n box R G cs x} (hS:SysOK R G cs) (hP:sysP box.length R G cs=true) (hr:zbX n ⟨box,R,G,cs⟩ x=some true) (hx:x.length=box.length) (hl:box.length≤1000) (hn:1000000≤n) :
  za7 n ⟨box,R,G,cs⟩ x=some (rowsF n x R,graphsF n x G):=by
 simp only [sysP,yb,yd,yi] at hP;obtain ⟨⟨⟨⟨p1,p2⟩,p3⟩,p4⟩,p5,p6⟩:=hP;unfold za7;rw [hr,ya,if_neg (by simp)];have h2:∀ b:List Int,loopF (za7.l2 n ⟨box,R,G,cs⟩ x b) n ([],0)=some (b,graphsF n x G):=λb=>by
  have:=zcS (body:=za7.l2 n ⟨box,R,G,cs⟩ x b) (k:=G.length) (n:=n) (st:=λl i=>(l,(i:Int))) (λi=>if (!acyN n (G.getD i default) x)=true then [(i:Int)] else []) (λl=>some (b,l)) 1 [] (λi hi=>by split <;> simp) (λrec l i hi hI=>?_) (λrec l hI=>?_) (by omega)
  ·simpa [graphsF] using this
  ·have e:G.getD i default=G[i]:=by simp [List.getD,hi]
   obtain ⟨s,E,s1,s2,s3,s4⟩:=Edges_tot (n:=n) (p5 _ (yg hi)) hx hl hn;obtain ⟨v,hv⟩:=Acyclic_tot (n:=n) s2 s4 hn;rw [← s1] at hv;have ea:acyN n G[i] x=v:=by unfold acyN;rw [s3,ya,hv];rfl
   simp only [za7.l2,zk hi,if_true,jn,za hi,ya,s3,hv,e,ea,zb (i:=i) (by omega)];split
   ·rw [zr (by simp at hI;simp;omega),ya]
   ·rw [uh]
  ·simp only [za7.l2,zad,ye,if_false]
 have:=zcS (body:=za7.l1 n ⟨box,R,G,cs⟩ x) (k:=R.length) (n:=n) (st:=λl i=>(l,(i:Int))) (λi=>rowF n x i (R.getD i default)) (λl=>some (l,graphsF n x G)) 1 [] (λi hi=>by unfold rowF;split <;> simp) (λrec l i hi hI=>?_) (λrec l hI=>?_) (by omega)
 ·simpa [rowsF] using this
 ·have e:R.getD i default=R[i]:=by simp [List.getD,hi]
  have hv:=Value_get (n:=n) (x:=x) (p2 _ (yg hi)) (hS.rows.2 _ (yg hi)) hx hn;simp only [za7.l1,zk hi,if_true,jn,za hi,ya,hv,e,zb (i:=i) (by omega)];unfold rowF;split
  ·rw [zr (by simp at hI;simp;omega),ya]
  ·rw [uh]
 ·simp only [za7.l1,zad,ye,if_false];exact h2 l
inductive Weaker:List Row→List Row→Prop
 | nil:Weaker [] []
 | cons {r s:Row} {R S:List Row}:r.terms=s.terms→r.bound≤s.bound→Weaker R S→Weaker (r::R) (s::S)
theorem chgP_bd {d} (hd:zf9 d):∀ {l:List Term},(∀ t∈l,-1000≤t.factor∧t.factor≤1000)→-(1000000000000*(l.length:Int))≤chgP d l∧chgP d l≤1000000000000*(l.length:Int)
 | [],_=>by simp [chgP]
 | t::l,h=>by
  have ih:=chgP_bd hd (l:=l) λt ht=>h t (by simp [ht])
  obtain ⟨f1,f2⟩:=h t (by simp);obtain ⟨a1,a2⟩:=zcM hd t.cell;have:=mul_bd f1 f2 a1 a2;simp only [chgP,yO];omega
theorem chgN_bd {n a r} (ha:ActOK a) (hd:zf9 a.effect.delta) (ht:∀ t∈r.terms,-1000≤t.factor∧t.factor≤1000) (hl:r.terms.length≤1000) (hn:1000000≤n) : -1000000000000000≤chgN n a r∧chgN n a r≤1000000000000000:=by
 have h1:=ha.delta;unfold chgN;rw [zdt (by omega) (by omega) (by omega) (by omega),change_zero hd ht hl];have:=chgP_bd hd ht;simp only [yf];omega
theorem gmax_ge (x y):x≤gmax x y∧y≤gmax x y:=by unfold gmax;split <;> omega
theorem gmax_le {x y B} (h1:x≤B) (h2:y≤B):gmax x y≤B:=by unfold gmax;split <;> omega
theorem kS_facts {n:Nat} {q} {rows less:List Int} {a b} {i:Nat} {c} (hx : -1000000000000000≤chgN n a c.row∧chgN n a c.row≤1000000000000000) (hy : -1000000000000000≤chgN n b c.row∧chgN n b c.row≤1000000000000000) (hsub:(i:Int)∈less→(i:Int)∈rows) :
  0≤kS n q less a b i c∧kS n q less a b i c≤kS n q rows a b i c∧kS n q rows a b i c≤2000000000000000:=by
 have hs:add64 (chgN n a c.row) (chgN n b c.row)=chgN n a c.row+chgN n b c.row:=zaq (by omega) (by omega);unfold kS;rw [hs];generalize chgN n a c.row=x at *;generalize chgN n b c.row=y at *;have g1:=gmax_ge 0 x;have g2:=gmax_ge (gmax 0 x) y;have g3:=gmax_ge (gmax (gmax 0 x) y) (x+y);have u1:gmax 0 x≤1000000000000000:=gmax_le (by omega) (by omega);have u2:gmax (gmax 0 x) y≤1000000000000000:=gmax_le u1 (by omega);have u3:gmax (gmax (gmax 0 x) y) (x+y)≤2000000000000000:=gmax_le (by omega) (by omega);by_cases h1:(i:Int)∈less
 ·have h2:=hsub h1;simp only [h1,h2,decide_true,yE];split <;> omega
 ·simp only [h1,decide_false,yX,ye,if_false];split <;> omega
theorem rowsR_short {n m q rows a b} (hl:m.constraints.length≤60) (hc:∀ c∈m.constraints,c.row.terms.length≤1000):(rowsR n m q rows a b).length≤60∧∀ r∈rowsR n m q rows a b,r.terms.length≤1000:=by
 unfold rowsR;constructor
 ·have:∀ k,((List.range k).flatMap λi=>rowS n q rows a b i (m.constraints.getD i default)).length≤k:=by
   intro k
   induction k with
   | zero=>simp
   | succ k ih=>
    rw [range_snoc,yI];have:(rowS n q rows a b k (m.constraints.getD k default)).length≤1:=by unfold rowS;split <;> simp
    omega
  have:=this m.constraints.length;omega
 ·intro r hr;obtain ⟨i,hi,hri⟩:=ue.1 hr;have hi:=yJ.1 hi;have e:m.constraints.getD i default=m.constraints[i]:=by simp [List.getD,hi]
  rw [e] at hri;unfold rowS at hri;split at hri
  ·simp at hri
  ·simp at hri;subst hri;exact hc _ (yg hi)
theorem zgy {m} (hS:SmallM m) {a} (ha:a∈m.actions):ActOK a:=by
 obtain ⟨-,h1,h2,-,h4⟩:=hS.act a ha;exact ⟨h1,h2,λr hr=>by have:=h4 r hr;omega⟩
theorem con_ok {m} (hS:SmallM m) (hV:ValidM m) {c} (hc:c∈m.constraints):ConOK (boxM m).length c:=by
 have hl:=hS.con c hc;rcases con_in hS hV hc with ⟨h1,-,-,-⟩ | ⟨s,h1,h2,h3,h4,h5,h6⟩
 ·exact ⟨.inl h1,by omega,λh=>by omega⟩
 ·exact ⟨.inr h1,by omega,λ_=>⟨s,h2,h3,h4,h5,h6⟩⟩
theorem zfL {m} (hV:ValidM m) {c} (hc:c∈m.constraints) (hk:c.kind=0):rowOK (zA m.sorts true m.tables).length c.row=true:=by
 rcases zer hV hc with h | h
 ·simp only [zdi,yb] at h;exact h.2
 ·have:=(acy_size hV h).1;omega
theorem sysOK_of {R X G cs} (hR:R.length≤60∧∀ r∈R,r.terms.length≤1000) (hX:X.length≤30∧∀ r∈X,r.terms.length≤1000) (hG:G.length≤3000∧∀ g∈G,g.least.length≤36) (hc:CasesOK cs):SysOK (R++X) G cs:=by
 refine ⟨⟨by rw [yI];omega,λr hr=>?_⟩,⟨by omega,λg hg=>by have:=hG.2 g hg;omega⟩,⟨by have:=hc.1;omega,λrows hrows=>?_⟩⟩
 ·rcases yK.1 hr with hr | hr
  ·have:=hR.2 r hr;omega
  ·have:=hX.2 r hr;omega
 ·obtain ⟨h1,h2⟩:=hc.2 rows hrows;exact ⟨by omega,λr hr=>by have:=h2 r hr;omega⟩
section
variable (E:Nat→Nat→Bool) (K:Nat)
def fstN (l:List Int):Nat:=(l.headD 0).toNat
def lstN (l:List Int):Nat:=(l.getLastD 0).toNat
def zdI (l:List Int):Bool:=E (lstN l) (fstN l)
def ext1 (l:List Int) (i:Nat):List (List Int):=if (E (lstN l) (fstN l+1+i)&&!decide (((fstN l+1+i:Nat):Int)∈l))=true then [l++[((fstN l+1+i:Nat):Int)]] else []
def ext (l:List Int):List (List Int):=(List.range (K - (fstN l+1))).flatMap (ext1 E l)
def dfs:Nat→List Int→List (List Int)
 | 0,_=>[]
 | d+1,l=>(if zdI E l=true then [l] else [])++(ext E K l).flatMap (dfs d)
def lev:Nat→List (List Int)→List (List Int)
 | 0,ls=>ls
 | r+1,ls=>lev r (ls.flatMap (ext E K))
theorem lev_succ:∀ (r:Nat) (ls:List (List Int)),lev E K (r+1) ls=(lev E K r ls).flatMap (ext E K)
 | 0,_=>rfl
 | r+1,ls=>lev_succ r (ls.flatMap (ext E K))
theorem zgA {α β:Type} (f g:α→List β):∀ l:List α,(l.flatMap λx=>f x++g x).Perm (l.flatMap f++l.flatMap g)
 | []=>by simp
 | x::l=>by
  simp only [ui,yL];refine .append_left _ ?_;exact ((zgA f g l).append_left _).trans (List.perm_append_comm_assoc _ _ _)
theorem flatMap_if {α:Type} (p):∀ l:List α,(l.flatMap λx=>if p x=true then [x] else [])=l.filter p
 | []=>rfl
 | x::l=>by rw [ui,flatMap_if p l,List.filter_cons];split <;> rfl
theorem dfs_perm:∀ (d:Nat) (ls:List (List Int)),(ls.flatMap (dfs E K d)).Perm ((List.range d).flatMap λr=>(lev E K r ls).filter (zdI E))
 | 0,ls=>by
  have:(ls.flatMap (dfs E K 0))=[]:=List.flatMap_eq_nil_iff.2 λ_ _=>rfl
  rw [this];exact .refl _
 | d+1,ls=>by
  have e:ls.flatMap (dfs E K (d+1))=ls.flatMap λl=>(if zdI E l=true then [l] else [])++(ext E K l).flatMap (dfs E K d):=rfl
  rw [e,List.range_succ_eq_map,ui,List.flatMap_map];refine (zgA _ _ ls).trans ?_;rw [flatMap_if];refine .append_left _ ?_;have:=dfs_perm d (ls.flatMap (ext E K));rw [List.flatMap_assoc] at this;exact this
theorem lex_app_same:∀ (l x y:List Int),lexP (l++x) (l++y)=lexP x y
 | [],_,_=>rfl
 | a::l,x,y=>by simp only [ud,lexP];rw [if_neg (by omega),if_neg (by omega)];exact lex_app_same l x y
theorem lex_app_lt:∀ {l m:List Int} (x y:List Int),l.length=m.length→lexP l m<0→lexP (l++x) (m++y)<0
 | [],[],_,_,_,h=>by simp [lexP] at h
 | [],_::_,_,_,h,_=>by simp at h
 | _::_,[],_,_,h,_=>by simp at h
 | a::l,b::m,x,y,hl,h=>by
  simp only [ud,lexP] at h ⊢;split
  ·omega
  ·rename_i h1;rw [if_neg h1] at h;split
   ·rename_i h2;rw [if_pos h2] at h;omega
   ·rename_i h2;rw [if_neg h2] at h;exact lex_app_lt x y (by simpa using hl) h
theorem mem_ext1 {l x i} (h:x∈ext1 E l i):E (lstN l) (fstN l+1+i)=true∧((fstN l+1+i:Nat):Int)∉l∧x=l++[((fstN l+1+i:Nat):Int)]:=by
 unfold ext1 at h;split at h
 ·rename_i hc;simp only [yb,yz,yF] at hc;exact ⟨hc.1,hc.2,by simpa using h⟩
 ·simp at h
theorem mem_ext {l x} (h:x∈ext E K l):∃ i,i<K - (fstN l+1)∧E (lstN l) (fstN l+1+i)=true∧((fstN l+1+i:Nat):Int)∉l∧x=l++[((fstN l+1+i:Nat):Int)]:=by
 obtain ⟨i,hi,hx⟩:=ue.1 h;exact ⟨i,yJ.1 hi,mem_ext1 E hx⟩
theorem ext_pw (l):(ext E K l).Pairwise λx y=>lexP x y<0:=by
 unfold ext;rw [List.pairwise_flatMap];refine ⟨λi _=>?_,List.pairwise_lt_range.imp λ{i j} hij x hx y hy=>?_⟩
 ·unfold ext1;split <;> simp
 ·obtain ⟨-,-,rfl⟩:=mem_ext1 E hx;obtain ⟨-,-,rfl⟩:=mem_ext1 E hy;rw [lex_app_same];simp only [lexP];rw [if_pos (by omega)];omega
theorem lev_pw:∀ (r c:Nat) (ls:List (List Int)),(∀ l∈ls,l.length=c)→(ls.Pairwise λx y=>lexP x y<0)→(∀ l∈lev E K r ls,l.length=c+r)∧(lev E K r ls).Pairwise λx y=>lexP x y<0
 | 0,c,ls,h1,h2=>⟨h1,h2⟩
 | r+1,c,ls,h1,h2=>by
  have:=lev_pw r (c+1) (ls.flatMap (ext E K)) (λx hx=>?_) ?_
  ·exact ⟨λl hl=>by rw [this.1 l hl];omega,this.2⟩
  ·obtain ⟨l,hl,hx⟩:=ue.1 hx;obtain ⟨i,-,-,-,rfl⟩:=mem_ext E K hx;simp [h1 l hl]
  ·rw [List.pairwise_flatMap];refine ⟨λl _=>ext_pw E K l,?_⟩;refine List.Pairwise.imp_of_mem (λ{a b} ha hb hab x hx y hy=>?_) h2;obtain ⟨i,-,-,-,rfl⟩:=mem_ext E K hx;obtain ⟨j,-,-,-,rfl⟩:=mem_ext E K hy;exact lex_app_lt _ _ (by rw [h1 a ha,h1 b hb]) hab
theorem cmpC_lt (x y):cmpC x y<0↔(x.length<y.length∨(x.length=y.length∧lexP x y<0)):=by
 unfold cmpC cmpI;by_cases e:(x.length:Int)<y.length
 ·simp [e];omega
 ·by_cases e2:(y.length:Int)<x.length
  ·simp [e,e2];omega
  ·simp [e,e2];omega
theorem all_pw (d c ls) (h1:∀ l∈ls,l.length=c) (h2:ls.Pairwise λx y=>lexP x y<0):((List.range d).flatMap λr=>(lev E K r ls).filter (zdI E)).Pairwise λx y=>cmpC x y<0:=by
 rw [List.pairwise_flatMap];refine ⟨λr _=>?_,List.pairwise_lt_range.imp λ{i j} hij x hx y hy=>?_⟩
 ·have:=lev_pw E K r c ls h1 h2;refine List.Pairwise.imp_of_mem (λ{a b} ha hb hab=>?_) (this.2.filter (zdI E));rw [cmpC_lt];exact .inr ⟨by rw [this.1 a (List.mem_filter.1 ha).1,this.1 b (List.mem_filter.1 hb).1],hab⟩
 ·have hi:=(lev_pw E K i c ls h1 h2).1 x (List.mem_filter.1 hx).1;have hj:=(lev_pw E K j c ls h1 h2).1 y (List.mem_filter.1 hy).1;rw [cmpC_lt];exact .inl (by omega)
end
theorem perm_uniq {α:Type} {R:α→α→Prop} (hanti:∀ a b,R a b→R b a→a=b):∀ {l m:List α},l.Perm m→l.Pairwise R→m.Pairwise R→l=m
 | [],m,h,_,_=>by simpa using h.length_eq.symm
 | a::l,[],h,_,_=>by simpa using h.length_eq
 | a::l,b::m,h,h1,h2=>by
  have e:a=b:=by
   rw [uC] at h1 h2;have ha:=h.mem_iff.1 (List.mem_cons_self (a:=a) (l:=l));have hb:=h.mem_iff.2 (List.mem_cons_self (a:=b) (l:=m));rcases yM.1 ha with ha | ha
   ·exact ha
   ·rcases yM.1 hb with hb | hb
    ·exact hb.symm
    ·exact hanti _ _ (h1.1 b hb) (h2.1 a ha)
  subst e;rw [perm_uniq hanti ((List.perm_cons a).1 h) (uC.1 h1).2 (uC.1 h2).2]
def ones (K:Nat):List (List Int):=(List.range K).map λ(i:Nat)=>[(i:Int)]
theorem ones_pw (K):(∀ l∈ones K,l.length=1)∧(ones K).Pairwise λx y=>lexP x y<0:=by
 unfold ones;refine ⟨λl hl=>?_,?_⟩
 ·obtain ⟨i,-,rfl⟩:=yN.1 hl;rfl
 ·rw [List.pairwise_map];refine List.pairwise_lt_range.imp λ{i j} hij=>?_
  simp only [lexP];rw [if_pos (by omega)];omega
def cycP (E:Nat→Nat→Bool) (K:Nat):List (List Int):=(List.range K).flatMap λr=>(lev E K r (ones K)).filter (zdI E)
theorem zdv {α β:Type} {f:α→List β} {B:Nat}:∀ {l:List α},(∀ x∈l,(f x).length≤B)→(l.flatMap f).length≤l.length*B
 | [],_=>by simp
 | x::l,h=>by
  have h1:=h x (by simp);have h2:=zdv (l:=l) λy hy=>h y (by simp [hy])
  simp only [ui,yI,yO,uo];omega
theorem ext_len {E:Nat→Nat→Bool} {K:Nat} (hK:K≤6) (l:List Int):(ext E K l).length≤6:=by
 have:=zdv (f:=ext1 E l) (B:=1) (l:=List.range (K - (fstN l+1))) λi _=>by unfold ext1;split <;> simp
 unfold ext;rw [uF] at this;omega
theorem dfs_len {E:Nat→Nat→Bool} {K:Nat} (hK:K≤6):∀ (d:Nat) (l:List Int),(dfs E K d l).length≤7 ^ d
 | 0,_=>by simp [dfs]
 | d+1,l=>by
  have h1:=ext_len (E:=E) hK l;have h2:=zdv (f:=dfs E K d) (B:=7 ^ d) (l:=ext E K l) λx _=>dfs_len hK d x
  have h3:(ext E K l).length*7 ^ d≤6*7 ^ d:=yU _ h1;have h4:1≤7 ^ d:=uR _ _ (by omega);simp only [dfs,yI,uM];have h5:(if zdI E l=true then [l] else []).length≤1:=by split <;> simp
  omega
structure PathL (K:Nat) (l:List Int):Prop where
 nd:l.Nodup
 pos:1≤l.length
 mem:∀ x∈l,0≤x∧x<(K:Int)
theorem PathL.len {K l} (h:PathL K l):l.length≤K:=nodup_le h.nd h.mem
theorem PathL.snoc {K l} (h:PathL K l) {b} (hb:b<K) (hm:(b:Int)∉l):PathL K (l++[(b:Int)]):=by
 refine ⟨?_,by simp,λx hx=>?_⟩
 ·rw [List.nodup_append];exact ⟨h.nd,by simp,λa ha b' hb' e=>by simp at hb';subst hb';subst e;exact hm ha⟩
 ·rcases yK.1 hx with hx | hx
  ·exact h.mem x hx
  ·simp at hx;subst hx;omega
theorem PathL.fst {K l} (h:PathL K l):idx l 0=some ((fstN l:Nat):Int)∧fstN l<K:=by
 cases l with
 | nil=>have:=h.pos;simp at this
 | cons x t=>
  have:=h.mem x (by simp);have e:fstN (x::t)=x.toNat:=rfl;rw [e];refine ⟨?_,by omega⟩;have:idx (x::t) 0=some x:=rfl;rw [this];congr 1;omega
theorem PathL.lst {K l} (h:PathL K l) (h6:K≤6):idx l (sub64 (l.length:Int) 1)=some ((lstN l:Nat):Int)∧lstN l<K:=by
 have hp:=h.pos;have hK:=h.len;have hi:l.length - 1<l.length:=by omega
 have hm:=h.mem _ (yg hi);have e:l.getLastD 0=l[l.length - 1]:=by
  rw [List.getLastD_eq_getLast?,List.getLast?_eq_getElem?,yu hi];rfl
 have e2:lstN l=l[l.length - 1].toNat:=by unfold lstN;rw [e]
 refine ⟨?_,by omega⟩;rw [sub64_1 (by omega) (by omega),za hi,e2];congr 1;omega
theorem visit_eq {n:Nat} {g:DGraph} {K:Nat} (hg:GraphOK g K) (hn:1000000≤n):∀ (d k:Nat) (l:List Int) (out:List (List Int)),PathL K l→K - l.length=d→d<k→out.length≤1000000 - 7 ^ (d+1)→d≤5 →
  zz n g k l out=some (out++dfs (hasP g) K (d+1) l):=by
 intro d
 induction d using Nat.strongRecOn with
 | ind d ih=>
  intro k l out hp hd hk ho hd5;obtain ⟨k,rfl⟩:∃ k',k=k'+1:=⟨k - 1,by omega⟩
  have hK:=hg.le;have hl1:=hp.pos;have hl2:=hp.len;have hp7:7≤7 ^ (d+1):=Nat.le_self_pow (by omega) 7;obtain ⟨e2,hfK⟩:=hp.fst;obtain ⟨e1,hlK⟩:=hp.lst hK;have h7:7 ^ (d+1)=7*7 ^ d:=by rw [uM];omega
  have hone:1≤7 ^ d:=uR _ _ (by omega);have h77:7 ^ (d+1)≤117649:=by
   have:7 ^ (d+1)≤7 ^ 6:=uy (by omega) (by omega);simpa using this
  simp only [zz,e1,e2,ya,has_eq hg hlK hfK];have loop:∀ out1:List (List Int),out1.length≤out.length+1→loopF (zz.l1 n g (zz n g k) l ((lstN l:Nat):Int)) n (add64 ((fstN l:Nat):Int) 1,out1)=some (out1++(ext (hasP g) K l).flatMap (dfs (hasP g) K d)):=by
   intro out1 ho1;rw [zb (by omega)];have:=zcS (body:=zz.l1 n g (zz n g k) l ((lstN l:Nat):Int)) (k:=K - (fstN l+1)) (n:=n) (st:=λ(o:List (List Int)) i=>(((fstN l+1+i:Nat):Int),o)) (λi=>(ext1 (hasP g) l i).flatMap (dfs (hasP g) K d)) some (7 ^ d) out1
    (λi hi=>?_) (λrec o i hi hI=>?_) (λrec o hI=>?_) (by omega)
   ·simp only [ut] at this;rw [this];unfold ext;rw [List.flatMap_assoc]
   ·have h1:=zdv (f:=dfs (hasP g) K d) (B:=7 ^ d) (l:=ext1 (hasP g) l i) λx _=>dfs_len hK d x
    have h2:(ext1 (hasP g) l i).length≤1:=by unfold ext1;split <;> simp
    have h3:(ext1 (hasP g) l i).length*7 ^ d≤1*7 ^ d:=yU _ h2;omega
   ·have hb:fstN l+1+i<K:=by omega
    have hlt:decide (((fstN l+1+i:Nat):Int)<g.size)=true:=by rw [hg.size];simp;omega
    have hnx:add64 ((fstN l+1+i:Nat):Int) 1=((fstN l+1+(i+1):Nat):Int):=by rw [zb (by omega)];rfl
    simp only [zz.l1,hlt,if_true,has_eq hg hlK hb,ya,hnx];unfold ext1;by_cases hh:hasP g (lstN l) (fstN l+1+i)=true
    ·rw [if_pos hh,zet (by omega) hn,ya];by_cases hm:((fstN l+1+i:Nat):Int)∈l
     ·rw [if_pos (by simpa using hm),if_neg (by simp only [hm,decide_true,y6,Bool.and_false];simp)];simp
     ·rw [if_neg (by simpa using hm),zr (by simp;omega),ya,yZ,zr (by simp;omega),ya,if_pos (by simp only [hh,hm,decide_false,uB,uN])];have hp2:=hp.snoc hb hm;have hlen:=hp2.len;simp only [yI,yO,ux] at hlen;have hd1:1≤d:=by omega
      have h6:i*7 ^ d≤5*7 ^ d:=yU _ (by omega);have:=ih (d - 1) (by omega) k (l++[((fstN l+1+i:Nat):Int)]) o hp2 (by simp;omega) (by omega) (by rw [show d - 1+1=d by omega];omega) (by omega);rw [show d - 1+1=d by omega] at this;rw [this,ya];simp
    ·rw [if_neg hh,if_neg (by simp only [yC] at hh;simp [hh])];simp
   ·have hge:decide (((fstN l+1+(K - (fstN l+1)):Nat):Int)<g.size)=false:=by rw [hg.size];simp;omega
    simp only [zz.l1,hge,ye,if_false]
  have hcl:zdI (hasP g) l=hasP g (lstN l) (fstN l):=rfl;simp only [dfs,hcl];by_cases hh:hasP g (lstN l) (fstN l)=true
  ·rw [if_pos hh,if_pos hh,zr (by simp;omega),ya,yZ,zr (by simp;omega),ya,loop _ (by simp),yL]
  ·rw [if_neg hh,if_neg hh,loop _ (by omega),yZ]
theorem cycles_eq {n g K} (hg:GraphOK g K) (hn:1000000≤n):loopF (digraph_cycles.l1 n g) n (0,[])=some ((ones K).flatMap (dfs (hasP g) K K)):=by
 have hK:=hg.le;have hd:7 ^ K≤117649:=by
  have:7 ^ K≤7 ^ 6:=uy (by omega) (by omega);simpa using this
 have:=zcS (body:=digraph_cycles.l1 n g) (k:=K) (n:=n) (st:=λ(o:List (List Int)) i=>((i:Int),o)) (λi=>dfs (hasP g) K K [(i:Int)]) some 117649 []
  (λi hi=>ua (dfs_len hK K _) hd) (λrec o i hi hI=>?_) (λrec o hI=>?_) (by omega)
 ·rw [ones,List.flatMap_map];simpa using this
 ·have hlt:decide ((i:Int)<g.size)=true:=by rw [hg.size];simp;omega
  have h5:i*117649≤5*117649:=yU _ (by omega);have hv:=visit_eq hg hn (K - 1) n [(i:Int)] o ⟨by simp,by simp,by simp;omega⟩ (by simp) (by omega) (by rw [show K - 1+1=K by omega];simp at hI;omega) (by omega);rw [show K - 1+1=K by omega] at hv;simp only [digraph_cycles.l1,hlt,if_true,hv,ya];rw [zb (by omega)]
 ·have hge:decide ((K:Int)<g.size)=false:=by rw [hg.size];simp
  simp only [digraph_cycles.l1,hge,ye,if_false]
theorem mem_dfs {E K}:∀ (d:Nat) {l x:List Int},PathL K l→x∈dfs E K d l→PathL K x
 | 0,_,_,_,h=>by simp [dfs] at h
 | d+1,l,x,hp,h=>by
  simp only [dfs,yK,ue] at h;rcases h with h | ⟨y,hy,hx⟩
  ·split at h
   ·simp at h;subst h;exact hp
   ·simp at h
  ·obtain ⟨i,hi,-,hm,rfl⟩:=mem_ext E K hy;exact mem_dfs d (hp.snoc (by omega) hm) hx
theorem one_path {K i} (hi:i<K):PathL K [(i:Int)]:=⟨by simp,by simp,by simp;omega⟩
theorem digraph_Cycles_eq {n:Nat} {edges:List Bool} {K:Nat} (h1:1≤K) (h6:K≤6) (hl:edges.length=K*K) (hn:1000000≤n):zbN n (K:Int) edges=some (cycP (hasP ⟨(K:Int),edges⟩) K):=by
 have hg:GraphOK ⟨(K:Int),edges⟩ K:=⟨rfl,h6,hl⟩
 have h4:K*K≤36:=y0 h6 h6;have e:mul64 (K:Int) (K:Int)=((K*K:Nat):Int):=by
  unfold mul64;rw [zbK (by rw [← yH];omega) (by rw [← yH];omega)];simp
 have hopen:zdB n (K:Int) edges=some (⟨(K:Int),edges⟩,true):=by
  unfold zdB;rw [e,hl];simp;omega
 have hd:7 ^ K≤117649:=by
  have:7 ^ K≤7 ^ 6:=uy (by omega) (by omega);simpa using this
 unfold zbN;rw [hopen,ya,if_neg (by simp),cycles_eq hg hn,ya];have hmem:∀ x∈(ones K).flatMap (dfs (hasP ⟨(K:Int),edges⟩) K K),PathL K x:=λx hx=>by
  obtain ⟨l,hl,hx⟩:=ue.1 hx;obtain ⟨i,hi,rfl⟩:=yN.1 hl;exact mem_dfs K (one_path (yJ.1 hi)) hx
 have hlen:((ones K).flatMap (dfs (hasP ⟨(K:Int),edges⟩) K K)).length≤6*117649:=by
  have:=zdv (f:=dfs (hasP ⟨(K:Int),edges⟩) K K) (B:=117649) (l:=ones K) λx _=>ua (dfs_len h6 K x) hd
  have e:(ones K).length=K:=by simp [ones]
  rw [e] at this;exact ua this (yU _ h6)
 obtain ⟨s1,s2⟩:=sortO_of (f:=zcj n) (c:=cmpC) (l:=(ones K).flatMap (dfs (hasP ⟨(K:Int),edges⟩) K K)) (λx hx y _=>compare_eq (by have:=(hmem x hx).len;omega) hn) (λx=>by have:=zgg x x;omega) (λ_ _ _=>cmpC_trans) (λ_ _ _=>cmpC_ntrans) (by omega);rw [s1];refine congrArg some ?_;have hp:=sortF_perm s2;have hs:=sortF_sorted s2;refine perm_uniq (R:=λx y=>¬ cmpC y x<0) (λa b h1 h2=>?_) (hp.trans (dfs_perm _ K K (ones K))) ?_ ?_
 ·have:=zgg a b;exact cmpC_zero (by omega)
 ·refine List.Pairwise.imp_of_mem (λ{a b} ha hb hab=>?_) hs;have ha':=hmem a (hp.mem_iff.1 ha);have hb':=hmem b (hp.mem_iff.1 hb);rw [compare_eq (by have:=hb'.len;omega) hn] at hab;exact hab
 ·refine (all_pw _ K K 1 (ones K) (ones_pw K).1 (ones_pw K).2).imp λ{a b} h=>?_
  have:=zgg a b;omega
theorem loopF_app2 {γ δ S R:Type} {body:(S→Option R)→S→Option R} {k n:Nat} {st:List γ→List δ→Nat→S} (g:Nat→List γ) (h:Nat→List δ) (fin:List γ→List δ→Option R) (B:Nat) (b0:List γ) (c0:List δ) (hB:∀ i,i<k→(g i).length≤B) (hC:∀ i,i<k→(h i).length≤B)
  (step:∀ rec (b:List γ) (c:List δ) i,i<k→b.length≤b0.length+i*B→c.length≤c0.length+i*B→body rec (st b c i)=rec (st (b++g i) (c++h i) (i+1))) (done:∀ rec (b:List γ) (c:List δ),b.length≤b0.length+k*B→c.length≤c0.length+k*B→body rec (st b c k)=fin b c) (hn:k<n) :
  loopF body n (st b0 c0 0)=fin (b0++(List.range k).flatMap g) (c0++(List.range k).flatMap h):=by
 have:=zbo (σ:=List γ×List δ) (body:=body) (len:=k) (st:=λs i=>st s.1 s.2 i) (g:=λi s=>fin (s.1++(List.range' i (k - i)).flatMap g) (s.2++(List.range' i (k - i)).flatMap h)) (λi s=>s.1.length≤b0.length+i*B∧s.2.length≤c0.length+i*B) (λrec i s hi hI hr=>?_) (λrec s hI=>?_) n 0 (b0,c0) (yp _) (by omega) (by simp)
 ·simpa [List.range_eq_range'] using this
 ·have h1:=hB i hi;have h2:=hC i hi;rw [step rec s.1 s.2 i hi hI.1 hI.2,hr (s.1++g i,s.2++h i) ⟨by simp only [yI];rw [uo];omega,by simp only [yI];rw [uo];omega⟩];have:List.range' i (k - i)=i::List.range' (i+1) (k - (i+1)):=by rw [show k - i=(k - (i+1))+1 by omega,List.range'_succ]
  rw [this,ui,ui,yL,yL]
 ·rw [done rec s.1 s.2 hI.1 hI.2];simp
theorem ref19_has_eq {n l v} (hl:l.length<1000000) (hn:1000000≤n):zcX n l v=some (decide (v∈l)):=by
 unfold zcX;have:=zaj (body:=zcX.l1 n l v) (l:=l) (n:=n) (st:=λi=>(i:Int)) (λx=>!(x==v)) (some true) (some false) (λrec i hi=>?_) (λrec=>?_) (by omega)
 ·rw [show loopF (zcX.l1 n l v) n 0=loopF (zcX.l1 n l v) n ((0:Nat):Int) from rfl,this];by_cases hm:v∈l
  ·rw [if_neg (by simp only [yi,yz,um];exact λh=>h v hm rfl)];simp [hm]
  ·rw [if_pos (by simp only [yi,yz,um];exact λx hx e=>hm (e▸hx))];simp [hm]
 ·simp only [zcX.l1,zk hi,if_true,za hi,ya];rw [zb (i:=i) (by omega)];cases l[i]==v <;> simp
 ·simp only [zcX.l1,zad,ye,if_false]
theorem ref19_with_eq {n l v} (hl:l.length<1000000) (hn:1000000≤n):zdE n l v=some (l++[v]):=by
 unfold zdE;have:=loopF_map (body:=zdE.l1 n l v) (l:=l) (n:=n) (st:=λb i=>(b,(i:Int))) (λx:Int=>x) (λb=>some (b++[v])) [] (λrec b i hi hb=>?_) (λrec b hb=>?_) (by omega)
 ·simpa using this
 ·simp only [zdE.l1,zk hi,if_true,za hi,ya];rw [zr (by simp at hb;simp;omega),ya,zb (by omega)]
 ·simp only [zdE.l1,zad,ye,if_false];rw [zr (by simp at hb;simp;omega)];rfl
theorem edgeP_eq {edges:List Bool} {K a b:Nat} (hg:GraphOK ⟨(K:Int),edges⟩ K) (ha:a<K) (hb:b<K):idx edges (add64 (mul64 (a:Int) (K:Int)) (b:Int))=some (hasP ⟨(K:Int),edges⟩ a b):=by
 have:=has_eq (n:=0) hg ha hb;unfold za8 at this;simpa using this
theorem lev_path {E K}:∀ (r:Nat) {ls:List (List Int)},(∀ l∈ls,PathL K l)→∀ l∈lev E K r ls,PathL K l
 | 0,_,h=>h
 | r+1,ls,h=>lev_path r λx hx=>by
  obtain ⟨l,hl,hx⟩:=ue.1 hx;obtain ⟨i,hi,-,hm,rfl⟩:=mem_ext E K hx;exact (h l hl).snoc (by omega) hm
theorem lev_len {E K} (h6:K≤6):∀ (r:Nat) (ls:List (List Int)),(lev E K r ls).length≤ls.length*7 ^ r
 | 0,ls=>by simp [lev]
 | r+1,ls=>by
  have h1:=lev_len (E:=E) h6 r (ls.flatMap (ext E K));have h2:=zdv (f:=ext E K) (B:=6) (l:=ls) λx _=>ext_len h6 x
  have h3:(ls.flatMap (ext E K)).length*7 ^ r≤ls.length*7*7 ^ r:=yU _ (by omega);rw [uM,Nat.mul_comm (7 ^ r) 7,← Nat.mul_assoc];exact ua h1 h3
theorem ones_path {K}:∀ l∈ones K,PathL K l:=λl hl=>by
 obtain ⟨i,hi,rfl⟩:=yN.1 hl;exact one_path (yJ.1 hi)
theorem filter_range {α:Type} (p:α→Bool) (l:List α) (d:α):(List.range l.length).flatMap (λi=>if p (l.getD i d)=true then [l.getD i d] else [])=l.filter p:=by
 rw [← flatMap_if p l];have e:l=(List.range l.length).map λi=>l.getD i d:=by
  refine uO (by simp) λi h1 h2=>?_
  simp [yq,yu h1]
 conv=>rhs;rw [e]
 rw [List.flatMap_map]
theorem flat_range {α β:Type} (f:α→List β) (l:List α) (d:α):(List.range l.length).flatMap (λi=>f (l.getD i d))=l.flatMap f:=by
 have e:l=(List.range l.length).map λi=>l.getD i d:=by
  refine uO (by simp) λi h1 h2=>?_
  simp [yq,yu h1]
 conv=>rhs;rw [e]
 rw [List.flatMap_map]
theorem ref19_round {n:Nat} {edges:List Bool} {K:Nat} (h6:K≤6) (hl:edges.length=K*K) (hn:1000000≤n) {ls out:List (List Int)} {r:Int} {rec:List (List Int)×List (List Int)×Int→Option (List (List Int))} (hp:∀ l∈ls,PathL K l) (hlen:ls.length≤800000) (ho:out.length≤100000000) :
  loopF (zC.l3 n (K:Int) edges ls r rec) n (out,([]:List (List Int)),0)=rec (out++ls.filter (zdI (hasP ⟨(K:Int),edges⟩)),ls.flatMap (ext (hasP ⟨(K:Int),edges⟩) K),add64 r 1):=by
 have hg:GraphOK ⟨(K:Int),edges⟩ K:=⟨rfl,h6,hl⟩
 have:=loopF_app2 (body:=zC.l3 n (K:Int) edges ls r rec) (k:=ls.length) (n:=n) (st:=λb c i=>(b,c,(i:Int))) (λi=>if zdI (hasP ⟨(K:Int),edges⟩) (ls.getD i [])=true then [ls.getD i []] else []) (λi=>ext (hasP ⟨(K:Int),edges⟩) K (ls.getD i []))
  (λb c=>rec (b,c,add64 r 1)) 6 out [] (λi _=>by split <;> simp) (λi _=>ext_len h6 _) (λrec2 b c i hi hb hc=>?_) (λrec2 b c hb hc=>?_) (by omega)
 ·rw [filter_range,flat_range] at this;simpa using this
 ·have e:ls.getD i []=ls[i]:=by simp [yq,hi]
  have hpl:=hp _ (yg hi);obtain ⟨e2,hfK⟩:=hpl.fst;obtain ⟨e1,hlK⟩:=hpl.lst h6;have hlK6:=hpl.len;rw [e];have inner:∀ b1:List (List Int),loopF (zC.l4 n (K:Int) edges ls (i:Int) rec2 ((lstN ls[i]:Nat):Int) b1) n (c,add64 ((fstN ls[i]:Nat):Int) 1)=rec2 (b1,c++ext (hasP ⟨(K:Int),edges⟩) K ls[i],((i+1:Nat):Int)):=by
   intro b1;rw [zb (by omega)];have:=zcS (body:=zC.l4 n (K:Int) edges ls (i:Int) rec2 ((lstN ls[i]:Nat):Int) b1) (k:=K - (fstN ls[i]+1)) (n:=n) (st:=λ(o:List (List Int)) j=>(o,((fstN ls[i]+1+j:Nat):Int))) (λj=>ext1 (hasP ⟨(K:Int),edges⟩) ls[i] j) (λo=>rec2 (b1,o,add64 (i:Int) 1)) 1 c
    (λj _=>by unfold ext1;split <;> simp) (λrec3 o j hj hI=>?_) (λrec3 o hI=>?_) (by omega)
   ·simp only [ut] at this;rw [this,zb (i:=i) (by omega)];rfl
   ·have hb:fstN ls[i]+1+j<K:=by omega
    have hlt:decide (((fstN ls[i]+1+j:Nat):Int)<(K:Int))=true:=by simp;omega
    have hnx:add64 ((fstN ls[i]+1+j:Nat):Int) 1=((fstN ls[i]+1+(j+1):Nat):Int):=by rw [zb (by omega)];rfl
    simp only [zC.l4,hlt,if_true,jn,edgeP_eq hg hlK hb,za hi,ya,yj,yf,ref19_has_eq (show ls[i].length<1000000 by omega) hn,ref19_with_eq (show ls[i].length<1000000 by omega) hn,yr,grd,hnx];unfold ext1;split
    ·rw [zr (by simp at hI hc;simp;omega),ya]
    ·simp
   ·have hge:decide (((fstN ls[i]+1+(K - (fstN ls[i]+1)):Nat):Int)<(K:Int))=false:=by simp;omega
    simp only [zC.l4,hge,ye,if_false]
  have hcl:zdI (hasP ⟨(K:Int),edges⟩) ls[i]=hasP ⟨(K:Int),edges⟩ (lstN ls[i]) (fstN ls[i]):=rfl;simp only [zC.l3,zk hi,if_true,jn,za hi,ya,e1,e2,edgeP_eq hg hlK hfK,hcl];split
  ·rw [zr (by simp;omega),ya,inner]
  ·rw [inner,uh]
 ·simp only [zC.l3,zad,ye,if_false]
theorem ref19_Cycles_eq {n:Nat} {edges:List Bool} {K:Nat} (h1:1≤K) (h6:K≤6) (hl:edges.length=K*K) (hn:1000000≤n):zC n (K:Int) edges=some (cycP (hasP ⟨(K:Int),edges⟩) K):=by
 have h4:K*K≤36:=y0 h6 h6;have e:mul64 (K:Int) (K:Int)=((K*K:Nat):Int):=by
  unfold mul64;rw [zbK (by rw [← yH];omega) (by rw [← yH];omega)];simp
 have hv:ref19_Valid n (K:Int) edges=some true:=by
  unfold ref19_Valid;rw [e,hl];simp;omega
 unfold zC;rw [hv,ya,if_neg (by simp)];have hones:(ones K).length=K:=by simp [ones]
 have rounds:loopF (zC.l2 n (K:Int) edges) n (([]:List (List Int)),ones K,0)=some (cycP (hasP ⟨(K:Int),edges⟩) K):=by
  have:=zbo (σ:=List (List Int)×List (List Int)) (body:=zC.l2 n (K:Int) edges) (len:=K) (st:=λs i=>(s.1,s.2,(i:Int))) (g:=λ_ _=>some (cycP (hasP ⟨(K:Int),edges⟩) K))
   (λi s=>s.1=(List.range i).flatMap (λr=>(lev (hasP ⟨(K:Int),edges⟩) K r (ones K)).filter (zdI (hasP ⟨(K:Int),edges⟩)))∧s.2=lev (hasP ⟨(K:Int),edges⟩) K i (ones K)∧s.1.length≤i*800000) (λrec i s hi hI hr=>?_) (λrec s hI=>?_) n 0 ([],ones K) (yp _) (by omega) ⟨rfl,rfl,by simp⟩
  ·exact this
  ·obtain ⟨s1,s2⟩:=s;obtain ⟨i1,i2,i3⟩:=hI;simp only at i1 i2 i3;have hlen:s2.length≤800000:=by
    have:=lev_len (E:=hasP ⟨(K:Int),edges⟩) h6 i (ones K);rw [hones] at this;have h7:7 ^ i≤7 ^ 5:=uy (by omega) (by omega);have h8:K*7 ^ i≤6*7 ^ 5:=y0 h6 h7;rw [i2];simp only [Nat.reducePow,Nat.reduceMul] at h8;omega
   have hpath:∀ l∈s2,PathL K l:=by rw [i2];exact lev_path i ones_path
   simp only [zC.l2,zcK hi,if_true];rw [ref19_round h6 hl hn hpath hlen (by omega),zb (by omega)];refine hr (_,_) ⟨?_,?_,?_⟩
   ·simp only;rw [uA,List.flatMap_append,← i1,i2];simp
   ·rw [lev_succ,← i2];rfl
   ·simp only [yI];have:=List.length_filter_le (zdI (hasP ⟨(K:Int),edges⟩)) s2;rw [uo];omega
  ·obtain ⟨s1,s2⟩:=s;obtain ⟨i1,-,-⟩:=hI;simp only at i1;simp only [zC.l2,zck (yn K),ye,if_false];rw [i1];rfl
 have:=zcS (body:=zC.l1 n (K:Int) edges) (k:=K) (n:=n) (st:=λ(b:List (List Int)) i=>(b,(i:Int))) (λi=>[[(i:Int)]]) (λb=>loopF (zC.l2 n (K:Int) edges) n (([]:List (List Int)),b,0)) 1 []
  (λi _=>by simp) (λrec b i hi hb=>?_) (λrec b hb=>?_) (by omega)
 ·have eo:(List.range K).flatMap (λi:Nat=>[[(i:Int)]])=ones K:=by
   unfold ones;rw [List.map_eq_flatMap]
  rw [eo,yZ,rounds] at this;exact this
 ·simp only [zC.l1,zcK hi,if_true];rw [zr (by simp at hb;simp;omega),ya,zb (by omega)]
 ·simp only [zC.l1,zck (yn K),ye,if_false]
theorem add64_assoc (a b c):add64 (add64 a b) c=add64 a (add64 b c):=by
 simp only [add64,w64,IntKind.wrap_i64];omega
theorem low_bound (x y):add64 (add64 (-1) x) y=sub64 (add64 x y) 1:=by
 simp only [add64,sub64,w64,IntKind.wrap_i64];omega
structure SameA (a:Action):Prop where
 add:∀ c,addP c a.effect.delta 0=zg a.effect.delta c
 len:a.effect.delta.length≤20
theorem SameA.Add {n a} (h:SameA a) (hn:1000000≤n) (c):zbI n a.effect c=some (zg a.effect.delta c):=by
 have:=h.len;rw [ref22_Add_eq c (by omega) (by omega),h.add]
theorem SameA.added {n a} (h:SameA a) (hn:1000000≤n) (c):zG n a c=some (zg a.effect.delta c):=by
 have:=h.len;exact zal c (by omega) (by omega)
theorem loopF_cyc {S R:Type} {body:(S→Option R)→S→Option R} {k n:Nat} {st:List Row→Bool→Bool→Nat→S} (Rr:Nat→Row) (p q:Nat→Bool) (fin:List Row→Bool→Bool→Option R)
  (step:∀ rec rows x y i,i<k→rows.length≤i→body rec (st rows x y i)=rec (st (rows++[Rr i]) (x||p i) (y||q i) (i+1))) (done:∀ rec rows x y,rows.length≤k→body rec (st rows x y k)=fin rows x y) (hn:k<n) :
  loopF body n (st [] false false 0)=fin ((List.range k).map Rr) ((List.range k).any p) ((List.range k).any q):=by
 have:=zbo (σ:=List Row×Bool×Bool) (body:=body) (len:=k) (st:=λs i=>st s.1 s.2.1 s.2.2 i) (g:=λ_ _=>fin ((List.range k).map Rr) ((List.range k).any p) ((List.range k).any q)) (λi s=>s=((List.range i).map Rr,(List.range i).any p,(List.range i).any q)) (λrec i s hi hI hr=>?_) (λrec s hI=>?_) n 0 ([],false,false) (yp _) (by omega) rfl
 ·exact this
 ·subst hI;rw [step rec _ _ _ i hi (by simp)];refine hr (_,_,_) ?_;simp only [uA,ul,List.any_append,yP,List.map_nil,uQ,List.any_nil,uS];cases (List.range i).any p <;> cases (List.range i).any q <;> rfl
 ·subst hI;rw [done rec _ _ _ (by simp)]
def zbd (c:Constraint) (cyc:List Int) (i:Nat):Int:=add64 c.first (add64 (mul64 (cyc.getD i 0) c.size) (cyc.getD ((i+1) % cyc.length) 0))
def edgeRow (A B:Int→Int) (c:Constraint) (cyc:List Int) (i:Nat):Row:=⟨[⟨zbd c cyc i,-1⟩],sub64 (add64 (A (zbd c cyc i)) (B (zbd c cyc i))) 1⟩
def zdd (A B:Int→Int) (c:Constraint) (cyc:List Int):List (List Row):=
 if ((List.range cyc.length).any (λi=>decide (0<A (zbd c cyc i)))&&(List.range cyc.length).any (λi=>decide (0<B (zbd c cyc i))))=true then [(List.range cyc.length).map (edgeRow A B c cyc)] else []
def zfd (A B:Int→Int) (box:List Range) (c:Constraint) (K:Nat):List (List Row):=
 (cycP (hasP ⟨(K:Int),(List.range (K*K)).map λi:Nat=>decide (1≤add64 ((idx box (add64 c.first (i:Int))).getD default).hi (add64 (A (add64 c.first (i:Int))) (B (add64 c.first (i:Int)))))⟩) K).flatMap (zdd A B c)
theorem cyc_next {K cyc} (hp:PathL K cyc) (h6:K≤6) {i} (hi:i<cyc.length):∃ r:Nat,rem64 (add64 (i:Int) 1) (cyc.length:Int)=some (r:Int)∧r<cyc.length∧r=(i+1) % cyc.length:=by
 have:=hp.len;rw [zb (by omega)];refine ⟨(i+1) % cyc.length,?_,Nat.mod_lt _ (by omega),rfl⟩;unfold rem64;rw [if_neg (by omega)];congr 1
theorem getD_at {l:List Int} {i:Nat} (hi:i<l.length):l.getD i 0=l[i]:=by simp [yq,hi]
section
variable {n:Nat} {c:Constraint} {a b:Action} {K:Nat} (ha:SameA a) (hb:SameA b) (h6:K≤6) (hn:1000000≤n)
include ha hb h6 hn
theorem cases3_eq {cyc:List Int} {b1:List (List Row)} {k:List (List Row)→Option (List (List Row))} (hp:PathL K cyc) (hb1:b1.length≤1000000) :
  loopF (zj.l3 n c a b b1 k cyc) n (([]:List Row),false,false,0)=k (b1++zdd (zg a.effect.delta) (zg b.effect.delta) c cyc):=by
 have hlen:=hp.len;have:=loopF_cyc (body:=zj.l3 n c a b b1 k cyc) (k:=cyc.length) (n:=n) (st:=λrows x y i=>(rows,x,y,(i:Int))) (edgeRow (zg a.effect.delta) (zg b.effect.delta) c cyc) (λi=>decide (0<zg a.effect.delta (zbd c cyc i))) (λi=>decide (0<zg b.effect.delta (zbd c cyc i)))
  (λrows x y=>if (x&&y)=true then k (b1++[rows]) else k b1) (λrec rows x y i hi hr=>?_) (λrec rows x y hr=>?_) (by omega)
 ·unfold zdd;refine this.trans ?_;split
  ·rfl
  ·rw [uh]
 ·obtain ⟨r,hr1,hr2,hr3⟩:=cyc_next hp h6 hi;have hcell:add64 c.first (add64 (mul64 cyc[i] c.size) cyc[r])=zbd c cyc i:=by
   unfold zbd;rw [getD_at hi,← hr3,getD_at hr2]
  have h1:zaU n (add64 (mul64 cyc[i] c.size) cyc[r]) a c b=some (add64 (zg a.effect.delta (zbd c cyc i)) (zg b.effect.delta (zbd c cyc i))):=by
   unfold zaU;rw [hcell,ha.added hn,ya,hb.added hn,ya]
  simp only [zj.l3,zk hi,if_true,za hi,ya,hr1,za hr2,hcell,ha.added hn,hb.added hn,h1,yj,yf,yr,grd];rw [zr (by simp;omega),ya,zb (by omega)];rfl
 ·simp only [zj.l3,zad,ye,if_false];split
  ·rw [zr (by simp;omega),ya]
  ·rfl
theorem rcases3_eq {cs:List (List Int)} {j:Nat} (hj:j<cs.length) {b1:List (List Row)} {k:List (List Row)→Option (List (List Row))} (hp:PathL K cs[j]) (hb1:b1.length≤1000000) :
  loopF (zaE.l3 n c a.effect b.effect cs b1 (j:Int) k) n (([]:List Row),false,false,0)=k (b1++zdd (zg a.effect.delta) (zg b.effect.delta) c cs[j]):=by
 have hlen:=hp.len;have:=loopF_cyc (body:=zaE.l3 n c a.effect b.effect cs b1 (j:Int) k) (k:=cs[j].length) (n:=n) (st:=λrows x y i=>(rows,x,y,(i:Int))) (edgeRow (zg a.effect.delta) (zg b.effect.delta) c cs[j]) (λi=>decide (0<zg a.effect.delta (zbd c cs[j] i))) (λi=>decide (0<zg b.effect.delta (zbd c cs[j] i)))
  (λrows x y=>if (x&&y)=true then k (b1++[rows]) else k b1) (λrec rows x y i hi hr=>?_) (λrec rows x y hr=>?_) (by omega)
 ·unfold zdd;refine this.trans ?_;split
  ·rfl
  ·rw [uh]
 ·obtain ⟨r,hr1,hr2,hr3⟩:=cyc_next hp h6 hi;have hcell:add64 (add64 c.first (mul64 cs[j][i] c.size)) cs[j][r]=zbd c cs[j] i:=by
   rw [add64_assoc];unfold zbd;rw [getD_at hi,← hr3,getD_at hr2]
  simp only [zaE.l3,za hj,zk hi,if_true,za hi,ya,hr1,za hr2,hcell,ha.Add hn,hb.Add hn,yj,yf,yr,grd,low_bound];rw [zr (by simp;omega),ya,zb (by omega)];rfl
 ·simp only [zaE.l3,za hj,ya,zad,ye,if_false];split
  ·rw [zr (by simp;omega),ya]
  ·rfl
theorem cases_both {box:List Range} (hs:c.size=(K:Int)) (h1:1≤K) (h0:0≤c.first) (hbx:c.first+((K*K:Nat):Int)≤(box.length:Int)) (hbl:box.length≤1000) :
  zj n box c a b=some (zfd (zg a.effect.delta) (zg b.effect.delta) box c K)∧zaE n box c a.effect b.effect=some (zfd (zg a.effect.delta) (zg b.effect.delta) box c K):=by
 have h4:K*K≤36:=y0 h6 h6;have em:mul64 c.size c.size=((K*K:Nat):Int):=by
  rw [hs,zc5 (by rw [← yH];omega) (by rw [← yH];omega)];simp
 have hmk:mkl 1 (mul64 c.size c.size) false=some (List.replicate (K*K) false):=by
  rw [em];unfold mkl;rw [if_pos (by omega),yt]
 obtain ⟨V,hV⟩:∃ V:Nat→Bool,V=λi:Nat=>decide (1≤add64 ((idx box (add64 c.first (i:Int))).getD default).hi (add64 (zg a.effect.delta (add64 c.first (i:Int))) (zg b.effect.delta (add64 c.first (i:Int))))):=⟨_,rfl⟩
 obtain ⟨edges,hE⟩:∃ edges,edges=(List.range (K*K)).map V:=⟨_,rfl⟩
 have hEl:edges.length=K*K:=by rw [hE];simp
 have hbox:∀ i,i<K*K→∃ w,idx box (add64 c.first (i:Int))=some w:=λi hi=>zbc (by rw [zaq (by omega) (by omega)];omega) (by rw [zaq (by omega) (by omega)];omega)
 have hcyc:zbN n (K:Int) edges=some (cycP (hasP ⟨(K:Int),edges⟩) K):=digraph_Cycles_eq h1 h6 hEl hn;have hrcyc:zC n (K:Int) edges=some (cycP (hasP ⟨(K:Int),edges⟩) K):=ref19_Cycles_eq h1 h6 hEl hn;obtain ⟨cyc,hcy⟩:∃ cyc,cyc=cycP (hasP ⟨(K:Int),edges⟩) K:=⟨_,rfl⟩
 have hcl:cyc.length≤900000:=by
  obtain ⟨r,r1,r2,-⟩:=Cycles_tot (n:=n) (size:=(K:Int)) (edges:=edges) rfl h1 h6 hEl hn;rw [hcyc] at r1;rw [hcy];cases r1;exact r2
 have hcp:∀ l∈cyc,PathL K l:=λl hl=>by
  rw [hcy] at hl;obtain ⟨r,-,hl⟩:=ue.1 hl;exact lev_path r ones_path l (List.mem_filter.1 hl).1
 have hres:zfd (zg a.effect.delta) (zg b.effect.delta) box c K=cyc.flatMap (zdd (zg a.effect.delta) (zg b.effect.delta) c):=by
  unfold zfd;rw [hcy,hE,hV]
 rw [← hcy] at hcyc hrcyc;rw [hres];have hgl:∀ x:List Int,(zdd (zg a.effect.delta) (zg b.effect.delta) c x).length≤1:=λx=>by unfold zdd;split <;> simp
 constructor
 ·unfold zj;rw [hmk,ya];have:=zE (body:=zj.l1 n box c a b (List.replicate (K*K) false)) (len:=K*K) (st:=λi=>((List.range i).map V++List.replicate (K*K - i) false,(i:Int))) (g:=λ_=>some (cyc.flatMap (zdd (zg a.effect.delta) (zg b.effect.delta) c))) (λrec i hi hr=>?_) (λrec=>?_) n 0 (yp _) (by omega)
  ·simpa using this
  ·have hlt:decide ((i:Int)<((List.replicate (K*K) false).length:Int))=true:=by simp;omega
   obtain ⟨w,hw⟩:=hbox i hi;have hz:zaU n (i:Int) a c b=some (add64 (zg a.effect.delta (add64 c.first (i:Int))) (zg b.effect.delta (add64 c.first (i:Int)))):=by
    unfold zaU;rw [ha.added hn,ya,hb.added hn,ya]
   have hvi:V i=decide (1≤add64 w.hi (add64 (zg a.effect.delta (add64 c.first (i:Int))) (zg b.effect.delta (add64 c.first (i:Int))))):=by rw [hV];simp only [hw,yf]
   have hin:i<((List.range i).map V++List.replicate (K*K - i) false).length:=by simp;omega
   have hst:sto ((List.range i).map V++List.replicate (K*K - i) false) (i:Int) (V i)=some ((List.range (i+1)).map V++List.replicate (K*K - (i+1)) false):=by
    unfold sto;rw [if_pos ⟨by omega,by omega⟩,yt];congr 1;rw [List.set_append_right _ _ (by simp),show K*K - i=(K*K - (i+1))+1 by omega,List.replicate_succ];simp [uA]
   simp only [zj.l1,hlt,if_true,hw,ya,hz,za hin];rw [← hvi,hst,ya,zb (by omega)];exact hr
  ·have hge:decide (((K*K:Nat):Int)<((List.replicate (K*K) false).length:Int))=false:=by simp
   have e0:(List.range (K*K)).map V++List.replicate (K*K - K*K) false=edges:=by rw [hE];simp
   simp only [zj.l1,hge,ye,if_false,e0];rw [hs,hcyc,ya];have:=zcS (body:=zj.l2 n c a b cyc) (k:=cyc.length) (n:=n) (st:=λ(s:List (List Row)) i=>(s,(i:Int))) (λi=>zdd (zg a.effect.delta) (zg b.effect.delta) c (cyc.getD i [])) some 1 [] (λi _=>hgl _) (λrec s i hi hI=>?_) (λrec s hI=>?_) (by omega)
   ·rw [flat_range] at this;simpa using this
   ·have e:cyc.getD i []=cyc[i]:=by simp [yq,hi]
    rw [e];simp only [zj.l2,zk hi,if_true,jn,za hi,ya];rw [cases3_eq ha hb h6 hn (hcp _ (yg hi)) (by simp at hI;omega),zb (by omega)]
   ·simp only [zj.l2,zad,ye,if_false]
 ·unfold zaE;have:=zcS (body:=zaE.l1 n box c a.effect b.effect) (k:=K*K) (n:=n) (st:=λ(s:List Bool) i=>(s,(i:Int))) (λi=>[V i]) (λs=>(zC n c.size s).bind λx59_21=>loopF (zaE.l2 n c a.effect b.effect x59_21) n (([]:List (List Row)),0)) 1 [] (λi _=>by simp) (λrec s i hi hI=>?_) (λrec s hI=>?_) (by omega)
  ·have e0:(List.range (K*K)).flatMap (λi=>[V i])=edges:=by rw [hE,List.map_eq_flatMap]
   rw [e0,yZ,hs,hrcyc,ya] at this;refine this.trans ?_;have:=zcS (body:=zaE.l2 n c a.effect b.effect cyc) (k:=cyc.length) (n:=n) (st:=λ(s:List (List Row)) i=>(s,(i:Int))) (λi=>zdd (zg a.effect.delta) (zg b.effect.delta) c (cyc.getD i [])) some 1 [] (λi _=>hgl _) (λrec s i hi hI=>?_) (λrec s hI=>?_) (by omega)
   ·rw [flat_range] at this;simpa using this
   ·have e:cyc.getD i []=cyc[i]:=by simp [yq,hi]
    rw [e];simp only [zaE.l2,zk hi,if_true,jn];rw [rcases3_eq ha hb h6 hn hi (hcp _ (yg hi)) (by simp at hI;omega),zb (by omega)]
   ·simp only [zaE.l2,zad,ye,if_false]
  ·have hlt:decide ((i:Int)<mul64 c.size c.size)=true:=by rw [em];simp;omega
   obtain ⟨w,hw⟩:=hbox i hi;have hvi:V i=decide (1≤add64 (add64 w.hi (zg a.effect.delta (add64 c.first (i:Int)))) (zg b.effect.delta (add64 c.first (i:Int)))):=by rw [hV,add64_assoc];simp only [hw,yf]
   simp only [zaE.l1,hlt,if_true,hw,ya,ha.Add hn,hb.Add hn];rw [← hvi,zr (by simp at hI;simp;omega),ya,zb (by omega)]
  ·have hge:decide (((K*K:Nat):Int)<mul64 c.size c.size)=false:=by rw [em];simp
   simp only [zaE.l1,hge,ye,if_false]
end

theorem zfp {n m} (hn:4294967296≤n) (hS:SmallM m) (hV:ValidM m) {a} (ha:a∈m.actions):SameA a:=
 ⟨((good_of_valid hn hS hV).acts a ha).2.2.1,by have:=(zgy hS ha).delta;omega⟩
section
variable {E:Nat→Nat→Bool} {K:Nat}
theorem anyR_iff {p}:∀ {k i:Nat},anyR p i k=true↔∃ j,i≤j∧j<i+k∧p j=true
 | 0,i=>by simp [anyR];omega
 | k+1,i=>by
  simp only [anyR,yw,anyR_iff (k:=k) (i:=i+1)];constructor
  ·rintro (h | ⟨j,h1,h2,h3⟩)
   ·exact ⟨i,yn _,by omega,h⟩
   ·exact ⟨j,by omega,by omega,h3⟩
  ·rintro ⟨j,h1,h2,h3⟩;by_cases e:i=j
   ·subst e;exact .inl h3
   ·exact .inr ⟨j,by omega,by omega,h3⟩
theorem lev_flat:∀ (r:Nat) (ls:List (List Int)),lev E K r ls=ls.flatMap λl=>lev E K r [l]
 | 0,ls=>by simp [lev]
 | r+1,ls=>by
  have e:∀ l,lev E K (r+1) [l]=(ext E K l).flatMap λx=>lev E K r [x]:=λl=>by
   have:lev E K (r+1) [l]=lev E K r (ext E K l):=by simp [lev]
   rw [this,lev_flat r]
  simp only [e];rw [lev,lev_flat r,List.flatMap_assoc]
theorem fstN_snoc {l x} (h:l≠[]):fstN (l++[x])=fstN l:=by
 cases l with
 | nil=>exact absurd rfl h
 | cons a t=>rfl
theorem lstN_snoc {l:List Int} {x:Nat}:lstN (l++[(x:Int)])=x:=by simp [lstN]
theorem zd8 {l x}:x∈ext E K l↔∃ j,fstN l+1≤j∧j<K∧E (lstN l) j=true∧(j:Int)∉l∧x=l++[(j:Int)]:=by
 constructor
 ·intro h;obtain ⟨i,h1,h2,h3,h4⟩:=mem_ext E K h;exact ⟨fstN l+1+i,by omega,by omega,h2,h3,h4⟩
 ·rintro ⟨j,h1,h2,h3,h4,rfl⟩;refine ue.2 ⟨j - (fstN l+1),yJ.2 (by omega),?_⟩;have e:fstN l+1+(j - (fstN l+1))=j:=by omega
  unfold ext1;rw [e,if_pos (by simp [h3,h4])];simp
theorem neP_lev:∀ (d:Nat) (path:List Int) (first last:Nat),path≠[]→fstN path=first→lstN path=last →
  (neP E K d path first last=true↔∃ x∈lev E K d [path],zdI E x=true)
 | 0,path,first,last,_,h1,h2=>by
  subst h1 h2;simp [neP,lev,zdI]
 | d+1,path,first,last,h0,h1,h2=>by
  subst h1 h2;have e:lev E K (d+1) [path]=lev E K d (ext E K path):=by simp [lev]
  rw [e,lev_flat,neP,anyR_iff];simp only [ue];constructor
  ·rintro ⟨j,j1,j2,j3⟩;simp only [yb,yz,uf,yF,Bool.not_eq_false'] at j3;obtain ⟨⟨j3,j4⟩,j5⟩:=j3;obtain ⟨x,x1,x2⟩:=(neP_lev d (path++[(j:Int)]) (fstN path) j (by simp) (fstN_snoc h0) lstN_snoc).1 j5;exact ⟨x,⟨_,zd8.2 ⟨j,j1,by omega,j4,j3,rfl⟩,x1⟩,x2⟩
  ·rintro ⟨x,⟨y,y1,y2⟩,x2⟩;obtain ⟨j,j1,j2,j3,j4,rfl⟩:=zd8.1 y1;refine ⟨j,j1,by omega,?_⟩;simp only [yb,yz,uf,yF,Bool.not_eq_false'];exact ⟨⟨j4,j3⟩,(neP_lev d (path++[(j:Int)]) (fstN path) j (by simp) (fstN_snoc h0) lstN_snoc).2 ⟨x,y2,x2⟩⟩
theorem zgm {x}:x∈cycP E K↔∃ r,r<K∧x∈lev E K r (ones K)∧zdI E x=true:=by
 simp only [cycP,ue,yJ,List.mem_filter]
theorem zgL:acycE E K=true↔∀ x,x∉cycP E K:=by
 unfold acycE;rw [allR_iff];constructor
 ·intro h x hx;obtain ⟨r,r1,r2,r3⟩:=zgm.1 hx;rw [lev_flat] at r2;obtain ⟨l,l1,l2⟩:=ue.1 r2;obtain ⟨a,a1,rfl⟩:=yN.1 l1;have:=zgM.1 (h (r+1) (by omega) (by omega)) a (yJ.1 a1);rw [Nat.add_sub_cancel,(neP_lev r [(a:Int)] a a (by simp) (by simp [fstN]) (by simp [lstN])).2 ⟨x,l2,r3⟩] at this;cases this
 ·intro h len h1 h2;refine zgM.2 λa ha=>?_
  cases hn:neP E K (len - 1) [(a:Int)] a a with
  | false=>rfl
  | true=>
   obtain ⟨x,x1,x2⟩:=(neP_lev (len - 1) [(a:Int)] a a (by simp) (by simp [fstN]) (by simp [lstN])).1 hn;refine absurd (zgm.2 ⟨len - 1,by omega,?_,x2⟩) (h x);rw [lev_flat];exact ue.2 ⟨_,yN.2 ⟨a,yJ.2 ha,rfl⟩,x1⟩
def vtx (l:List Int) (i:Nat):Nat:=(l.getD i 0).toNat
def Chn (E:Nat→Nat→Bool) (l:List Int):Prop:=∀ j,j+1<l.length→E (vtx l j) (vtx l (j+1))=true
theorem vtx_left {l x i} (h:i<l.length):vtx (l++[x]) i=vtx l i:=by
 unfold vtx;rw [yq,yq,ym h]
theorem vtx_right {l:List Int} {x:Nat}:vtx (l++[(x:Int)]) l.length=x:=by
 unfold vtx;rw [yq];simp
theorem lstN_vtx {l}:lstN l=vtx l (l.length - 1):=by
 unfold lstN vtx;rw [List.getLastD_eq_getLast?,List.getLast?_eq_getElem?,yq]
theorem fstN_vtx {l}:fstN l=vtx l 0:=by
 cases l <;> rfl
theorem Chn.snoc {l:List Int} {b:Nat} (h0:l≠[]):Chn E (l++[(b:Int)])↔Chn E l∧E (lstN l) b=true:=by
 have hp:0<l.length:=List.length_pos_iff.2 h0;constructor
 ·intro h;refine ⟨λj hj=>?_,?_⟩
  ·have:=h j (by simp;omega)
   rwa [vtx_left (by omega),vtx_left (by omega)] at this
  ·have:=h (l.length - 1) (by simp;omega)
   rwa [vtx_left (by omega),show l.length - 1+1=l.length by omega,vtx_right,← lstN_vtx] at this
 ·rintro ⟨h1,h2⟩ j hj;simp only [yI,yO,ux] at hj;by_cases e:j+1<l.length
  ·rw [vtx_left (by omega),vtx_left (by omega)];exact h1 j e
  ·have e2:j+1=l.length:=by omega
   rw [vtx_left (by omega),e2,vtx_right,show j=l.length - 1 by omega,← lstN_vtx];exact h2
theorem lev_ne:∀ {r:Nat} {x:List Int},x∈lev E K r (ones K)→x≠[]:=λ{r x} h e=>by
 have:=(lev_path r ones_path x h).pos;rw [e] at this;simp at this
theorem lev_chn:∀ {r:Nat} {x:List Int},x∈lev E K r (ones K)→Chn E x
 | 0,x,h=>by
  obtain ⟨a,-,rfl⟩:=yN.1 h;intro j hj;simp at hj
 | r+1,x,h=>by
  rw [lev_succ] at h;obtain ⟨y,y1,y2⟩:=ue.1 h;obtain ⟨j,-,-,j3,-,rfl⟩:=zd8.1 y2;exact (Chn.snoc (lev_ne y1)).2 ⟨lev_chn y1,j3⟩
theorem lev_with {F}:∀ {r:Nat} {x:List Int},x∈lev F K r (ones K)→Chn E x→x∈lev E K r (ones K)
 | 0,x,h,_=>h
 | r+1,x,h,hc=>by
  rw [lev_succ] at h ⊢;obtain ⟨y,y1,y2⟩:=ue.1 h;obtain ⟨j,j1,j2,-,j4,rfl⟩:=zd8.1 y2;obtain ⟨c1,c2⟩:=(Chn.snoc (lev_ne y1)).1 hc;exact ue.2 ⟨y,lev_with y1 c1,zd8.2 ⟨j,j1,j2,c2,j4,rfl⟩⟩
def CycIn (E:Nat→Nat→Bool) (l:List Int):Prop:=∀ i,i<l.length→E (vtx l i) (vtx l ((i+1) % l.length))=true
theorem cycIn_iff {l} (h0:l≠[]):CycIn E l↔Chn E l∧zdI E l=true:=by
 have hp:0<l.length:=List.length_pos_iff.2 h0;unfold zdI;rw [lstN_vtx,fstN_vtx];constructor
 ·intro h;refine ⟨λj hj=>?_,?_⟩
  ·have:=h j (by omega)
   rwa [Nat.mod_eq_of_lt hj] at this
  ·have:=h (l.length - 1) (by omega)
   rwa [show l.length - 1+1=l.length by omega,Nat.mod_self] at this
 ·rintro ⟨h1,h2⟩ i hi;by_cases e:i+1<l.length
  ·rw [Nat.mod_eq_of_lt e];exact h1 i e
  ·have e2:i+1=l.length:=by omega
   rw [e2,Nat.mod_self,show i=l.length - 1 by omega];exact h2
theorem cycP_in {x} (h:x∈cycP E K):CycIn E x:=by
 obtain ⟨r,-,r2,r3⟩:=zgm.1 h;exact (cycIn_iff (lev_ne r2)).2 ⟨lev_chn r2,r3⟩
theorem cycP_with {F x} (h:x∈cycP F K) (hc:CycIn E x):x∈cycP E K:=by
 obtain ⟨r,r1,r2,-⟩:=zgm.1 h;obtain ⟨c1,c2⟩:=(cycIn_iff (lev_ne r2)).1 hc;exact zgm.2 ⟨r,r1,lev_with r2 c1,c2⟩
theorem zem {x} (h:x∈cycP E K):PathL K x:=by
 obtain ⟨r,-,r2,-⟩:=zgm.1 h;exact lev_path r ones_path x r2
theorem CycIn.mono {F x} (hp:PathL K x) (h:∀ a b,a<K→b<K→E a b=true→F a b=true) (hc:CycIn E x):CycIn F x:=λi hi=>by
 have hm:∀ j,j<x.length→vtx x j<K:=λj hj=>by
  have:=hp.mem x[j] (yg hj);unfold vtx;rw [yq,yu hj];simp only [yf];omega
 exact h _ _ (hm i hi) (hm _ (Nat.mod_lt _ (by omega))) (hc i hi)
structure Walk (E:Nat→Nat→Bool) (K p:Nat) (f:Nat→Nat):Prop where
 per:∀ i,f (i+p)=f i
 lt:∀ i,f i<K
 edge:∀ i,E (f i) (f (i+1))=true
theorem argmin (f:Nat→Nat):∀ p,0<p→∃ t,t<p∧∀ j,j<p→f t≤f j
  | 0,h=>by omega
  | 1, _ => ⟨0, by omega, fun j hj => by have : j = 0 := by omega
                                         subst this;exact yn _⟩
  | p+2,_=>by
    obtain ⟨t,t1,t2⟩:=argmin f (p+1) (by omega);by_cases h:f t≤f (p+1)
    · exact ⟨t,by omega,λj hj=>by
        by_cases e:j=p+1
        · subst e;exact h
        · exact t2 j (by omega)⟩
    · exact ⟨p+1,by omega,λj hj=>by
        by_cases e:j=p+1
        · subst e;exact yn _
        · have:=t2 j (by omega);omega⟩
theorem per_mod {f:Nat→Nat} {p:Nat} (h:∀ i,f (i+p)=f i):∀ i,f i=f (i % p):=λi=>by
 have:∀ k i,f (i+k*p)=f i:=λk=>by
  induction k with
  | zero=>intro i;simp
  | succ k ih=>intro i;rw [uo,← Nat.add_assoc,h,ih]
 have e:=this (i / p) (i % p);rw [Nat.mul_comm,Nat.mod_add_div] at e;exact e
theorem walk_list {p:Nat} {f:Nat→Nat} (hp:0<p) (hw:Walk E K p f) (hinj:∀ i j,i<p→j<p→f i=f j→i=j):∃ t,t<p∧((List.range p).map λi=>((f (t+i):Nat):Int))∈cycP E K:=by
 obtain ⟨t,t1,t2⟩:=argmin f p hp;have gmod:=per_mod hw.per;have ginj:∀ i j,i<p→j<p→f (t+i)=f (t+j)→i=j:=λi j hi hj e=>by
  rw [gmod (t+i),gmod (t+j)] at e;have:=hinj _ _ (Nat.mod_lt _ hp) (Nat.mod_lt _ hp) e;have h1:(t+i) % p=if t+i<p then t+i else t+i - p:=by
   split
   ·rw [Nat.mod_eq_of_lt ‹_›]
   ·rw [Nat.mod_eq_sub_mod (by omega),Nat.mod_eq_of_lt (by omega)]
  have h2:(t+j) % p=if t+j<p then t+j else t+j - p:=by
   split
   ·rw [Nat.mod_eq_of_lt ‹_›]
   ·rw [Nat.mod_eq_sub_mod (by omega),Nat.mod_eq_of_lt (by omega)]
  rw [h1,h2] at this;split at this <;> split at this <;> omega
 have gmin:∀ j,0<j→j<p→f t+1≤f (t+j):=λj h0 hj=>by
  have h1:f t≤f (t+j):=by rw [gmod (t+j)];exact t2 _ (Nat.mod_lt _ hp)
  have h2:f t≠f (t+j):=λe=>by
   have:=ginj 0 j (by omega) hj (by simpa using e);omega
  omega
 have hlev:∀ r,r<p→((List.range (r+1)).map λi=>((f (t+i):Nat):Int))∈lev E K r (ones K):=λr=>by
  induction r with
  | zero=>
   intro _;exact yN.2 ⟨f t,yJ.2 (hw.lt t),by simp [uA]⟩
  | succ r ih2=>
   intro hr;have hy:=ih2 (by omega);rw [lev_succ];refine ue.2 ⟨_,hy,zd8.2 ⟨f (t+(r+1)),?_,hw.lt _,?_,?_,?_⟩⟩
   ·have:fstN ((List.range (r+1)).map λi=>((f (t+i):Nat):Int))=f t:=by
     rw [List.range_succ_eq_map];simp [fstN]
    rw [this];exact gmin _ (by omega) hr
   ·have:lstN ((List.range (r+1)).map λi=>((f (t+i):Nat):Int))=f (t+r):=by
     rw [uA,ul];exact lstN_snoc
    rw [this];exact hw.edge (t+r)
   ·intro hm;obtain ⟨i,i1,i2⟩:=yN.1 hm;have:=ginj i (r+1) (by have:=yJ.1 i1;omega) hr (by omega);have:=yJ.1 i1;omega
   ·rw [uA (n:=r+1),ul];rfl
 have hl:=hlev (p - 1) (by omega);rw [show p - 1+1=p by omega] at hl;have hpl:=(lev_path (p - 1) ones_path _ hl).len;simp only [y9,uF] at hpl;refine ⟨t,t1,zgm.2 ⟨p - 1,by omega,hl,?_⟩⟩;unfold zdI;have h1:lstN ((List.range p).map λi=>((f (t+i):Nat):Int))=f (t+(p - 1)):=by
  obtain ⟨k,rfl⟩:∃ k,p=k+1:=⟨p - 1,by omega⟩
  rw [uA,ul];exact lstN_snoc
 have h2:fstN ((List.range p).map λi=>((f (t+i):Nat):Int))=f t:=by
  obtain ⟨k,rfl⟩:∃ k,p=k+1:=⟨p - 1,by omega⟩
  rw [List.range_succ_eq_map];simp [fstN]
 rw [h1,h2];have:=hw.edge (t+(p - 1))
 rwa [show t+(p - 1)+1=t+p by omega,hw.per] at this
theorem walk_cyc:∀ (p:Nat),0<p→∀ f,Walk E K p f→∃ x,x∈cycP E K:=by
 intro p
 induction p using Nat.strongRecOn with
 | ind p ih=>
  intro hp f hw;by_cases hd:∃ i j,i<j∧j<p∧f i=f j
  ·obtain ⟨i,j,h1,h2,h3⟩:=hd;have hd0:0<j - i:=by omega
   refine ih (j - i) (by omega) hd0 (λn=>f (i+n % (j - i))) ⟨λn=>by simp,λn=>hw.lt _,λn=>?_⟩;have hlt:=Nat.mod_lt n hd0;by_cases e:n % (j - i)+1<j - i
   ·have:(n+1) % (j - i)=n % (j - i)+1:=by
     rw [Nat.add_mod,Nat.mod_eq_of_lt (a:=1) (by omega),Nat.mod_eq_of_lt e]
    rw [this];exact hw.edge _
   ·have e2:n % (j - i)+1=j - i:=by omega
    have:(n+1) % (j - i)=0:=by
     by_cases e1:j - i=1
     ·rw [e1,Nat.mod_one]
     ·rw [Nat.add_mod,Nat.mod_eq_of_lt (a:=1) (by omega),e2,Nat.mod_self]
    rw [this,ut,h3];have:=hw.edge (i+n % (j - i))
    rwa [show i+n % (j - i)+1=j by omega] at this
  ·have hinj:∀ i j,i<p→j<p→f i=f j→i=j:=λi j hi hj e=>by
    rcases Nat.lt_trichotomy i j with h | h | h
    ·exact absurd ⟨i,j,h,hj,e⟩ hd
    ·exact h
    ·exact absurd ⟨j,i,h,hi,e.symm⟩ hd
   obtain ⟨t,-,ht⟩:=walk_list hp hw hinj;exact ⟨_,ht⟩
def Before (E:Nat→Nat→Bool) (K:Nat) (S:Nat→Prop):Prop:=∀ a,a<K→S a→∃ b,b<K∧S b∧E b a=true
theorem before_cyc {S} (hS:Before E K S) {s} (hs:s<K) (hs2:S s):∃ x,x∈cycP E K:=by
 have hch:∀ a:{a:Nat // a<K∧S a},∃ b:{a:Nat // a<K∧S a},E b.1 a.1=true:=λa=>by
  obtain ⟨b,b1,b2,b3⟩:=hS a.1 a.2.1 a.2.2;exact ⟨⟨b,b1,b2⟩,b3⟩
 let pred:=λa=>Classical.choose (hch a)
 have hpred:∀ a,E (pred a).1 a.1=true:=λa=>Classical.choose_spec (hch a)
 let u:Nat→{a:Nat // a<K∧S a}:=λn=>Nat.rec ⟨s,hs,hs2⟩ (λ_ a=>pred a) n
 have hu:∀ n,E (u (n+1)).1 (u n).1=true:=λn=>hpred (u n)
 have hrep:∃ i j,i<j∧j≤K∧(u i).1=(u j).1:=by
  refine Classical.byContradiction λhno=>?_
  have hnd:((List.range (K+1)).map λi=>((u i).1:Int)).Nodup:=by
   unfold List.Nodup;rw [List.pairwise_map];refine List.Pairwise.imp_of_mem (λ{a b} ha hb hab e=>?_) List.pairwise_lt_range;exact hno ⟨a,b,hab,by have:=yJ.1 hb;omega,by omega⟩
  have:=nodup_le (K:=K) hnd λx hx=>by
   obtain ⟨i,-,rfl⟩:=yN.1 hx;have:=(u i).2.1;omega
  simp only [y9,uF] at this;omega
 obtain ⟨i,j,h1,h2,h3⟩:=hrep;have hd0:0<j - i:=by omega
 refine walk_cyc (j - i) hd0 (λn=>(u (j - n % (j - i))).1) ⟨λn=>by simp,λn=>(u _).2.1,λn=>?_⟩;have hlt:=Nat.mod_lt n hd0;by_cases e:n % (j - i)+1<j - i
 ·have:(n+1) % (j - i)=n % (j - i)+1:=by
   rw [Nat.add_mod,Nat.mod_eq_of_lt (a:=1) (by omega),Nat.mod_eq_of_lt e]
  simp only [this];have:=hu (j - (n % (j - i)+1))
  rwa [show j - (n % (j - i)+1)+1=j - n % (j - i) by omega] at this
 ·have e2:n % (j - i)+1=j - i:=by omega
  have:(n+1) % (j - i)=0:=by
   by_cases e1:j - i=1
   ·rw [e1,Nat.mod_one]
   ·rw [Nat.add_mod,Nat.mod_eq_of_lt (a:=1) (by omega),e2,Nat.mod_self]
  simp only [this,Nat.sub_zero];rw [← h3];have:=hu i
  rwa [show i+1=j - n % (j - i) by omega] at this
theorem cyc_before {x} (h:x∈cycP E K):Before E K (λa=>(a:Int)∈x)∧∃ a,a<K∧(a:Int)∈x:=by
 have hp:=zem h;have hc:=cycP_in h;have hpos:=hp.pos;have hv:∀ j,j<x.length→vtx x j<K∧((vtx x j:Nat):Int)∈x∧x[j]? = some ((vtx x j:Nat):Int):=λj hj=>by
  have hm:=hp.mem x[j] (yg hj);have e:((vtx x j:Nat):Int)=x[j]:=by
   unfold vtx;rw [yq,yu hj];simp only [yf];omega
  rw [e];exact ⟨by omega,yg hj,yu hj⟩
 refine ⟨λa ha hm=>?_,vtx x 0,(hv 0 (by omega)).1,(hv 0 (by omega)).2.1⟩;obtain ⟨i,hi,e⟩:=List.getElem_of_mem hm;have hj:∃ j,j<x.length∧(j+1) % x.length=i:=by
  by_cases e0:i=0
  ·exact ⟨x.length - 1,by omega,by rw [show x.length - 1+1=x.length by omega,Nat.mod_self,e0]⟩
  ·exact ⟨i - 1,by omega,by rw [show i - 1+1=i by omega,Nat.mod_eq_of_lt hi]⟩
 obtain ⟨j,j1,j2⟩:=hj;have:=hc j j1;rw [j2] at this;have ei:vtx x i=a:=by
  unfold vtx;rw [yq,yu hi,e];simp
 rw [ei] at this;exact ⟨vtx x j,(hv j j1).1,(hv j j1).2.1,this⟩
end
theorem count_off {b:List Bool} {j:Nat} (hj:j<b.length):(b.set j false).count true≤b.count true∧(b.getD j false=true→(b.set j false).count true<b.count true):=by
 have e:b.getD j false=b[j]:=by simp [yq,hj]
 have hc:=List.count_set (a:=false) (b:=true) (l:=b) (i:=j) hj;simp only [beq_iff_eq,ye,if_false,ut] at hc;refine ⟨by rw [hc];omega,λh=>?_⟩;rw [e] at h;have:0<b.count true:=List.count_pos_iff.2 (by rw [← h];exact yg hj);rw [hc,if_pos h];omega
theorem sto_at {α:Type} {l:List α} {i:Nat} {x:α} (h:i<l.length):sto l (i:Int) x=some (l.set i x):=by
 unfold sto;simp [h]
theorem Acyclic_eq {n K:Nat} {edges:List Bool} (hK:K≤6) (hE:edges.length=K*K) (hn:1000000≤n):zd n (K:Int) edges=some (acycE (hasP ⟨(K:Int),edges⟩) K):=by
 have h36:K*K≤36:=y0 hK hK;obtain ⟨EE,hEE⟩:∃ EE,EE=hasP ⟨(K:Int),edges⟩:=⟨_,rfl⟩
 have hget:∀ p j,p<K→j<K→edges[p*K+j]? = some (EE p j):=λp j hp hj=>by
  have hlt:=zcH hp hj;rw [hEE];simp [hasP,yq,hE,hlt]
 rw [← hEE];have main:∃ v,zd n (K:Int) edges=some v∧v=acycE EE K:=by
  unfold zd;have:=za3 (body:=zd.l1 n (K:Int) edges) (k:=K) (n:=n) (st:=λ(b:List Bool) i=>(b,(i:Int))) (λi b=>b=List.replicate i true) (λv:Bool=>v=acycE EE K) (λrec i b hi hI hr=>?_) (λrec b hI=>?_) (by omega) [] rfl
  ·simpa using this
  ·subst hI;simp only [zd.l1,zcK hi,if_true];rw [zr (by simp;omega),ya,zb (by omega)];exact hr _ List.replicate_succ'.symm
  ·subst hI;simp only [zd.l1,zck (yn K),ye,if_false];have:=za3 (body:=zd.l2 n (K:Int) edges) (k:=K) (n:=n) (st:=λ(b:List Bool) i=>(b,(i:Int))) (λi b=>b.length=K∧(∀ C,Before EE K C→∀ a,a<K→C a→b.getD a false=true)∧(b.count true≤K - i∨∃ x,x∈cycP EE K)) (λv:Bool=>v=acycE EE K) (λrec i b hi hI hr=>?_) (λrec b hI=>?_) (by omega) (List.replicate K true) ⟨by simp,λC _ a ha _=>by simp [yq,ha],.inl (by simp)⟩
   ·simpa using this
   ·obtain ⟨I1,I2,I3⟩:=hI;simp only [zd.l2,zcK hi,if_true];have:=za3 (body:=zd.l3 n (K:Int) edges (i:Int) rec) (k:=K) (n:=n) (st:=λ(b:List Bool) j=>(b,(j:Int))) (λj c=>c.length=K∧(∀ C,Before EE K C→∀ a,a<K→C a→c.getD a false=true)∧((c=b∧∀ a,a<j→b.getD a false=true→∃ p,p<K∧b.getD p false=true∧EE p a=true)∨c.count true<b.count true)) (λv:Bool=>v=acycE EE K) (λrec2 j c hj hJ hr2=>?_) (λrec2 c hJ=>?_) (by omega) b ⟨I1,I2,.inl ⟨rfl,λa h=>by omega⟩⟩
    ·simpa using this
    ·obtain ⟨J1,J2,J3⟩:=hJ;simp only [zd.l3,zcK hj,if_true,jn,zb (i:=j) (by omega)];have:=za3 (body:=zd.l4 n (K:Int) edges c (j:Int) (λv=>rec2 (v,((j+1:Nat):Int)))) (k:=K) (n:=n) (st:=λ(x:Bool) p=>(x,(p:Int))) (λp x=>x=true↔∀ p',p'<p→¬ (c.getD p' false=true∧EE p' j=true)) (λv:Bool=>v=acycE EE K) (λrec3 p x hp hx hr3=>?_) (λrec3 x hx=>?_) (by omega) true (by simp)
     ·simpa using this
     ·have hpair:=zcH hp hj;have e1:mul64 (p:Int) (K:Int)=((p*K:Nat):Int):=by
       unfold mul64;rw [zbK (by rw [← yH];omega) (by rw [← yH];omega)];simp
      have ec:c.getD p false=c[p]:=by simp [yq,show p<c.length by omega]
      have ee:idx edges ((p*K+j:Nat):Int)=some (EE p j):=by
       rw [za (by omega)];have:=hget p j hp hj
       rwa [yu (by omega)] at this
      simp only [zd.l4,zcK hp,if_true,jn,za (show p<c.length by omega),ya,e1];rw [zcL (by omega),ee];simp only [yj,yr,grd,if_true,yf,zb (i:=p) (by omega)];by_cases hc:(c[p]&&EE p j)=true
      ·rw [if_pos hc];refine hr3 _ ?_;simp only [yb] at hc;simp only [ye,false_iff];intro hall;exact hall p (by omega) ⟨by rw [ec];exact hc.1,hc.2⟩
      ·rw [if_neg hc];refine hr3 _ ?_;rw [hx];simp only [yb] at hc;constructor
       ·intro h p' hp';by_cases e:p'=p
        ·subst e;rw [ec];exact hc
        ·exact h p' (by omega)
       ·intro h p' hp';exact h p' (by omega)
     ·simp only [zd.l4,zck (yn K),ye,if_false];by_cases hf:x=true
      ·have hfree:=hx.1 hf;rw [if_pos hf,za (show j<c.length by omega),ya,sto_at (by omega),ya];refine hr2 _ ⟨by simp [J1],λC hC a ha hCa=>?_,?_⟩
       ·have hne:a≠j:=λe=>by
         subst e;obtain ⟨q,q1,q2,q3⟩:=hC a ha hCa;exact hfree q q1 ⟨J2 C hC q q1 q2,q3⟩
        rw [yq,yG (by omega),← yq];exact J2 C hC a ha hCa
       ·obtain ⟨o1,o2⟩:=count_off (b:=c) (j:=j) (by omega);rcases J3 with ⟨rfl,h⟩ | h
        ·by_cases e:c.getD j false=true
         ·exact .inr (o2 e)
         ·have hs:c.set j false=c:=by
           have e2:c[j]'(by omega)=false:=by
            simpa [yq,show j<c.length by omega] using e
           rw [← e2];exact List.set_getElem_self _
          rw [hs];exact .inl ⟨rfl,λa ha hb=>by
           by_cases e2:a=j
           ·subst e2;exact absurd hb e
           ·exact h a (by omega) hb⟩
        ·exact .inr (by omega)
      ·rw [if_neg hf];refine hr2 c ⟨J1,J2,?_⟩;rcases J3 with ⟨rfl,h⟩ | h
       ·refine .inl ⟨rfl,λa ha hb=>?_⟩;by_cases e2:a=j
        ·subst e2;exact Classical.byContradiction λhno=>hf (hx.2 λp' hp' hh=>hno ⟨p',hp',hh.1,hh.2⟩)
        ·exact h a (by omega) hb
       ·exact .inr h
    ·obtain ⟨J1,J2,J3⟩:=hJ;simp only [zd.l3,zck (yn K),ye,if_false,zb (i:=i) (by omega)];refine hr c ⟨J1,J2,?_⟩;rcases I3 with I3 | I3
     ·rcases J3 with ⟨rfl,h⟩ | h
      ·by_cases e:∃ a,a<K∧c.getD a false=true
       ·obtain ⟨a,a1,a2⟩:=e;exact .inr (before_cyc (S:=λa=>c.getD a false=true) (λa ha h1=>h a ha h1) a1 a2)
       ·left;have:c.count true=0:=List.count_eq_zero.2 λhm=>by
         obtain ⟨a,a1,a2⟩:=List.getElem_of_mem hm;exact e ⟨a,by omega,by simp [yq,a1,a2]⟩
        omega
      ·exact .inl (by omega)
     ·exact .inr I3
   ·obtain ⟨I1,I2,I3⟩:=hI;simp only [zd.l2,zck (yn K),ye,if_false];have:=za3 (body:=zd.l5 n (K:Int) b) (k:=K) (n:=n) (st:=λ(_:Unit) i=>(i:Int)) (λi _=>∀ a,a<i→b.getD a false=false) (λv:Bool=>v=acycE EE K) (λrec i _ hi hI hr=>?_) (λrec _ hI=>?_) (by omega) () (λa h=>by omega)
    ·simpa using this
    ·have eb:b.getD i false=b[i]:=by simp [yq,show i<b.length by omega]
     simp only [zd.l5,zcK hi,if_true,za (show i<b.length by omega),ya];by_cases hb:b[i]=true
     ·rw [if_pos hb];refine ⟨_,rfl,?_⟩;have hpos:0<b.count true:=List.count_pos_iff.2 (by rw [← hb];exact yg _);rcases I3 with I3 | ⟨x,hx⟩
      ·omega
      ·cases ha:acycE EE K with
       | false=>rfl
       | true=>exact absurd hx (zgL.1 ha x)
     ·rw [if_neg hb,zb (by omega)];exact hr () λa ha=>by
       by_cases e:a=i
       ·subst e;rw [eb];simpa using hb
       ·exact hI a (by omega)
    ·simp only [zd.l5,zck (yn K),ye,if_false];refine ⟨_,rfl,?_⟩;symm;rw [zgL];intro x hx;obtain ⟨hB,a,a1,a2⟩:=cyc_before hx;have:=I2 _ hB a a1 a2;rw [hI a a1] at this;cases this
 obtain ⟨v,hv,rfl⟩:=main;exact hv
def tinyS (x:List Int):Prop:=∀ v∈x,-9999≤v∧v≤9999
theorem Value_val {n K r x} (hr:rowOK K r=true) (hl:r.terms.length<1000000) (hx:x.length=K) (hs:tinyS x) (hn:1000000≤n):zaR n r x=some (sumP x r.terms):=by
 have hterm:∀ t∈r.terms,zfs K t:=λt ht=>by
  simp only [rowOK,yb] at hr;exact zeN hr.1 (by omega) t ht
 have:=zbo (body:=zaR.l1 n r x) (len:=r.terms.length) (st:=λ(s:Int) i=>(s,(i:Int))) (g:=λ_ _=>some (sumP x r.terms)) (λi s=>s+sumP x (r.terms.drop i)=sumP x r.terms∧(-(9999000*i:Int)≤s∧s≤9999000*i)) (λrec i s hi hI hr=>?_) (λrec s hI=>?_) n 0 0 (yp _) (by omega) (by simp)
 ·simpa [zaR] using this
 ·obtain ⟨h1,h2,h3⟩:=hI;obtain ⟨t1,t2,t3,t4⟩:=hterm _ (yg hi);have hv:=getD_mem (s:=x) t1 (by omega);obtain ⟨v1,v2⟩:=hs _ hv;obtain ⟨b1,b2⟩:=mul_bd t3 t4 v1 v2;simp only [zaR.l1,zk hi,if_true,za hi,ya,getD_idx t1 (by omega:r.terms[i].cell<(x.length:Int))];rw [zc5 (by omega) (by omega),zaq (by omega) (by omega),zb (by omega)];refine hr _ ⟨?_,by omega,by omega⟩;rw [zh hi,sumP] at h1;omega
 ·obtain ⟨h1,-⟩:=hI;simp only [zaR.l1,zad,ye,if_false];simp only [List.drop_length,sumP] at h1;congr 1;omega
def rowH (x:List Int) (r:Row):Bool:=decide (sumP x r.terms≤r.bound)
def edgeG (x:List Int) (g:Graph) (a b:Nat):Bool:=decide (g.least.getD (a*g.size.toNat+b) 0≤x.getD (g.first+((a*g.size.toNat+b:Nat):Int)).toNat 0)
def zeB (x:List Int) (g:Graph):Bool:=acycE (edgeG x g) g.size.toNat
theorem acycE_congr {E F K} (h:∀ a b,a<K→b<K→E a b=F a b):acycE E K=acycE F K:=by
 rw [Bool.eq_iff_iff];exact ⟨acycE_mono λa b ha hb hF=>by rw [h a b ha hb];exact hF,acycE_mono λa b ha hb hE=>by rw [← h a b ha hb];exact hE⟩
theorem acyN_eq {n K g x} (hg:zbC K g=true) (hx:x.length=K) (hK:K≤1000) (hn:1000000≤n):acyN n g x=zeB x g:=by
 obtain ⟨s,E,s1,s2,s3,s4⟩:=Edges_tot (n:=n) hg hx hK hn;simp only [zbC,graphF,yb,yz,uf,yF,Int.not_lt,bne_eq_false_iff_eq] at hg;obtain ⟨⟨⟨⟨⟨g1,g2⟩,g3⟩,g4⟩,g5⟩,-⟩:=hg;have h36:s*s≤36:=y0 s2 s2;have em:mul64 g.size g.size=((s*s:Nat):Int):=by
  rw [s1,zc5 (by rw [← yH];omega) (by rw [← yH];omega)];simp
 rw [em,zeJ (by omega) (by omega)] at g4;rw [em] at g5;have hval:za6 n g x=some ((List.range (s*s)).map λk=>decide (g.least.getD k 0≤x.getD (g.first+(k:Int)).toNat 0)):=by
  unfold za6;have:=zE (body:=za6.l1 n g x) (len:=s*s) (st:=λi=>(((List.range i).map λk=>decide (g.least.getD k 0≤x.getD (g.first+(k:Int)).toNat 0)),(i:Int))) (g:=λ_=>some ((List.range (s*s)).map λk=>decide (g.least.getD k 0≤x.getD (g.first+(k:Int)).toNat 0))) (λrec i hi hr=>?_) (λrec=>?_) n 0 (yp _) (by omega)
  ·simpa using this
  ·have e1:add64 g.first (i:Int)=g.first+(i:Int):=zaq (by omega) (by omega)
   have e2:g.least.getD i 0=g.least[i]'(by omega):=by simp [yq,show i<g.least.length by omega]
   simp only [za6.l1,em,zcK hi,if_true,e1,getD_idx (s:=x) (c:=g.first+(i:Int)) (by omega) (by omega),ya,za (show i<g.least.length by omega)];rw [zr (by simp;omega),ya,zb (by omega),← hr];simp only [uA,ul,yP,List.map_nil,e2]
  ·simp only [za6.l1,em,zck (yn _),ye,if_false]
 unfold acyN;rw [hval,ya,s1,Acyclic_eq s2 (by simp) hn,yf];unfold zeB;rw [s1,yt];refine acycE_congr λa b ha hb=>?_
 have hp:=zcH ha hb;unfold hasP edgeG;simp only [yt,s1];rw [yq];simp [hp]
theorem rowsF_nil {n K x R} (hR:R.all (rowOK K)=true) (hl:∀ r∈R,r.terms.length<1000000) (hx:x.length=K) (hs:tinyS x) (hn:1000000≤n):((rowsF n x R).length==0)=R.all (rowH x):=by
 rw [Bool.eq_iff_iff,beq_iff_eq,List.length_eq_zero_iff,yi];unfold rowsF;rw [List.flatMap_eq_nil_iff];have key:∀ i (hi:i<R.length),rowF n x i (R.getD i default)=[]↔rowH x R[i]=true:=λi hi=>by
  have e:R.getD i default=R[i]:=by simp [List.getD,hi]
  have hv:=Value_val (n:=n) (yi.1 hR _ (yg hi)) (hl _ (yg hi)) hx hs hn;rw [e];unfold rowF rowH valN;rw [hv,yf];by_cases h:R[i].bound<sumP x R[i].terms
  ·simp [h]
  ·simp [h];omega
 constructor
 ·intro h r hr;obtain ⟨i,hi,rfl⟩:=List.getElem_of_mem hr;exact (key i hi).1 (h i (yJ.2 hi))
 ·intro h i hi;exact (key i (yJ.1 hi)).2 (h _ (yg _))
theorem graphsF_nil {n K x G} (hG:G.all (zbC K)=true) (hx:x.length=K) (hK:K≤1000) (hn:1000000≤n):((graphsF n x G).length==0)=G.all (zeB x):=by
 rw [Bool.eq_iff_iff,beq_iff_eq,List.length_eq_zero_iff,yi];unfold graphsF;rw [List.flatMap_eq_nil_iff];have key:∀ i (hi:i<G.length),(if (!acyN n (G.getD i default) x)=true then [(i:Int)] else [])=[]↔zeB x G[i]=true:=λi hi=>by
  have e:G.getD i default=G[i]:=by simp [List.getD,hi]
  rw [e,acyN_eq (yi.1 hG _ (yg hi)) hx hK hn];cases zeB x G[i] <;> simp
 constructor
 ·intro h r hr;obtain ⟨i,hi,rfl⟩:=List.getElem_of_mem hr;exact (key i hi).1 (h i (yJ.2 hi))
 ·intro h i hi;exact (key i (yJ.1 hi)).2 (h _ (yg _))
theorem Case_eq {n box R G cs x} (hS:SysOK R G cs) (hP:sysP box.length R G cs=true) (hx:x.length=box.length) (hs:tinyS x) (hn:1000000≤n):∃ r,loopF (zbF.l1 n ⟨box,R,G,cs⟩ x) n 0=some r∧r.2=cs.any (λrows=>rows.all (rowH x)):=by
 simp only [sysP,yb,yd,yi] at hP;obtain ⟨⟨⟨⟨p1,p2⟩,p3⟩,p4⟩,p5,p6⟩:=hP;have:=za3 (body:=zbF.l1 n ⟨box,R,G,cs⟩ x) (k:=cs.length) (n:=n) (st:=λ(_:Unit) i=>(i:Int)) (λi _=>∀ j (hj:j<cs.length),j<i→(cs[j].all (rowH x))=false) (λr:Int×Bool=>r.2=cs.any (λrows=>rows.all (rowH x))) (λrec i _ hi hI h=>?_) (λrec _ hI=>?_) (by omega) () (λj _ hj=>by omega)
 ·simpa using this
 ·have hci:=p6 _ (yg hi);simp only [caseV,yb,yd,yi] at hci;simp only [zbF.l1,zk hi,if_true];have:=za3 (body:=zbF.l2 n ⟨box,R,G,cs⟩ x (i:Int) rec) (k:=cs[i].length) (n:=n) (st:=λ(b:Bool) j=>(b,(j:Int))) (λj b=>b=(cs[i].take j).all (rowH x)) (λr:Int×Bool=>r.2=cs.any (λrows=>rows.all (rowH x))) (λrec2 j b hj hJ h2=>?_) (λrec2 b hJ=>?_) (by omega) true (by simp)
  ·simpa using this
  ·have hv:=Value_val (n:=n) (x:=x) (hci.2 _ (yg hj)) ((hS.cases.2 _ (yg hi)).2 _ (yg hj)) hx hs hn;have hst:(cs[i].take (j+1)).all (rowH x)=((cs[i].take j).all (rowH x)&&rowH x cs[i][j]):=by
    rw [yv hj,List.all_append];simp
   simp only [zbF.l2,jn,za hi,ya,zk hj,if_true,za hj,hv,zb (i:=j) (by omega)];have hr:rowH x cs[i][j] = !decide (cs[i][j].bound<sumP x cs[i][j].terms):=by
    unfold rowH;rw [Bool.eq_iff_iff];simp
   by_cases hlt:(decide (cs[i][j].bound<sumP x cs[i][j].terms))=true
   ·rw [if_pos hlt];exact h2 _ (by rw [hst,hr,hlt];simp)
   ·rw [if_neg hlt];refine h2 _ ?_;simp only [yC] at hlt;rw [hst,hr,hlt,hJ];simp
  ·simp only [zbF.l2,jn,za hi,ya,zad,ye,if_false];rw [List.take_length] at hJ;by_cases hb:b=true
   ·rw [if_pos hb];refine ⟨_,rfl,?_⟩;symm;rw [uq];exact ⟨cs[i],yg hi,by rw [← hJ,hb]⟩
   ·rw [if_neg hb,zb (by omega)];refine h () λj hj hji=>?_
    by_cases e:j=i
    ·subst e;rw [← hJ];simpa using hb
    ·exact hI j hj (by omega)
 ·simp only [zbF.l1,zad,ye,if_false];refine ⟨_,rfl,?_⟩;symm;rw [List.any_eq_false];intro rows hrows;obtain ⟨j,hj,rfl⟩:=List.getElem_of_mem hrows;rw [hI j hj hj];simp
theorem tiny_box {box x} (hg:goodB box=true) (hx:inBox box x=true):tinyS x:=λv hv=>by
 have hxl:=zdM hx;obtain ⟨i,hi,rfl⟩:=List.mem_iff_getElem.1 hv;have h1:=zeQ hx i (by omega) hi;have h2:=yi.1 hg _ (yg (show i<box.length by omega));simp only [yb,yd] at h2;omega
theorem Holds_closed {n box R G cs x} (hg:goodB box=true) (hl:box.length≤100) (hS:SysOK R G cs) (hP:sysP box.length R G cs=true) (hx:inBox box x=true) (hn:1000000≤n) :
  ze6 n ⟨box,R,G,cs⟩ x=some ((R.all (rowH x)&&G.all (zeB x))&&(cs.isEmpty||cs.any (λrows=>rows.all (rowH x)))):=by
 have hxl:=zdM hx;have hs:=tiny_box hg hx;have hsm:∀ v∈x,-4000000≤v∧v≤4000000:=λv hv=>by have:=hs v hv;omega
 have hv:=ref18_Valid_eq hg hl hS hn;rw [hP] at hv;have r1:=right_eq hv rfl hxl (by omega) hsm hn;obtain ⟨c,hc,hc2⟩:=Case_eq (n:=n) (x:=x) hS hP hxl hs hn;have hP':=hP;simp only [sysP,yb,yd] at hP';obtain ⟨⟨⟨⟨p1,p2⟩,p3⟩,p4⟩,p5,p6⟩:=hP';have f1:=rowsF_nil (n:=n) p2 hS.rows.2 hxl hs hn;have f2:=graphsF_nil (n:=n) p5 hxl (by omega) hn;unfold ze6;simp only [hv,ya,zf4 hx hl hn,Fails_eq hS hP r1 hxl (by omega) hn];unfold zbF;simp only [r1,hc,ya,yj,yr,grd,if_true,yf,y6,Bool.or_self,ye,if_false,hc2];congr 2
 ·rw [← f1,← f2];congr 1 <;> (rw [Bool.eq_iff_iff];simp)
 ·congr 1;cases cs <;> simp
  omega
theorem chgN_eq {n a r} (ha:ActOK a) (hd:zf9 a.effect.delta) (ht:∀ t∈r.terms,-1000≤t.factor∧t.factor≤1000) (hl:r.terms.length≤1000) (hn:1000000≤n):chgN n a r=chgP a.effect.delta r.terms:=by
 have:=ha.delta;unfold chgN;rw [zdt (by omega) (by omega) (by omega) (by omega),change_zero hd ht hl];rfl
def zcp (q:Question) (a b:Action):List Row:=a.effect.hold++(if (q.e != q.f)=true then b.effect.hold else [])
noncomputable def zbe (n:Nat) (m:Model) (q:Question) (a b:Action):List Graph:=(List.range m.constraints.length).flatMap λi=>gS n (q.e != q.f) a b (m.constraints.getD i default)
def negRow (r:Row) (x:Int):Row:=⟨r.terms.map λt=>⟨t.cell,neg64 t.factor⟩,sub64 (add64 (neg64 r.bound) x) 1⟩
inductive Tgt (n:Nat) (m:Model) (q:Question) (a b:Action) (box:List Range):List Row→List (List Row)→Prop
 | hold (r:Row):q.target.hold=true→idx a.effect.hold q.target.index=some r→Tgt n m q a b box [negRow r (chgN n b r)] []
 | row (c:Constraint):q.target.hold=false→idx m.constraints q.target.index=some c→c.kind=0→Tgt n m q a b box [negRow c.row (add64 (chgN n a c.row) (chgN n b c.row))] []
 | none (c:Constraint) (s:Nat):q.target.hold=false→idx m.constraints q.target.index=some c→c.kind=1→c.size=(s:Int)→zfd (zg a.effect.delta) (zg b.effect.delta) box c s=[]→Tgt n m q a b box [⟨[],-1⟩] []
 | graph (c:Constraint) (s:Nat):q.target.hold=false→idx m.constraints q.target.index=some c→c.kind=1→c.size=(s:Int)→zfd (zg a.effect.delta) (zg b.effect.delta) box c s≠[]→Tgt n m q a b box [] (zfd (zg a.effect.delta) (zg b.effect.delta) box c s)
theorem tail3_eq {n m q a b box} (ha:ActOK a) (hb:ActOK b) (hc:∀ c∈m.constraints,ConOK box.length c) (sa:SameA a) (sb:SameA b) (hl:m.constraints.length≤1000) (hbx:box.length≤1000)
  (hh:q.target.hold=true→0≤q.target.index∧q.target.index<(a.effect.hold.length:Int)) (hh2:q.target.hold=false→0≤q.target.index∧q.target.index<(m.constraints.length:Int)) (hn:1000000≤n) :
  ∃ (Y:List Row) (cs:List (List Row)),Tgt n m q a b box Y cs∧((zcp q a b++Y).length≤30∧∀ r∈zcp q a b++Y,r.terms.length≤1000)∧((zbe n m q a b).length≤3000∧∀ g∈zbe n m q a b,g.least.length≤36)∧CasesOK cs ∧
   ∀ R:List Row,R.length≤1000→tailS n m q a b box R=endS n ⟨box,R++(zcp q a b++Y),zbe n m q a b,cs⟩ (zbb n ⟨box,R++(zcp q a b++Y),zbe n m q a b,cs⟩):=by
 obtain ⟨H,hH⟩:∃ H:List Row,H=zcp q a b:=⟨_,rfl⟩
 have hHl:H.length≤20∧∀ r∈H,r.terms.length≤1000:=by
  have h1:=ha.hold;have h2:=hb.hold;rw [hH];unfold zcp;constructor
  ·rw [yI];split <;> first | omega | (simp;omega)
  ·intro r hr;rcases yK.1 hr with hr | hr
   ·exact ha.terms r hr
   ·split at hr
    ·exact hb.terms r hr
    ·simp at hr
 have hstep:∀ R:List Row,R.length≤1000→tailS n m q a b box R=brokenS n m q a b box (R++H):=λR hR=>by
  have h1:=ha.hold;have h2:=hb.hold;have hloop:loopF (zc.l3 n m q a b box H) n (R,0)=brokenS n m q a b box (R++H):=by
   have:=loopF_map (body:=zc.l3 n m q a b box H) (l:=H) (n:=n) (st:=λb i=>(b,(i:Int))) (λr:Row=>r) (brokenS n m q a b box) R (λrec b6 i hi hb6=>?_) (λrec b6 hb6=>?_) (by omega)
   ·simpa using this
   ·simp only [zc.l3,zk hi,if_true,za hi,ya,same_eq (hHl.2 _ (yg hi)) hn];rw [zr (by first | omega | (simp;omega)),ya,zb (by omega)]
   ·simp only [zc.l3,zad,ye,if_false];rfl
  unfold tailS;simp only [jn];rw [zr (by first | omega | (simp;omega)),ya,yZ];by_cases he:(q.e != q.f)=true
  ·rw [if_pos he,zr (by first | omega | (simp;omega)),ya,← hloop,hH,zcp,if_pos he]
  ·rw [if_neg he,← hloop,hH,zcp,if_neg he,uh]
 obtain ⟨G,hG⟩:∃ G,G=zbe n m q a b:=⟨_,rfl⟩
 have hGl:G.length≤3000∧∀ g∈G,g.least.length≤36:=by
  have key:∀ k,k≤m.constraints.length→((List.range k).flatMap λi=>gS n (q.e != q.f) a b (m.constraints.getD i default)).length≤3*k∧∀ g∈((List.range k).flatMap λi=>gS n (q.e != q.f) a b (m.constraints.getD i default)),g.least.length≤36:=by
   intro k
   induction k with
   | zero=>intro _;simp
   | succ k ih=>
    intro hk;obtain ⟨i1,i2⟩:=ih (by omega);have e:m.constraints.getD k default=m.constraints[k]'(by omega):=by simp [List.getD,show k<m.constraints.length by omega]
    obtain ⟨g1,g2⟩:=gS_len (n:=n) (ef:=(q.e != q.f)) ha hb (hc _ (yg (show k<m.constraints.length by omega))) hn;rw [range_snoc,e];constructor
    ·rw [yI];omega
    ·intro g hg;rcases yK.1 hg with hg | hg
     ·exact i2 g hg
     ·exact g2 g hg
  rw [hG];obtain ⟨k1,k2⟩:=key _ (yn _);unfold zbe;exact ⟨by omega,k2⟩
 have h0:∀ (c:Constraint) (R:List Row),(c.kind==1)=false→finS n box a b R c G=endS n ⟨box,R,G,[]⟩ (zbb n ⟨box,R,G,[]⟩):=λc R hk=>by
  unfold finS;simp only [jn,hk,ye,if_false];rfl
 have c0:CasesOK []:=⟨by simp,by simp⟩
 rw [← hG,← hH];cases hhold:q.target.hold with
 | true=>
  obtain ⟨i1,i2⟩:=hh hhold;obtain ⟨r,hr⟩:=zbc i1 i2;have hrl:=ha.terms r (zaf hr);have hx:=zfK hb hrl hn;have hnr:=changed_eq (n:=n) (r:=r) (f:=λq0=>zbp n q0) (g:=λq0=>zaX n q0 (chgN n b r)) (fP:=neg64) (B:=sub64 (add64 (neg64 r.bound) (chgN n b r)) 1) (λ_=>rfl) rfl hrl hn;refine ⟨_,_,.hold r hhold hr,⟨by first | omega | (simp;omega),λs hs=>?_⟩,hGl,c0,λR hR=>?_⟩
  ·rcases yK.1 hs with hs | hs
   ·exact hHl.2 s hs
   ·simp at hs;subst hs;simpa [negRow] using hrl
  ·rw [hstep R hR];unfold brokenS;simp only [jn,hhold,if_true,hr,ya,hx,hnr];rw [zr (by first | omega | (simp;omega)),ya];have:=gloop_eq (q:=q) (a:=a) (b:=b) (box:=box) (R:=R++H++[negRow r (chgN n b r)]) (c:=⟨0,0,⟨[],0⟩,0,0⟩) ha hb hc hl hn;rw [← zbe,← hG] at this;rw [yL] at this ⊢;exact this.trans (h0 _ _ rfl)
 | false=>
  obtain ⟨i1,i2⟩:=hh2 hhold;obtain ⟨c,hcx⟩:=zbc i1 i2;have hco:=hc c (zaf hcx);have hgl:=λR:List Row=>(gloop_eq (q:=q) (a:=a) (b:=b) (box:=box) (R:=R) (c:=c) ha hb hc hl hn)
  rw [← zbe,← hG] at hgl;rcases hco.kind with hk | hk
  ·have hx:=zfK ha hco.len hn;have hy:=zfK hb hco.len hn;have hnr:=changed_eq (n:=n) (r:=c.row) (f:=λq0=>zbp n q0) (g:=λq0=>zaX n q0 (add64 (chgN n a c.row) (chgN n b c.row))) (fP:=neg64) (B:=sub64 (add64 (neg64 c.row.bound) (add64 (chgN n a c.row) (chgN n b c.row))) 1) (λ_=>rfl) rfl hco.len hn;refine ⟨_,_,.row c hhold hcx hk,⟨by first | omega | (simp;omega),λs hs=>?_⟩,hGl,c0,λR hR=>?_⟩
   ·rcases yK.1 hs with hs | hs
    ·exact hHl.2 s hs
    ·simp at hs;subst hs;simpa [negRow] using hco.len
   ·rw [hstep R hR];unfold brokenS;have hk':(c.kind==0)=true:=by simp [hk]
    simp only [jn,hhold,ye,if_false,hcx,ya,hk',if_true,hx,hy,hnr];rw [zr (by first | omega | (simp;omega)),ya,yL];exact (hgl _).trans (h0 _ _ (by simp [hk]))
  ·obtain ⟨s,s1,s2,s3,s4,s5⟩:=hco.sz hk;obtain ⟨cs,hcs,hcsO⟩:=cases_tot (n:=n) (box:=box) (e:=a) (f:=b) s1 s2 s3 s4 s5 hbx ha.delta hb.delta hn;have hcq:cs=zfd (zg a.effect.delta) (zg b.effect.delta) box c s:=by
    have:=(cases_both (n:=n) (c:=c) sa sb s3 hn (box:=box) s1 s2 s4 s5 hbx).1;rw [hcs] at this;exact Option.some.inj this
   have hk0:(c.kind==0)=false:=by simp [hk]
   have hk1:(c.kind==1)=true:=by simp [hk]
   by_cases he:cs=[]
   ·have he':((cs.length:Int)==0)=true:=by simp [he]
    refine ⟨_,_,.none c s hhold hcx hk s1 (hcq▸he),⟨by first | omega | (simp;omega),λs hs=>?_⟩,hGl,c0,λR hR=>?_⟩
    ·rcases yK.1 hs with hs | hs
     ·exact hHl.2 s hs
     ·simp at hs;subst hs;simp
    ·rw [hstep R hR];unfold brokenS;simp only [jn,hhold,ye,if_false,hcx,ya,hk0];refine (hgl _).trans ?_;unfold finS;simp only [jn,hk1,if_true,hcs,ya,he'];rw [zr (by first | omega | (simp;omega)),ya,yL,he];rfl
   ·have he':¬ ((cs.length:Int)==0)=true:=by simp [he]
    refine ⟨_,_,.graph c s hhold hcx hk s1 (hcq▸he),⟨by simpa using (by omega:H.length≤30),by simpa using hHl.2⟩,hGl,hcq▸hcsO,λR hR=>?_⟩;rw [hstep R hR];unfold brokenS;simp only [jn,hhold,ye,if_false,hcx,ya,hk0];refine (hgl _).trans ?_;unfold finS;simp only [jn,hk1,if_true,hcs,ya];rw [if_neg he',← hcq,uh];rfl
theorem gr_eq {n K:Nat} {c} {s:Nat} {f:Int→Option Int} {fP:Int→Int} (hs:c.size=(s:Int)) (h6:s≤6) (hf:∀ x,f x=some (fP x)) (hn:1000000≤n):gr n c f=⟨c.first,c.size,(List.range (s*s)).map λi:Nat=>sub64 1 (fP (add64 c.first (i:Int)))⟩:=by
 have h4:s*s≤36:=y0 h6 h6;have em:mul64 c.size c.size=((s*s:Nat):Int):=by
  rw [hs,zc5 (by rw [← yH];omega) (by rw [← yH];omega)];simp
 have:zO n c f=some ⟨c.first,c.size,(List.range (s*s)).map λi:Nat=>sub64 1 (fP (add64 c.first (i:Int)))⟩:=by
  unfold zO;have:=zE (body:=zO.l1 n c f) (len:=s*s) (st:=λi=>(((List.range i).map λi:Nat=>sub64 1 (fP (add64 c.first (i:Int)))),(i:Int))) (g:=λ_=>some (⟨c.first,c.size,(List.range (s*s)).map λi:Nat=>sub64 1 (fP (add64 c.first (i:Int)))⟩:Graph)) (λrec i hi hr=>?_) (λrec=>?_) n 0 (yp _) (by omega)
  ·simpa using this
  ·simp only [zO.l1,em,zcK hi,if_true,hf,ya];rw [zr (by simp;omega),ya,zb (by omega),← hr];simp only [uA,ul,yP,List.map_nil]
  ·simp only [zO.l1,em,zck (yn _),ye,if_false]
 unfold gr;rw [this];rfl
theorem gr_holds {n K:Nat} {c} {x y:List Int} {f:Int→Option Int} {fP:Int→Int} (hc:ConOK K c) (hk:c.kind=1) (hx:x.length=K) (hK:K≤1000) (hf:∀ z,f z=some (fP z)) (hsm:∀ z,-4000000000≤fP z∧fP z≤4000000000)
  (hy:∀ i:Int,0≤i→i<(K:Int)→y.getD i.toNat 0=x.getD i.toNat 0+fP i) (hn:1000000≤n):zeB x (gr n c f)=zX c y:=by
 obtain ⟨s,s1,s2,s3,s4,s5⟩:=hc.sz hk;have h4:s*s≤36:=y0 s3 s3;rw [gr_eq (K:=K) s1 s3 hf hn];unfold zeB zX;rw [if_pos hk];simp only [s1,yt];refine acycE_congr λa b ha hb=>?_
 have hp:=zcH ha hb;have hcell:c.first+(a:Int)*(s:Int)+(b:Int)=c.first+((a*s+b:Nat):Int):=by rw [Int.natCast_add,yH];omega
 have hb2:=hsm (c.first+((a*s+b:Nat):Int));unfold edgeG edgeP;rw [Bool.eq_iff_iff];simp only [yd,s1,yt,hcell];rw [hy _ (by omega) (by omega),yq,y8,List.getElem?_range hp];simp only [yV,yf];rw [zaq (by omega) (by omega),zeJ (by omega) (by omega)];omega
theorem zgG {K x} (hp:PathL K x) {j} (hj:j<x.length):vtx x j<K∧x.getD j 0=((vtx x j:Nat):Int):=by
 have hm:=hp.mem x[j] (yg hj);unfold vtx;rw [yq,yu hj];simp only [yf];omega
section
variable {c:Constraint} {K:Nat} {box:List Range} {s:List Int} {da db:List Change}
theorem cyc_cell (hs:c.size=(K:Int)) (h6:K≤6) (h0:0≤c.first) (h1:c.first≤1000000) {x} (hp:PathL K x) {i} (hi:i<x.length) :
  zbd c x i=c.first+((vtx x i*K+vtx x ((i+1) % x.length):Nat):Int):=by
 obtain ⟨v1,v2⟩:=zgG hp hi;obtain ⟨w1,w2⟩:=zgG hp (Nat.mod_lt (i+1) (show 0<x.length by omega));have hpl:=zcH v1 w1;have h36:K*K≤36:=y0 h6 h6;have hm:((vtx x i:Nat):Int)*(K:Int)=((vtx x i*K:Nat):Int):=(yH _ _).symm;unfold zbd;rw [v2,w2,hs,zc5 (by rw [hm];omega) (by rw [hm];omega),hm,zcL (by omega),zaq (by omega) (by omega)]
theorem edge_plus (hs:c.size=(K:Int)) (h0:0≤c.first) (hf:c.first+((K*K:Nat):Int)≤(s.length:Int)) {a b} (ha:a<K) (hb:b<K):edgeP (plusP s da) c a b=decide (1≤s.getD (c.first+((a*K+b:Nat):Int)).toNat 0+zg da (c.first+((a*K+b:Nat):Int))):=by
 have hp:=zcH ha hb;have hcell:c.first+(a:Int)*c.size+(b:Int)=c.first+((a*K+b:Nat):Int):=by rw [hs,Int.natCast_add,yH];omega
 unfold edgeP;rw [hcell,zfk (by omega) (by omega)]
theorem edge_plus2 (hs:c.size=(K:Int)) (h0:0≤c.first) (hf:c.first+((K*K:Nat):Int)≤(s.length:Int)) {a b} (ha:a<K) (hb:b<K):edgeP (plusP (plusP s da) db) c a b=decide (1≤s.getD (c.first+((a*K+b:Nat):Int)).toNat 0+zg da (c.first+((a*K+b:Nat):Int))+zg db (c.first+((a*K+b:Nat):Int))):=by
 have hp:=zcH ha hb;rw [edge_plus hs h0 (by rw [zdT];exact hf) ha hb,zfk (by omega) (by omega)]
theorem edge_row (hs:c.size=(K:Int)) (h6:K≤6) (h0:0≤c.first) (hf:c.first+((K*K:Nat):Int)≤(s.length:Int)) (hl:s.length≤1000) (hA:zf9 da) (hB:zf9 db) {x} (hp:PathL K x) {i} (hi:i<x.length) :
  rowH s (edgeRow (zg da) (zg db) c x i)=edgeP (plusP (plusP s da) db) c (vtx x i) (vtx x ((i+1) % x.length)):=by
 have v1:=(zgG hp hi).1;have w1:=(zgG hp (Nat.mod_lt (i+1) (show 0<x.length by omega))).1;rw [edge_plus2 hs h0 hf v1 w1];unfold rowH edgeRow;rw [Bool.eq_iff_iff,yd,yd];rw [cyc_cell hs h6 h0 (by omega) hp hi];have a1:=zcM hA (c.first+((vtx x i*K+vtx x ((i+1) % x.length):Nat):Int));have b1:=zcM hB (c.first+((vtx x i*K+vtx x ((i+1) % x.length):Nat):Int));simp only [sumP];rw [zaq (by omega) (by omega),zeJ (by omega) (by omega)];omega
theorem cases_iff (hk:c.kind=1) (hs:c.size=(K:Int)) (h6:K≤6) (h0:0≤c.first) (hf:c.first+((K*K:Nat):Int)≤(box.length:Int)) (hg:goodB box=true) (hx:inBox box s=true) (hl:box.length≤1000) (hA:zf9 da) (hB:zf9 db)
  (ha:zX c (plusP s da)=true) (hb:zX c (plusP s db)=true):(zfd (zg da) (zg db) box c K).any (λrows=>rows.all (rowH s)) = !zX c (plusP (plusP s da) db):=by
 have hxl:=zdM hx;have hK:c.size.toNat=K:=by omega
 have h36:K*K≤36:=y0 h6 h6;have hfs:c.first+((K*K:Nat):Int)≤(s.length:Int):=by omega
 have hbig:∀ a b,a<K→b<K→edgeP (plusP (plusP s da) db) c a b=true→hasP ⟨(K:Int),(List.range (K*K)).map λi:Nat=>decide (1≤add64 ((idx box (add64 c.first (i:Int))).getD default).hi (add64 (zg da (add64 c.first (i:Int))) (zg db (add64 c.first (i:Int)))))⟩ a b=true:=by
  intro a b h1 h2 he;have hp:=zcH h1 h2;rw [edge_plus2 hs h0 hfs h1 h2] at he;have e1:add64 c.first ((a*K+b:Nat):Int)=c.first+((a*K+b:Nat):Int):=zaq (by omega) (by omega)
  obtain ⟨z,hz⟩:=yR (show 0≤c.first+((a*K+b:Nat):Int) by omega);have hzl:z<box.length:=by omega
  have hin:=zeQ hx z hzl (by omega);have hgz:=yi.1 hg _ (yg hzl);simp only [yb,yd] at hgz;have a1:=zcM hA (z:Int);have b1:=zcM hB (z:Int);unfold hasP;simp only [yt];rw [yq,y8,List.getElem?_range hp];simp only [yV,yf,e1];rw [hz,yt] at he;rw [hz,za hzl,yf,zaq (x:=zg da (z:Int)) (by omega) (by omega),zaq (by omega) (by omega)];have e2:s.getD z 0=s[z]'(by omega):=by simp [yq,show z<s.length by omega]
  rw [e2] at he;simp only [yd] at he ⊢;omega
 have hrows:∀ x,PathL K x→(((List.range x.length).map (edgeRow (zg da) (zg db) c x)).all (rowH s)=true↔CycIn (edgeP (plusP (plusP s da) db) c) x):=λx hp=>by
  rw [List.all_map,yi];unfold CycIn;constructor
  ·intro h i hi;have:=h i (yJ.2 hi)
   rwa [Function.comp_apply,edge_row hs h6 h0 hfs (by omega) hA hB hp hi] at this
  ·intro h i hi;rw [Function.comp_apply,edge_row hs h6 h0 hfs (by omega) hA hB hp (yJ.1 hi)];exact h i (yJ.1 hi)
 have hup:∀ (d e:List Change) x,x∈cycP (edgeP (plusP (plusP s da) db) c) K→zX c (plusP s e)=true→(∀ z,zg da z+zg db z=zg d z+zg e z)→(List.range x.length).any (λi=>decide (0<zg d (zbd c x i)))=true:=by
  intro d e x hxc hh hsum;have hp:=zem hxc;refine Classical.byContradiction λhno=>?_
  simp only [yC,List.any_eq_false,yJ,yd] at hno;have hin:CycIn (edgeP (plusP s e) c) x:=λi hi=>by
   have v1:=(zgG hp hi).1;have w1:=(zgG hp (Nat.mod_lt (i+1) (show 0<x.length by omega))).1;have h1:=cycP_in hxc i hi;have h2:=hno i hi;rw [cyc_cell hs h6 h0 (by omega) hp hi] at h2;rw [edge_plus2 hs h0 hfs v1 w1] at h1;rw [edge_plus hs h0 hfs v1 w1];have h3:=hsum (c.first+((vtx x i*K+vtx x ((i+1) % x.length):Nat):Int));simp only [yd] at h1 ⊢;omega
  unfold zX at hh;rw [if_pos hk,hK] at hh;exact zgL.1 hh x (cycP_with hxc hin)
 have hab:zX c (plusP (plusP s da) db)=acycE (edgeP (plusP (plusP s da) db) c) K:=by unfold zX;rw [if_pos hk,hK]
 rw [hab,Bool.eq_iff_iff,yz,← yC,zgL,uq];constructor
 ·rintro ⟨rows,hr,hall⟩ hno;obtain ⟨x,hx1,hx2⟩:=ue.1 hr;have hp:=zem hx1;unfold zdd at hx2;split at hx2
  ·simp only [yS] at hx2;subst hx2;exact hno x (cycP_with hx1 ((hrows x hp).1 hall))
  ·simp at hx2
 ·intro hex;obtain ⟨x,hxc⟩:∃ x,x∈cycP (edgeP (plusP (plusP s da) db) c) K:=Classical.byContradiction λh=>hex λx hx=>h ⟨x,hx⟩
  have hp:=zem hxc;have hin:=cycP_in hxc;refine ⟨_,ue.2 ⟨x,cycP_with hxc (hin.mono hp hbig),?_⟩,(hrows x hp).2 hin⟩;unfold zdd;rw [if_pos]
  ·exact yS.2 rfl
  ·rw [hup da db x hxc hb (λ_=>rfl),hup db da x hxc ha (λz=>Int.add_comm _ _)];rfl
theorem neg_small {x} (h1 : -1000000000000000000≤x) (h2:x≤1000000000000000000):neg64 x = -x:=by
 unfold neg64;exact zbK (by omega) (by omega)
theorem sum_neg {K}:∀ {l:List Term},(∀ t∈l,zfs K t)→sumP s (l.map λt=>⟨t.cell,neg64 t.factor⟩) = -sumP s l
 | [],_=>rfl
 | t::l,h=>by
  obtain ⟨-,-,t3,t4⟩:=h t (by simp);simp only [yP,sumP];rw [sum_neg (λu hu=>h u (by simp [hu])),neg_small (by omega) (by omega),Int.neg_mul];omega
theorem negRow_H {K r x} (ht:∀ t∈r.terms,zfs K t) (hb : -1000000000≤r.bound∧r.bound≤1000000000) (hx : -1000000000000000000≤x∧x≤1000000000000000000):rowH s (negRow r x) = !decide (sumP s r.terms+x≤r.bound):=by
 unfold rowH negRow;simp only [];rw [sum_neg ht,neg_small (by omega) (by omega),zaq (by omega) (by omega),zeJ (by omega) (by omega),Bool.eq_iff_iff];simp only [yz,yd,yF];omega
end
theorem gmax_le_iff {x y B}:gmax x y≤B↔x≤B∧y≤B:=
 ⟨λh=>by have:=gmax_ge x y;omega,λh=>gmax_le h.1 h.2⟩
def relB (q:Question) (i:Int):Bool:=q.target.hold||(q.target.index != i)
def brokenP (m:Model) (q:Question) (a b:Action) (s:List Int):Bool:=
 if q.target.hold=true then !zX ⟨0,0,(idx a.effect.hold q.target.index).getD default,0,0⟩ (plusP s b.effect.delta)
 else !zX ((idx m.constraints q.target.index).getD default) (plusP (plusP s a.effect.delta) b.effect.delta)
def showsP (m:Model) (q:Question) (rows:List Int) (a b:Action) (s:List Int):Bool:=
 (possP m a.effect s&&possP m b.effect s)&&(rows.all (λi=>!(relB q i&&!zX ((idx m.constraints i).getD default) (plusP (plusP s a.effect.delta) b.effect.delta)))&&brokenP m q a b s)
structure Scene (n:Nat) (m:Model) (q:Question) (a b:Action) (s:List Int):Prop where
 small:SmallM m
 valid:ValidM m
 quest:zd3 m q=true
 ha:idx m.actions q.e=some a
 hb:idx m.actions q.f=some b
 box:inBox (boxM m) s=true
 len:(boxM m).length≤100
 fuel:4294967296≤n
section
variable {n:Nat} {m:Model} {q:Question} {rows:List Int} {a b:Action} {s:List Int}
theorem Scene.state (h:Scene n m q a b s):StateOK m s:=state_ok h.valid.lay h.box
theorem Scene.conIn (h:Scene n m q a b s) {c} (hc:c∈m.constraints):ConIn c s.length:=by
 rw [h.state.len];exact con_in h.small h.valid hc
theorem Scene.conOK (h:Scene n m q a b s) {c} (hc:c∈m.constraints):ConOK (boxM m).length c:=con_ok h.small h.valid hc
theorem Scene.dA (h:Scene n m q a b s):zf9 a.effect.delta∧∀ r∈a.effect.hold,rowOK (boxM m).length r=true:=zdG h.valid (zaf h.ha)
theorem Scene.dB (h:Scene n m q a b s):zf9 b.effect.delta∧∀ r∈b.effect.hold,rowOK (boxM m).length r=true:=zdG h.valid (zaf h.hb)
theorem Scene.oA (h:Scene n m q a b s):ActOK a:=zgy h.small (zaf h.ha)
theorem Scene.oB (h:Scene n m q a b s):ActOK b:=zgy h.small (zaf h.hb)
theorem Scene.sA (h:Scene n m q a b s):SameA a:=zfp h.fuel h.small h.valid (zaf h.ha)
theorem Scene.sB (h:Scene n m q a b s):SameA b:=zfp h.fuel h.small h.valid (zaf h.hb)
theorem Scene.same (h:Scene n m q a b s) (he:(q.e != q.f)=false):a=b:=by
 have e:q.e=q.f:=by simpa using he
 have h1:=h.ha;rw [e,h.hb] at h1;exact (Option.some.inj h1).symm
theorem Scene.row (h:Scene n m q a b s) {c} (hc:c∈m.constraints) (hk:c.kind=0) :
  (∀ t∈c.row.terms,zfs s.length t)∧c.row.terms.length≤1000∧(-1000000000≤c.row.bound∧c.row.bound≤1000000000)∧chgN n a c.row=chgP a.effect.delta c.row.terms∧chgN n b c.row=chgP b.effect.delta c.row.terms ∧
   (-1000000000000000≤chgN n a c.row∧chgN n a c.row≤1000000000000000)∧(-1000000000000000≤chgN n b c.row∧chgN n b c.row≤1000000000000000):=by
 have hn:1000000≤n:=by have:=h.fuel;omega
 have hro:=zfL h.valid hc hk;have hbd : -1000000000≤c.row.bound∧c.row.bound≤1000000000:=by
  simp only [rowOK,zar,yb,yd] at hro;omega
 have hlen:=(h.conOK hc).len;have ht:∀ t∈c.row.terms,zfs s.length t:=by
  cases h.conIn hc with
  | row _ ht _ _=>exact ht
  | graph _ hk1=>omega
 have hf:∀ t∈c.row.terms,-1000≤t.factor∧t.factor≤1000:=λt h=>(ht t h).2.2
 exact ⟨ht,hlen,hbd,chgN_eq h.oA h.dA.1 hf hlen hn,chgN_eq h.oB h.dB.1 hf hlen hn,chgN_bd h.oA h.dA.1 hf hlen hn,chgN_bd h.oB h.dB.1 hf hlen hn⟩
theorem zcP {c} (hk:c.kind=0) (x):zX c x=decide (sumP x c.row.terms≤c.row.bound):=by
 unfold zX;rw [if_neg (by omega)]
theorem rowsR_iff (h:Scene n m q a b s):(rowsR n m q rows a b).all (rowH s)=true↔∀ i (hi:i<m.constraints.length),m.constraints[i].kind=0 →
  ((zX m.constraints[i] s=true∧zX m.constraints[i] (plusP s a.effect.delta)=true)∧zX m.constraints[i] (plusP s b.effect.delta)=true)∧((i:Int)∈rows→relB q (i:Int)=true→zX m.constraints[i] (plusP (plusP s a.effect.delta) b.effect.delta)=true):=by
 unfold rowsR;rw [List.all_flatMap,yi];have key:∀ i (hi:i<m.constraints.length),((rowS n q rows a b i (m.constraints.getD i default)).all (rowH s)=true↔(m.constraints[i].kind=0 →
   ((zX m.constraints[i] s=true∧zX m.constraints[i] (plusP s a.effect.delta)=true)∧zX m.constraints[i] (plusP s b.effect.delta)=true)∧((i:Int)∈rows→relB q (i:Int)=true→zX m.constraints[i] (plusP (plusP s a.effect.delta) b.effect.delta)=true))):=λi hi=>by
  have e:m.constraints.getD i default=m.constraints[i]:=by simp [List.getD,hi]
  rw [e];unfold rowS;by_cases hk:m.constraints[i].kind=0
  ·obtain ⟨ht,hlen,hbd,ea,eb,ba,bb⟩:=h.row (yg hi) hk;rw [if_neg (by simp [hk]),zcP hk,zcP hk,zcP hk,zcP hk];have e1:=zgv (s:=s) (d:=a.effect.delta) ht;have e2:=zgv (s:=s) (d:=b.effect.delta) ht;have e3:=zgv (s:=plusP s a.effect.delta) (d:=b.effect.delta) (l:=m.constraints[i].row.terms) (by rw [zdT];exact ht);rw [e3,e1,e2];rw [← ea,← eb];have hs:add64 (chgN n a m.constraints[i].row) (chgN n b m.constraints[i].row)=chgN n a m.constraints[i].row+chgN n b m.constraints[i].row:=zaq (by omega) (by omega);obtain ⟨k1,-,k3⟩:=kS_facts (q:=q) (rows:=rows) (less:=rows) (i:=i) ba bb id;simp only [y7,List.all_nil,ug,rowH];rw [zeJ (by omega) (by omega)];simp only [yd,hk,true_imp_iff];have hle:sumP s m.constraints[i].row.terms≤m.constraints[i].row.bound - kS n q rows a b i m.constraints[i]↔kS n q rows a b i m.constraints[i]≤m.constraints[i].row.bound - sumP s m.constraints[i].row.terms:=by omega
   rw [hle];unfold kS;rw [hs];by_cases hr:(i:Int)∈rows∧relB q (i:Int)=true
   ·obtain ⟨r1,r2⟩:=hr;have r2':=r2;unfold relB at r2';simp only [r1,r2',decide_true,uN,if_true,gmax_le_iff,true_imp_iff,r2];omega
   ·have:(decide ((i:Int)∈rows)&&(q.target.hold||(q.target.index != (i:Int))))=false:=by
     rw [Bool.eq_false_iff];intro hh;rw [yb,yd] at hh;exact hr hh
    rw [this];simp only [ye,if_false,gmax_le_iff];constructor
    ·intro h;exact ⟨by omega,λh1 h2=>absurd ⟨h1,h2⟩ hr⟩
    ·intro h;omega
  ·rw [if_pos (by simpa using hk)];simp [hk]
 constructor
 ·intro hh i hi;exact (key i hi).1 (hh i (yJ.2 hi))
 ·intro hh i hi;exact (key i (yJ.1 hi)).2 (hh i (yJ.1 hi))
theorem Scene.lenP (h:Scene n m q a b s):s.length=(boxM m).length:=h.state.len
theorem raised_keep (h:Scene n m q a b s) {x} (hx:x∈m.actions) {c} (hc:c∈m.constraints) (hk:c.kind=1) (hno:¬ 0<(((zi n x c).getD []).length:Int)) (hs:zX c s=true):zX c (plusP s x.effect.delta)=true:=by
 have hn:=h.fuel;have hL:=h.len;obtain ⟨k,k1,k2⟩:=(h.conOK hc).mul hk;have hxo:=(zgy h.small hx).delta;rw [zdu k1 (by omega) (by omega) (by omega) (by omega),yf] at hno;obtain ⟨size,z1,z2,z3,z4,z5⟩:=(h.conOK hc).sz hk;have hKs:k=size*size:=by
  have:size*size≤36:=y0 z3 z3;have e:mul64 c.size c.size=((size*size:Nat):Int):=by
   rw [z1,zc5 (by rw [← yH];omega) (by rw [← yH];omega)];simp
  rw [k1] at e;omega
 refine graph_keeps hk ⟨z1,z2,z3,z4,by rw [h.lenP];exact z5,by rw [h.lenP];omega⟩ (λj hj=>?_) hs;have:=raised_nil (p:=zeC x.effect.delta c) (k:=k) (i:=0) (by omega) j (by omega) (by omega);unfold zeC at this;have e:add64 c.first (j:Int)=c.first+(j:Int):=zaq (by omega) (by omega)
 rw [e] at this;simpa using this
theorem graphsH_iff (h:Scene n m q a b s):(zbe n m q a b).all (zeB s)=true↔∀ i (hi:i<m.constraints.length),m.constraints[i].kind=1 →
  (zX m.constraints[i] s=true∧zX m.constraints[i] (plusP s a.effect.delta)=true)∧zX m.constraints[i] (plusP s b.effect.delta)=true:=by
 have hn:1000000≤n:=by have:=h.fuel;omega
 have hL:=h.len;unfold zbe;rw [List.all_flatMap,yi];have key:∀ i (hi:i<m.constraints.length),((gS n (q.e != q.f) a b (m.constraints.getD i default)).all (zeB s)=true↔(m.constraints[i].kind=1 →
   (zX m.constraints[i] s=true∧zX m.constraints[i] (plusP s a.effect.delta)=true)∧zX m.constraints[i] (plusP s b.effect.delta)=true)):=λi hi=>by
  have e:m.constraints.getD i default=m.constraints[i]:=by simp [List.getD,hi]
  rw [e];have hc:=yg hi;unfold gS;by_cases hk:m.constraints[i].kind=1
  ·rw [if_neg (by simp [hk]),show (zi n b m.constraints[i]).getD default=(zi n b m.constraints[i]).getD [] from rfl];have hco:=h.conOK hc;have g2:zeB s (gr n m.constraints[i] λq0=>zbB n q0)=zX m.constraints[i] s:=
    gr_holds (fP:=λ_=>0) hco hk h.lenP (by omega) (λ_=>rfl) (λ_=>by omega) (λi _ _=>by omega) hn
   have g3:zeB s (gr n m.constraints[i] λq0=>zm n q0 a)=zX m.constraints[i] (plusP s a.effect.delta):=
    gr_holds (fP:=zg a.effect.delta) hco hk h.lenP (by omega) (λz=>by unfold zm;rw [h.sA.added hn];rfl) (λz=>by have:=zcM h.dA.1 z;omega) (λi h0 h1=>zfk h0 (by rw [h.lenP];exact h1)) hn
   have g4:zeB s (gr n m.constraints[i] λq0=>zae n q0 b)=zX m.constraints[i] (plusP s b.effect.delta):=
    gr_holds (fP:=zg b.effect.delta) hco hk h.lenP (by omega) (λz=>by unfold zae;rw [h.sB.added hn];rfl) (λz=>by have:=zcM h.dB.1 z;omega) (λi h0 h1=>zfk h0 (by rw [h.lenP];exact h1)) hn
   have k3:=λhno=>raised_keep h (zaf h.ha) hc hk hno
   have k4:=λhno=>raised_keep h (zaf h.hb) hc hk hno
   rw [List.all_append,List.all_append];simp only [y7,List.all_nil,ug,g2,hk,true_imp_iff];by_cases h3:0<(((zi n a m.constraints[i]).getD []).length:Int)
   ·rw [if_pos (by simpa using h3)];simp only [y7,List.all_nil,ug,g3];cases hef:(q.e != q.f) with
    | false=>
     have hab:=h.same hef;subst hab;simp only [yX,ye,if_false,List.all_nil,ug,yb];exact ⟨λh=>⟨h,h.2⟩,λh=>h.1⟩
    | true=>
     by_cases h4:0<(((zi n b m.constraints[i]).getD []).length:Int)
     ·rw [if_pos (by simpa using h4)];simp only [y7,List.all_nil,ug,g4,yb,and_assoc]
     ·rw [if_neg (by simpa using h4)];simp only [List.all_nil,ug,yb];exact ⟨λh=>⟨h,k4 h4 h.1⟩,λh=>h.1⟩
   ·rw [if_neg (by simpa using h3)];simp only [List.all_nil,yE];cases hef:(q.e != q.f) with
    | false=>
     have hab:=h.same hef;subst hab;simp only [yX,ye,if_false,List.all_nil,ug];exact ⟨λh=>⟨⟨h,k3 h3 h⟩,k3 h3 h⟩,λh=>h.1.1⟩
    | true=>
     by_cases h4:0<(((zi n b m.constraints[i]).getD []).length:Int)
     ·rw [if_pos (by simpa using h4)];simp only [y7,List.all_nil,ug,g4,yb];exact ⟨λh=>⟨⟨h.1,k3 h3 h.1⟩,h.2⟩,λh=>⟨h.1.1,h.2⟩⟩
     ·rw [if_neg (by simpa using h4)];simp only [List.all_nil,ug];exact ⟨λh=>⟨⟨h,k3 h3 h⟩,k4 h4 h⟩,λh=>h.1.1⟩
  ·rw [if_pos (by simpa using hk)];simp [hk]
 constructor
 ·intro hh i hi;exact (key i hi).1 (hh i (yJ.2 hi))
 ·intro hh i hi;exact (key i (yJ.1 hi)).2 (hh i (yJ.1 hi))
theorem holdsH_iff (h:Scene n m q a b s):(zcp q a b).all (rowH s)=(a.effect.hold.all (λr=>zX ⟨0,0,r,0,0⟩ s)&&b.effect.hold.all (λr=>zX ⟨0,0,r,0,0⟩ s)):=by
 have e:(λr=>zX ⟨0,0,r,0,0⟩ s)=rowH s:=by
  funext r;unfold rowH;exact zcP rfl s
 rw [e];unfold zcp;rw [List.all_append];cases hef:(q.e != q.f) with
 | false=>
  have hab:=h.same hef;subst hab;simp
 | true=>simp
theorem target_iff {Y cs} (h:Scene n m q a b s) (hT:Tgt n m q a b (boxM m) Y cs)
  (hg:∀ c∈m.constraints,c.kind=1→zX c (plusP s a.effect.delta)=true∧zX c (plusP s b.effect.delta)=true) :
  (Y.all (rowH s)&&(cs.isEmpty||cs.any (λrows=>rows.all (rowH s))))=brokenP m q a b s:=by
 have hn:1000000≤n:=by have:=h.fuel;omega
 have hgood:=box_good h.valid.lay;unfold brokenP;cases hT with
 | hold r h1 h2=>
  rw [if_pos h1,h2,yf,zcP rfl];have hro:=h.dA.2 r (zaf h2);have hlen:=h.oA.terms r (zaf h2);have hbd : -1000000000≤r.bound∧r.bound≤1000000000:=by
   simp only [rowOK,zar,yb,yd] at hro;omega
  have ht:∀ t∈r.terms,zfs (boxM m).length t:=by
   simp only [rowOK,yb] at hro;exact zeN hro.1 (by decide)
  have hf:∀ t∈r.terms,-1000≤t.factor∧t.factor≤1000:=λt h=>(ht t h).2.2
  have hb:=chgN_bd h.oB h.dB.1 hf hlen hn;simp only [y7,List.all_nil,ug,List.isEmpty_nil,uH];rw [negRow_H ht hbd (by omega),chgN_eq h.oB h.dB.1 hf hlen hn,zgv (by rw [h.lenP];exact ht)]
 | row c h1 h2 hk=>
  rw [if_neg (by simp [h1]),h2,yf,zcP hk];obtain ⟨ht,hlen,hbd,ea,eb,ba,bb⟩:=h.row (zaf h2) hk;simp only [y7,List.all_nil,ug,List.isEmpty_nil,uH];rw [zaq (by omega) (by omega),negRow_H ht hbd (by omega),zgv (by rw [zdT];exact ht),zgv ht,ea,eb,Int.add_assoc]
 | none c k h1 h2 hk hz he=>
  rw [if_neg (by simp [h1]),h2,yf];obtain ⟨size,z1,z2,z3,z4,z5⟩:=(h.conOK (zaf h2)).sz hk;have hks:k=size:=by omega
  subst hks;obtain ⟨ga,gb⟩:=hg c (zaf h2) hk;rw [← cases_iff hk z1 z3 z4 z5 hgood h.box (by have:=h.len;omega) h.dA.1 h.dB.1 ga gb,he];rfl
 | graph c k h1 h2 hk hz he=>
  rw [if_neg (by simp [h1]),h2,yf];obtain ⟨size,z1,z2,z3,z4,z5⟩:=(h.conOK (zaf h2)).sz hk;have hks:k=size:=by omega
  subst hks;obtain ⟨ga,gb⟩:=hg c (zaf h2) hk;rw [← cases_iff hk z1 z3 z4 z5 hgood h.box (by have:=h.len;omega) h.dA.1 h.dB.1 ga gb];have:(zfd (zg a.effect.delta) (zg b.effect.delta) (boxM m) c k).isEmpty=false:=by
   rw [Bool.eq_false_iff];intro hh;exact he (List.isEmpty_iff.1 hh)
  rw [this];rfl
theorem means_iff {Y cs} (h:Scene n m q a b s) (hT:Tgt n m q a b (boxM m) Y cs) (hrows:∀ i∈rows,∃ (k:Nat) (hk:k<m.constraints.length),i=(k:Int)∧m.constraints[k].kind=0) :
  (((rowsR n m q rows a b++(zcp q a b++Y)).all (rowH s)&&(zbe n m q a b).all (zeB s))&&(cs.isEmpty||cs.any (λrows=>rows.all (rowH s))))=showsP m q rows a b s:=by
 rw [List.all_append,List.all_append,holdsH_iff h];have h1:=rowsR_iff (rows:=rows) h;have h2:=graphsH_iff h;have kinds:∀ c∈m.constraints,c.kind=0∨c.kind=1:=λc hc=>(h.conOK hc).kind
 have base:((rowsR n m q rows a b).all (rowH s)=true∧(a.effect.hold.all (λr=>zX ⟨0,0,r,0,0⟩ s)=true∧b.effect.hold.all (λr=>zX ⟨0,0,r,0,0⟩ s)=true))∧(zbe n m q a b).all (zeB s)=true ↔
   (possP m a.effect s=true∧possP m b.effect s=true)∧rows.all (λi=>!(relB q i&&!zX ((idx m.constraints i).getD default) (plusP (plusP s a.effect.delta) b.effect.delta)))=true:=by
  rw [h1,h2];unfold possP;simp only [yb,yi];constructor
  ·rintro ⟨⟨r1,r2,r3⟩,g1⟩;have hall:∀ c∈m.constraints,(zX c s=true∧zX c (plusP s a.effect.delta)=true)∧zX c (plusP s b.effect.delta)=true:=λc hc=>by
    obtain ⟨i,hi,rfl⟩:=List.getElem_of_mem hc;rcases kinds _ hc with hk | hk
    ·exact (r1 i hi hk).1
    ·exact g1 i hi hk
   refine ⟨⟨⟨λc hc=>(hall c hc).1,r2⟩,λc hc=>⟨(hall c hc).1.1,(hall c hc).2⟩,r3⟩,λi hi=>?_⟩;obtain ⟨k,hk,rfl,hk0⟩:=hrows i hi;rw [za hk,yf];cases hr:relB q (k:Int) with
   | false=>rfl
   | true=>rw [(r1 k hk hk0).2 hi hr];rfl
  ·rintro ⟨⟨⟨a1,a2⟩,b1,b2⟩,r1⟩;refine ⟨⟨λi hi hk=>⟨⟨a1 _ (yg hi),(b1 _ (yg hi)).2⟩,λhm hr=>?_⟩,a2,b2⟩,λi hi hk=>⟨a1 _ (yg hi),(b1 _ (yg hi)).2⟩⟩;have:=r1 _ hm;rw [za hi,yf,hr] at this;simpa using this
 rw [Bool.eq_iff_iff];unfold showsP;have tgt:((rowsR n m q rows a b).all (rowH s)=true∧(a.effect.hold.all (λr=>zX ⟨0,0,r,0,0⟩ s)=true∧b.effect.hold.all (λr=>zX ⟨0,0,r,0,0⟩ s)=true))∧(zbe n m q a b).all (zeB s)=true →
   ((Y.all (rowH s)&&(cs.isEmpty||cs.any (λrows=>rows.all (rowH s))))=true↔brokenP m q a b s=true):=λhb=>by
  rw [target_iff h hT λc hc hk=>?_];obtain ⟨i,hi,rfl⟩:=List.getElem_of_mem hc;have:=h2.1 hb.2 i hi hk;exact ⟨this.1.2,this.2⟩
 simp only [yb] at base tgt ⊢;constructor
 ·rintro ⟨⟨⟨r1,r2,r3⟩,r4⟩,r5⟩;have hb:=base.1 ⟨⟨r1,r2⟩,r4⟩;exact ⟨hb.1,hb.2,(tgt ⟨⟨r1,r2⟩,r4⟩).1 ⟨r3,r5⟩⟩
 ·rintro ⟨r1,r2,r3⟩;have hb:=base.2 ⟨r1,r2⟩;obtain ⟨y1,y2⟩:=(tgt hb).2 r3;exact ⟨⟨⟨hb.1.1,hb.1.2,y1⟩,hb.2⟩,y2⟩
end
theorem badR_ok {m} {rows:List Int} (h:(rows.all λx=>!badR m x)=true):∀ i∈rows,∃ (k:Nat) (hk:k<m.constraints.length),i=(k:Int)∧m.constraints[k].kind=0:=λi hi=>by
 have:=yi.1 h i hi;unfold badR at this;simp only [yz,uf,yF,Int.not_lt,Int.not_le,bne_eq_false_iff_eq] at this;obtain ⟨⟨h1,h2⟩,h3⟩:=this;obtain ⟨k,rfl⟩:=yR h1;have hk:k<m.constraints.length:=by omega
 rw [za hk,yf] at h3;exact ⟨k,hk,rfl,h3⟩
theorem System_told {n m q rows a b} (hF:Fuel n) (hS:SmallM m) (hV:ValidM m) (hq:zd3 m q=true) (ha:idx m.actions q.e=some a) (hb:idx m.actions q.f=some b) (hK:(boxM m).length≤12) (hl:rows.length≤1000) :
  (∃ e,zc n m q rows=some (⟨[],[],[],[]⟩,e)∧e≠0)∨((rows.all λx=>!badR m x)=true∧∃ Y cs,Tgt n m q a b (boxM m) Y cs∧SysOK (rowsR n m q rows a b++(zcp q a b++Y)) (zbe n m q a b) cs∧sysP (boxM m).length (rowsR n m q rows a b++(zcp q a b++Y)) (zbe n m q a b) cs=true ∧
   zc n m q rows=some (⟨boxM m,rowsR n m q rows a b++(zcp q a b++Y),zbe n m q a b,cs⟩,0)):=by
 have hn:=hF.big;have hn1:1000000≤n:=by omega
 obtain ⟨q1,q2,q3,q4,q5⟩:=zeX hq;have hA:=zgy hS (zaf ha);have hB:=zgy hS (zaf hb);have sA:=zfp hn hS hV (zaf ha);have sB:=zfp hn hS hV (zaf hb);have hC:∀ c∈m.constraints,ConOK (boxM m).length c:=λc hc=>con_ok hS hV hc
 have hgood:=box_good hV.lay;have hcl:=hS.constraints;have hct:∀ c∈m.constraints,c.row.terms.length≤1000:=λc hc=>(hC c hc).len
 rw [System_closed (rows:=rows) hF hS hV hq ha hb hA hB hC hl];by_cases hbad:(rows.all λx=>!badR m x)=true
 case neg=>
  rw [if_neg hbad];exact .inl ⟨2,rfl,by decide⟩
 rw [if_pos hbad];obtain ⟨Y,cs,hT,hX,hG,hcs,htail⟩:=tail3_eq (n:=n) (m:=m) (q:=q) (box:=boxM m) hA hB hC sA sB (by omega) (by omega) (λh=>⟨q3,q4 h a ha⟩) (λh=>⟨q3,(q5 h).2⟩) hn1;have hshort:=rowsR_short (n:=n) (q:=q) (rows:=rows) (a:=a) (b:=b) hcl hct;have hso:=sysOK_of hshort hX hG hcs;rw [htail _ (by have:=hshort.1;omega),system_Valid_eq hgood (by omega) hso hn1];cases hP:sysP (boxM m).length (rowsR n m q rows a b++(zcp q a b++Y)) (zbe n m q a b) cs with
 | false=>exact .inl ⟨8,by simp [endS],by decide⟩
 | true=>exact .inr ⟨hbad,Y,cs,hT,hso,hP,by simp [endS]⟩
def elemP (s:Swap) (x:Int):Int:=if x=s.a then s.b else if x=s.b then s.a else x
theorem element_eq {n s x}:zc8 n s x=some (elemP s x):=by
 unfold zc8 elemP;simp only [beq_iff_eq];by_cases h:x=s.a
 ·rw [if_pos h,if_pos h]
 ·rw [if_neg h,if_neg h];by_cases h2:x=s.b
  ·rw [if_pos h2,if_pos h2]
  ·rw [if_neg h2,if_neg h2]
structure SwapOK (sizes:List Int) (s:Swap):Prop where
 sort:colOK sizes s.sort=true
 a:0≤s.a
 ab:s.a<s.b
 b:s.b<sizes.getD s.sort.toNat 0
def nK (sizes:List Int) (c:Int):Nat:=(sizes.getD c.toNat 0).toNat
def colS (s:Swap) (c:Int) (x:Nat):Nat:=if c=s.sort then (elemP s (x:Int)).toNat else x
theorem nK_ok {sizes:List Int} (hs:sizes.all zbJ=true) {c} (hc:colOK sizes c=true):((nK sizes c:Nat):Int)=sizes.getD c.toNat 0∧1≤nK sizes c∧nK sizes c≤6:=by
 have:=yi.1 hs _ (zaf (zd7 hc));simp only [zbJ,yb,yd] at this;unfold nK;omega
section
variable {sizes:List Int} {s:Swap} (h:SwapOK sizes s)
include h
theorem elem_nat (x:Nat):((elemP s (x:Int)).toNat:Int)=elemP s (x:Int):=by
 have h1:=h.a;have h2:=h.ab;unfold elemP;split
 ·omega
 ·split <;> omega
theorem colS_lt {c:Int} {x:Nat} (hx:x<nK sizes c):colS s c x<nK sizes c:=by
 have h1:=h.a;have h2:=h.ab;have h3:=h.b;unfold colS;by_cases e:c=s.sort
 ·rw [if_pos e];subst e;unfold nK elemP at *;split
  ·omega
  ·split <;> omega
 ·rw [if_neg e];exact hx
theorem colS_inv {c:Int} {x:Nat}:colS s c (colS s c x)=x:=by
 have h1:=h.a;have h2:=h.ab;unfold colS;by_cases e:c=s.sort
 ·rw [if_pos e,if_pos e,elem_nat h];unfold elemP;by_cases e1:(x:Int)=s.a
  ·rw [if_pos e1,if_neg (by omega),if_pos rfl];omega
  ·rw [if_neg e1];by_cases e2:(x:Int)=s.b
   ·rw [if_pos e2,if_pos rfl];omega
   ·rw [if_neg e2,if_neg e1,if_neg e2];omega
 ·rw [if_neg e,if_neg e]
end
def digP (sizes:List Int) (s:Swap):List Int→Nat→Nat
 | [],_=>0
 | c::cs,r=>colS s c (r % nK sizes c)+nK sizes c*digP sizes s cs (r / nK sizes c)
def wN (sizes:List Int):List Int→Nat
 | []=>1
 | c::cs=>nK sizes c*wN sizes cs
theorem wN_append (sizes:List Int):∀ l m:List Int,wN sizes (l++m)=wN sizes l*wN sizes m
 | [],m=>by simp [wN]
 | c::l,m=>by simp only [ud,wN,wN_append sizes l m,Nat.mul_assoc]
theorem dig_pos {sizes:List Int} {c:Int} {cs:List Int} {r:Nat} (hr:r<wN sizes (c::cs)):0<nK sizes c∧r / nK sizes c<wN sizes cs:=by
 have h0:0<nK sizes c:=by
  rcases Nat.eq_zero_or_pos (nK sizes c) with e | e
  ·rw [wN,e] at hr;simp at hr
  ·exact e
 exact ⟨h0,Nat.div_lt_of_lt_mul hr⟩
theorem dig_lt {sizes:List Int} {s:Swap} (h:SwapOK sizes s):∀ (cs:List Int) (r:Nat),r<wN sizes cs→digP sizes s cs r<wN sizes cs
 | [],r,hr=>by simp [digP,wN]
 | c::cs,r,hr=>by
  obtain ⟨h0,h1⟩:=dig_pos hr;have h2:=colS_lt h (Nat.mod_lt r h0);have h3:=Nat.mul_le_mul_left (nK sizes c) (dig_lt h cs _ h1);rw [Nat.mul_succ] at h3;simp only [digP,wN];omega
theorem dig_inv {sizes:List Int} {s:Swap} (h:SwapOK sizes s):∀ (cs:List Int) (r:Nat),r<wN sizes cs→digP sizes s cs (digP sizes s cs r)=r
 | [],r,hr=>by simp [digP,wN] at hr ⊢;omega
 | c::cs,r,hr=>by
  obtain ⟨h0,h1⟩:=dig_pos hr;have h2:=colS_lt h (Nat.mod_lt r h0);simp only [digP];rw [Nat.add_mul_mod_self_left,Nat.mod_eq_of_lt h2,Nat.add_mul_div_left _ _ h0,Nat.div_eq_of_lt h2,uz,colS_inv h,dig_inv h cs _ h1];exact Nat.mod_add_div r _
theorem width_w {sizes:List Int} (hs:sizes.all zbJ=true):∀ (cols:List Int) (x:Nat),cols.all (colOK sizes)=true→x*6 ^ cols.length≤1000000→zaa sizes cols (x:Int)=((x*wN sizes cols.reverse:Nat):Int)
 | [],x,_,_=>by simp [zaa,wN]
 | c::cols,x,hc,hx=>by
  simp only [y7,yb] at hc;obtain ⟨k1,k2,k3⟩:=nK_ok hs hc.1;rw [yO,uM] at hx;have hp:1≤6 ^ cols.length:=uR _ _ (by decide);have h1:x*nK sizes c*6 ^ cols.length≤1000000:=by
   refine ua ?_ hx;rw [Nat.mul_assoc];refine Nat.mul_le_mul_left _ ?_;rw [Nat.mul_comm];exact Nat.mul_le_mul_left _ k3
  have h2:x*nK sizes c≤1000000:=ua (Nat.le_mul_of_pos_right _ hp) h1;have e:mul64 (x:Int) (sizes.getD c.toNat 0)=((x*nK sizes c:Nat):Int):=by
   rw [← k1,zc5 (by rw [← yH];omega) (by rw [← yH];omega),yH]
  rw [zaa,e,width_w hs cols _ hc.2 h1,List.reverse_cons,wN_append];simp only [wN,Nat.mul_one];rw [Nat.mul_assoc,Nat.mul_comm (nK sizes c)]
theorem width_3 {sizes:List Int} (hs:sizes.all zbJ=true) {cols:List Int} (hc:cols.all (colOK sizes)=true) (h3:cols.length≤3):zaa sizes cols 1=((wN sizes cols.reverse:Nat):Int)∧1≤wN sizes cols.reverse∧wN sizes cols.reverse≤216:=by
 have hp:6 ^ cols.length≤6 ^ 3:=uy (by decide) h3;have e:=width_w hs cols 1 hc (by omega);rw [Nat.one_mul] at e;have:=zft hs hc h3;refine ⟨e,?_,?_⟩ <;> (rw [show ((1:Nat):Int)=1 from rfl] at e;omega)
theorem rem64_nat {r k:Nat} (h0:0<k) (hr:r≤1000000):rem64 (r:Int) (k:Int)=some ((r % k:Nat):Int):=by
 unfold rem64;rw [if_neg (by omega),Int.tmod_eq_emod_of_nonneg (by omega)];congr 1
theorem quo64_nat {r k:Nat} (h0:0<k) (hr:r≤1000000):quo64 (r:Int) (k:Int)=some ((r / k:Nat):Int):=by
 have:=Nat.div_le_self r k;have e:((r:Int) / (k:Int))=((r / k:Nat):Int):=by simp
 unfold quo64;rw [if_neg (by omega),Int.tdiv_eq_ediv_of_nonneg (by omega),e];generalize r / k=q at this;rw [zbK (by omega) (by omega)]
theorem move_dig {n m s t} {rest:Nat} (h:SwapOK m.sorts s) (hs:m.sorts.all zbJ=true) (hc:t.columns.all (colOK m.sorts)=true) (h3:t.columns.length≤3) (hr:rest<wN m.sorts t.columns.reverse) (hn:1000000≤n) :
  loopF (zaM.l2 n m s t) n ((rest:Int),0,1,sub64 (t.columns.length:Int) 1)=some (add64 t.first ((digP m.sorts s t.columns.reverse rest:Nat):Int)):=by
 have hw:=(width_3 hs hc h3).2.2;have hd:=dig_lt h _ _ hr;have hlen:t.columns.reverse.length=t.columns.length:=List.length_reverse;have:=zbo (body:=zaM.l2 n m s t) (len:=t.columns.length) (st:=λ(x:Nat×Nat×Nat) i=>((x.1:Int),(x.2.1:Int),(x.2.2:Int),(t.columns.length:Int) - 1 - (i:Int))) (g:=λ_ _=>some (add64 t.first ((digP m.sorts s t.columns.reverse rest:Nat):Int)))
  (λi x=>x.2.1+x.2.2*digP m.sorts s (t.columns.reverse.drop i) x.1=digP m.sorts s t.columns.reverse rest∧x.1<wN m.sorts (t.columns.reverse.drop i)∧x.1≤216∧x.2.2≤6 ^ i) (λrec i x hi hI hrec=>?_) (λrec x hI=>?_) n 0 (rest,0,1) (yp _) (by omega) ⟨by simp,hr,by omega,by simp⟩
 ·have e:sub64 (t.columns.length:Int) 1=(t.columns.length:Int) - 1 - ((0:Nat):Int):=by rw [zeJ (by omega) (by omega)];omega
  rw [e];exact this
 ·obtain ⟨r,out,unit⟩:=x;obtain ⟨I1,I2,I3,I4⟩:=hI;simp only at I1 I2 I3 I4;have hi':i<t.columns.reverse.length:=by omega
  rw [zh hi'] at I1 I2;obtain ⟨c,hcdef⟩:∃ c,c=t.columns.reverse[i]:=⟨_,rfl⟩
  rw [← hcdef] at I1 I2;have hidx:idx t.columns ((t.columns.length:Int) - 1 - (i:Int))=some c:=by
   have e:(t.columns.length:Int) - 1 - (i:Int)=((t.columns.length - 1 - i:Nat):Int):=by omega
   rw [e,za (by omega),hcdef,List.getElem_reverse]
  have hcol:=yi.1 hc c (zaf hidx);obtain ⟨k1,k2,k3⟩:=nK_ok hs hcol;obtain ⟨p0,p1⟩:=dig_pos I2;simp only [digP] at I1;have hp6:6 ^ i≤6 ^ 2:=uy (by decide) (by omega);have hcs:=colS_lt h (Nat.mod_lt r p0);have hge:decide ((0:Int)≤(t.columns.length:Int) - 1 - (i:Int))=true:=by simp;omega
  have hm1:unit*colS s c (r % nK m.sorts c)≤216:=by
   rw [Nat.mul_add] at I1;omega
  have hm2:unit*nK m.sorts c≤36*6:=y0 (by omega) k3;have hlast:sub64 ((t.columns.length:Int) - 1 - (i:Int)) 1=(t.columns.length:Int) - 1 - ((i+1:Nat):Int):=by rw [zeJ (by omega) (by omega)];omega
  have ecol:(if (c==s.sort)=true then (zc8 n s ((r % nK m.sorts c:Nat):Int)) else some ((r % nK m.sorts c:Nat):Int))=some ((colS s c (r % nK m.sorts c):Nat):Int):=by
   unfold colS;by_cases e:c=s.sort
   ·rw [if_pos (by simpa using e),if_pos e,element_eq,elem_nat h]
   ·rw [if_neg (by simpa using e),if_neg e]
  have hnext:=hrec (r / nK m.sorts c,out+unit*colS s c (r % nK m.sorts c),unit*nK m.sorts c) ⟨by rw [← I1];simp only [];rw [Nat.mul_add,Nat.mul_assoc,Nat.add_assoc],p1,by have:=Nat.div_le_self r (nK m.sorts c);simp only [];omega,by
   rw [uM];exact y0 I4 k3⟩
  simp only [zaM.l2,hge,if_true,hidx,ya,zd7 hcol,← k1,rem64_nat p0 (show r≤1000000 by omega),jn,quo64_nat p0 (show r≤1000000 by omega),hlast];have hfin:∀ y:Nat,y=colS s c (r % nK m.sorts c)→rec (((r / nK m.sorts c:Nat):Int),add64 (out:Int) (mul64 (y:Int) (unit:Int)),mul64 (unit:Int) (nK m.sorts c:Int),(t.columns.length:Int) - 1 - ((i+1:Nat):Int))=some (add64 t.first ((digP m.sorts s t.columns.reverse rest:Nat):Int)):=λy hy=>by
   subst hy;have e1:mul64 ((colS s c (r % nK m.sorts c):Nat):Int) (unit:Int)=((unit*colS s c (r % nK m.sorts c):Nat):Int):=by
    rw [zc5 (by rw [← yH,Nat.mul_comm];omega) (by rw [← yH,Nat.mul_comm];omega),← yH,Nat.mul_comm]
   have e2:mul64 (unit:Int) (nK m.sorts c:Int)=((unit*nK m.sorts c:Nat):Int):=by
    rw [zc5 (by rw [← yH];omega) (by rw [← yH];omega),← yH]
   rw [e1,e2,zcL (by omega)];exact hnext
  by_cases e:(c==s.sort)=true
  ·rw [if_pos e] at ecol;rw [if_pos e,ecol,ya];exact hfin _ rfl
  ·rw [if_neg e] at ecol;rw [if_neg e];have:=Option.some.inj ecol;exact hfin _ (by omega)
 ·obtain ⟨r,out,unit⟩:=x;obtain ⟨I1,-⟩:=hI;simp only [zaM.l2];rw [if_neg (by simp;omega)];rw [← hlen,List.drop_length] at I1;simp only [digP,Nat.mul_zero,ut] at I1;rw [I1]
def mvT (sizes:List Int) (s:Swap) (strict:Bool):List Table→Int→Int
 | [],_=>-1
 | t::l,c=>if (zaG t.kind==strict&&(decide (t.first≤c)&&decide (c<t.first+zaa sizes t.columns 1)))=true then t.first+((digP sizes s t.columns.reverse (c - t.first).toNat:Nat):Int) else mvT sizes s strict l c
theorem tab_ok {sizes:List Int} {t:Table} (h:tabP sizes t=true):t.columns.length≤3∧t.columns.all (colOK sizes)=true:=by
 simp only [tabP,yb,yd] at h;exact h.1.2
theorem zfU {sizes:List Int} (hs:sizes.all zbJ=true):∀ {l:List Table} {seen:List (List UInt8)} {a b:Int},layP sizes seen a b l=true→0≤a→0≤b→a+216*(l.length:Int)≤1000000→b+216*(l.length:Int)≤1000000 →
  ∀ t∈l,0≤t.first∧t.first≤1000000∧(if zaG t.kind=true then a else b)≤t.first
 | [],_,_,_,_,_,_,_,_,t,ht=>by simp at ht
 | x::l,seen,a,b,h,ha,hb,h1,h2,t,ht=>by
  have hw:=width_3 hs (tab_ok (zdP h x (by simp))).2 (tab_ok (zdP h x (by simp))).1;simp only [layP,yb] at h;have h3:=h.2;simp only [yO] at h1 h2;have hcast:((l.length+1:Nat):Int)=(l.length:Int)+1:=by omega
  rw [hcast] at h1 h2;by_cases hx:zaG x.kind=true
  ·rw [if_pos hx] at h3;simp only [yb,beq_iff_eq] at h3;rw [zaq (by omega) (by omega)] at h3;rcases yM.1 ht with rfl | ht
   ·rw [if_pos hx];omega
   ·have:=zfU hs h3.2 (by omega) hb (by omega) (by omega) t ht;by_cases e2:zaG t.kind=true
    ·rw [if_pos e2] at this ⊢;omega
    ·rw [if_neg e2] at this ⊢;omega
  ·rw [if_neg hx] at h3;simp only [yb,beq_iff_eq] at h3;rw [zaq (by omega) (by omega)] at h3;rcases yM.1 ht with rfl | ht
   ·rw [if_neg hx];omega
   ·have:=zfU hs h3.2 ha (by omega) (by omega) (by omega) t ht;by_cases e2:zaG t.kind=true
    ·rw [if_pos e2] at this ⊢;omega
    ·rw [if_neg e2] at this ⊢;omega
theorem lay_big {m:Model} (hL:zaV m.sorts m.tables=true):m.sorts.all zbJ=true∧layP m.sorts [] 0 0 m.tables=true∧m.tables.length≤12:=by
 obtain ⟨-,l2,l3,-⟩:=zbi hL;simp only [zaV,yb] at hL;exact ⟨l3,hL.2,l2⟩
def mvS (sizes:List Int) (s:Swap) (strict:Bool):List Table→Int→Int
 | [],_=>-1
 | t::l,c=>if (zaG t.kind==strict&&(decide (0≤sub64 c t.first)&&decide (sub64 c t.first<zaa sizes t.columns 1)))=true then t.first+((digP sizes s t.columns.reverse (sub64 c t.first).toNat:Nat):Int) else mvS sizes s strict l c
theorem mvS_eq {sizes:List Int} {s:Swap} {strict:Bool} {c:Int} (hc : -1000000≤c∧c≤1000000):∀ {l:List Table},(∀ t∈l,0≤t.first∧t.first≤1000000)→mvS sizes s strict l c=mvT sizes s strict l c
 | [],_=>rfl
 | t::l,h=>by
  have ht:=h t (by simp);have e:sub64 c t.first=c - t.first:=zeJ (by omega) (by omega)
  have e1:(decide (0≤c - t.first)&&decide (c - t.first<zaa sizes t.columns 1))=(decide (t.first≤c)&&decide (c<t.first+zaa sizes t.columns 1)):=by
   rw [Bool.eq_iff_iff];simp only [yb,yd];omega
  rw [mvS,mvT,e,e1,mvS_eq hc λu hu=>h u (by simp [hu])]
theorem moveS_eq {m s n c strict} (h:SwapOK m.sorts s) (hL:zaV m.sorts m.tables=true) (hn:1000000≤n):zaM n m s c strict=some (mvS m.sorts s strict m.tables c):=by
 obtain ⟨hs,hlay,hl⟩:=lay_big hL;have:=zE (body:=zaM.l1 n m s c strict) (len:=m.tables.length) (st:=λi=>(i:Int)) (g:=λi=>some (mvS m.sorts s strict (m.tables.drop i) c)) (λrec i hi hr=>?_) (λrec=>?_) n 0 (yp _) (by omega)
 ·simpa [zaM] using this
 ·have ht:=yg hi;obtain ⟨f1,f2,-⟩:=zfU hs hlay (Int.le_refl _) (Int.le_refl _) (by omega) (by omega) _ ht;obtain ⟨t1,t2⟩:=tab_ok (zdP hlay _ ht);obtain ⟨w1,w2,w3⟩:=width_3 hs t2 t1;have hst:zcV n m.tables[i].kind=some (zaG m.tables[i].kind):=rfl;rw [zh hi,mvS];simp only [zaM.l1,zk hi,if_true,za hi,ya,hst,zfD t2 (by omega) hn,yj,yr,grd,yf,zb (i:=i) (by omega)];generalize hd:sub64 c m.tables[i].first=d
  by_cases hcond:(zaG m.tables[i].kind==strict&&(decide (0≤d)&&decide (d<zaa m.sorts m.tables[i].columns 1)))=true
  ·rw [if_pos hcond];simp only [yb,beq_iff_eq,yd] at hcond;obtain ⟨c1,c2,c3⟩:=hcond;rw [if_neg (by simp [c1];omega)];obtain ⟨rest,rfl⟩:=yR c2;have hlt:rest<wN m.sorts m.tables[i].columns.reverse:=by omega
   have hd:=dig_lt h _ _ hlt;rw [move_dig h hs t2 t1 hlt hn,yt,zaq (by omega) (by omega)]
  ·rw [if_neg hcond,if_pos,hr];simp only [yb,beq_iff_eq,yd,not_and,Int.not_lt] at hcond;by_cases e1:zaG m.tables[i].kind=strict
   ·by_cases e2:0≤d
    ·have:=hcond e1 e2;simp only [yw,yd];exact .inr (by omega)
    ·simp only [yw,yd];exact .inl (.inr (by omega))
   ·simp [e1]
 ·simp [zaM.l1,mvS]
theorem move_eq {m s n c strict} (h:SwapOK m.sorts s) (hL:zaV m.sorts m.tables=true) (hc : -1000000≤c∧c≤1000000) (hn:1000000≤n):zaM n m s c strict=some (mvT m.sorts s strict m.tables c):=by
 obtain ⟨hs,hlay,hl⟩:=lay_big hL;rw [moveS_eq h hL hn,mvS_eq hc λt ht=>by
  have:=zfU hs hlay (Int.le_refl _) (Int.le_refl _) (by omega) (by omega) t ht;exact ⟨this.1,this.2.1⟩]
section
variable {sizes:List Int} {s:Swap} (h:SwapOK sizes s) (hs:sizes.all zbJ=true)
include h hs
theorem mvT_main (strict:Bool):∀ {l:List Table} {seen:List (List UInt8)} {a b:Int},layP sizes seen a b l=true→0≤a→0≤b→a+216*(l.length:Int)≤1000000→b+216*(l.length:Int)≤1000000 →
  ∀ c,(if strict=true then a else b)≤c→c<(if strict=true then a else b)+((zA sizes strict l).length:Int) →
   ((if strict=true then a else b)≤mvT sizes s strict l c∧mvT sizes s strict l c<(if strict=true then a else b)+((zA sizes strict l).length:Int))∧mvT sizes s strict l (mvT sizes s strict l c)=c ∧
   (zA sizes strict l)[(mvT sizes s strict l c - (if strict=true then a else b)).toNat]? = (zA sizes strict l)[(c - (if strict=true then a else b)).toNat]?
 | [],_,_,_,_,_,_,_,_,c,h1,h2=>by simp [zA] at h2;omega
 | t::l,seen,a,b,hl,ha,hb,la,lb,c,h1,h2=>by
  obtain ⟨t1,t2⟩:=tab_ok (zdP hl t (by simp));obtain ⟨w1,w2,w3⟩:=width_3 hs t2 t1;simp only [layP,yb] at hl;have h3:=hl.2;simp only [yO] at la lb;have hcast:((l.length+1:Nat):Int)=(l.length:Int)+1:=by omega
  rw [hcast] at la lb;obtain ⟨w,hw⟩:∃ w,w=wN sizes t.columns.reverse:=⟨_,rfl⟩
  by_cases hk:zaG t.kind=strict
  ·have hfirst:t.first=if strict=true then a else b:=by
    rw [← hk];split at h3 <;> rename_i e
    ·simp only [yb,beq_iff_eq] at h3;rw [if_pos e];exact h3.1
    ·simp only [yb,beq_iff_eq] at h3;rw [if_neg e];exact h3.1
   have hnext:∃ seen' a' b',layP sizes seen' a' b' l=true∧(if strict=true then a' else b')=t.first+(w:Int)∧0≤a'∧0≤b'∧a'+216*(l.length:Int)≤1000000∧b'+216*(l.length:Int)≤1000000:=by
    rw [hfirst];split at h3 <;> rename_i e
    ·simp only [yb,beq_iff_eq] at h3;rw [w1,zaq (by omega) (by omega)] at h3;rw [← hk,if_pos e];exact ⟨_,_,_,h3.2,by rw [if_pos e,hw],by omega,hb,by omega,by omega⟩
    ·simp only [yb,beq_iff_eq] at h3;rw [w1,zaq (by omega) (by omega)] at h3;rw [← hk,if_neg e];exact ⟨_,_,_,h3.2,by rw [if_neg e,hw],ha,by omega,by omega,by omega⟩
   obtain ⟨seen',a',b',n1,n2,n3,n4,n5,n6⟩:=hnext;have hr:zA sizes strict (t::l)=List.replicate w t.range++zA sizes strict l:=by
    rw [zA,if_pos (by simp [hk]),w1,hw,yt]
   rw [← hfirst] at h1 h2 ⊢;rw [hr,yI,yW] at h2;rw [hr];have hcond:∀ x,(zaG t.kind==strict&&(decide (t.first≤x)&&decide (x<t.first+zaa sizes t.columns 1)))=decide (t.first≤x∧x<t.first+(w:Int)):=λx=>by
    rw [hk,w1,← hw,Bool.eq_iff_iff];simp
   by_cases hc:c<t.first+(w:Int)
   ·obtain ⟨r,hrr⟩:=yR (show 0≤c - t.first by omega);have hrw:r<wN sizes t.columns.reverse:=by omega
    have hd:=dig_lt h _ _ hrw;have hm:mvT sizes s strict (t::l) c=t.first+((digP sizes s t.columns.reverse r:Nat):Int):=by
     rw [mvT,hcond,if_pos (by simp only [yd];omega),hrr,yt]
    have hm2:mvT sizes s strict (t::l) (t.first+((digP sizes s t.columns.reverse r:Nat):Int))=c:=by
     rw [mvT,hcond,if_pos (by simp only [yd];omega)];have e:(t.first+((digP sizes s t.columns.reverse r:Nat):Int) - t.first).toNat=digP sizes s t.columns.reverse r:=by omega
     rw [e,dig_inv h _ _ hrw];omega
    rw [hm,hm2];refine ⟨⟨by omega,by rw [yI,yW];omega⟩,rfl,?_⟩;rw [ym (by rw [yW];omega),ym (by rw [yW];omega),List.getElem?_replicate,List.getElem?_replicate,if_pos (by omega),if_pos (by omega)]
   ·have hskip:∀ x,t.first+(w:Int)≤x→mvT sizes s strict (t::l) x=mvT sizes s strict l x:=λx hx=>by
     rw [mvT,hcond,if_neg (by simp only [yd];omega)]
    obtain ⟨i1,i2,i3⟩:=mvT_main strict n1 n3 n4 n5 n6 c (by rw [n2];omega) (by rw [n2];omega);rw [n2] at i1 i3;rw [hskip c (by omega),hskip _ i1.1];refine ⟨⟨by omega,by rw [yI,yW];omega⟩,i2,?_⟩;rw [yB (by rw [yW];omega),yB (by rw [yW];omega),yW];have e1:(mvT sizes s strict l c - t.first).toNat - w=(mvT sizes s strict l c - (t.first+(w:Int))).toNat:=by omega
    have e2:(c - t.first).toNat - w=(c - (t.first+(w:Int))).toNat:=by omega
    rw [e1,e2,i3]
  ·have hnext:∃ seen' a' b',layP sizes seen' a' b' l=true∧(if strict=true then a' else b')=(if strict=true then a else b)∧0≤a'∧0≤b'∧a'+216*(l.length:Int)≤1000000∧b'+216*(l.length:Int)≤1000000:=by
    split at h3 <;> rename_i e
    ·simp only [yb,beq_iff_eq] at h3;rw [w1,zaq (by omega) (by omega)] at h3;have hf:strict=false:=by cases strict <;> simp_all
     subst hf;exact ⟨_,_,_,h3.2,by simp,by omega,hb,by omega,by omega⟩
    ·simp only [yb,beq_iff_eq] at h3;rw [w1,zaq (by omega) (by omega)] at h3;have hf:strict=true:=by cases strict <;> simp_all
     subst hf;exact ⟨_,_,_,h3.2,by simp,ha,by omega,by omega,by omega⟩
   obtain ⟨seen',a',b',n1,n2,n3,n4,n5,n6⟩:=hnext;have hr:zA sizes strict (t::l)=zA sizes strict l:=by
    rw [zA,if_neg (by simpa using hk)]
   have hskip:∀ x,mvT sizes s strict (t::l) x=mvT sizes s strict l x:=λx=>by
    rw [mvT,if_neg (by simp [hk])]
   rw [hr,← n2] at h2 ⊢;rw [← n2] at h1;rw [hskip,hskip];exact mvT_main strict n1 n3 n4 n5 n6 c h1 h2
theorem mvT_at (strict:Bool):∀ {l:List Table} {seen:List (List UInt8)} {a b:Int},layP sizes seen a b l=true→0≤a→0≤b→a+216*(l.length:Int)≤1000000→b+216*(l.length:Int)≤1000000 →
  ∀ t∈l,zaG t.kind=strict→∀ c,t.first≤c→c<t.first+zaa sizes t.columns 1→mvT sizes s strict l c=t.first+((digP sizes s t.columns.reverse (c - t.first).toNat:Nat):Int)
 | [],_,_,_,_,_,_,_,_,t,ht,_,c,_,_=>by simp at ht
 | x::l,seen,a,b,hl,ha,hb,la,lb,t,ht,hk,c,h1,h2=>by
  rw [mvT];rcases yM.1 ht with rfl | ht'
  ·rw [if_pos (by rw [hk];simp [h1,h2])]
  ·obtain ⟨t1,t2⟩:=tab_ok (zdP hl x (by simp));obtain ⟨w1,w2,w3⟩:=width_3 hs t2 t1;simp only [layP,yb] at hl;have h3:=hl.2;simp only [yO] at la lb;have hcast:((l.length+1:Nat):Int)=(l.length:Int)+1:=by omega
   rw [hcast] at la lb;split at h3 <;> rename_i e
   ·simp only [yb,beq_iff_eq] at h3;rw [w1,zaq (by omega) (by omega)] at h3;have:=(zfU hs h3.2 (by omega) hb (by omega) (by omega) t ht').2.2;rw [if_neg]
    ·exact mvT_at strict h3.2 (by omega) hb (by omega) (by omega) t ht' hk c h1 h2
    ·simp only [yb,beq_iff_eq,yd];rintro ⟨e1,e2,e3⟩;rw [hk,← e1,if_pos e] at this;omega
   ·simp only [yb,beq_iff_eq] at h3;rw [w1,zaq (by omega) (by omega)] at h3;have:=(zfU hs h3.2 ha (by omega) (by omega) (by omega) t ht').2.2;rw [if_neg]
    ·exact mvT_at strict h3.2 ha (by omega) (by omega) (by omega) t ht' hk c h1 h2
    ·simp only [yb,beq_iff_eq,yd];rintro ⟨e1,e2,e3⟩;rw [hk,← e1,if_neg e] at this;omega
end
def mvC (m:Model) (s:Swap) (c:Int):Int:=mvT m.sorts s true m.tables c
theorem mvC_ok {m s} (h:SwapOK m.sorts s) (hL:zaV m.sorts m.tables=true) {c:Int} (h0:0≤c) (h1:c<((boxM m).length:Int)):(0≤mvC m s c∧mvC m s c<((boxM m).length:Int))∧mvC m s (mvC m s c)=c∧(boxM m)[(mvC m s c).toNat]? = (boxM m)[c.toNat]?:=by
 obtain ⟨hs,hlay,hl⟩:=lay_big hL;have:=mvT_main h hs true hlay (Int.le_refl _) (Int.le_refl _) (by omega) (by omega) c (by simpa using h0) (by simpa [boxM] using h1);simpa [mvC,boxM] using this
structure Swp (m:Model) (s:Swap):Prop where
 ok:SwapOK m.sorts s
 lay:zaV m.sorts m.tables=true
theorem Swp.cell {m s} (h:Swp m s) {c:Int} (h0:0≤c) (h1:c<((boxM m).length:Int)):(0≤mvC m s c∧mvC m s c<((boxM m).length:Int))∧mvC m s (mvC m s c)=c∧(boxM m)[(mvC m s c).toNat]? = (boxM m)[c.toNat]?:=mvC_ok h.ok h.lay h0 h1
theorem Swp.move {m s n} (h:Swp m s) {c:Int} (hc : -1000000≤c∧c≤1000000) (hn:1000000≤n):zaM n m s c true=some (mvC m s c):=move_eq h.ok h.lay hc hn
def stP (m:Model) (s:Swap) (x:List Int):List Int:=(List.range x.length).map λi:Nat=>x.getD (mvC m s (i:Int)).toNat 0
theorem zgt {m s x}:(stP m s x).length=x.length:=by simp [stP]
theorem stP_get {m s x} {c:Int} (h0:0≤c) (h1:c<(x.length:Int)):(stP m s x).getD c.toNat 0=x.getD (mvC m s c).toNat 0:=by
 obtain ⟨k,rfl⟩:=yR h0;have:k<x.length:=by omega
 simp [stP,yq,this]
theorem list_ext {a b:List Int} (hl:a.length=b.length) (h:∀ i:Nat,i<a.length→a.getD i 0=b.getD i 0):a=b:=by
 refine uO hl λi h1 h2=>?_
 have:=h i h1;simpa [yq,h1,h2] using this
theorem stP_inv {m s} {x:List Int} (h:Swp m s) (hx:x.length=(boxM m).length):stP m s (stP m s x)=x:=by
 refine list_ext (by simp [zgt]) λi hi=>?_
 simp only [zgt] at hi;obtain ⟨⟨c1,c2⟩,c3,-⟩:=h.cell (c:=(i:Int)) (by omega) (by omega);have h1:=stP_get (m:=m) (s:=s) (x:=stP m s x) (c:=(i:Int)) (by omega) (by rw [zgt];omega);have h2:=stP_get (m:=m) (s:=s) (x:=x) c1 (by omega);rw [yt] at h1;rw [h1,h2,c3,yt]
theorem inBox_of:∀ {box:List Range} {x:List Int},x.length=box.length→(∀ (i:Nat) (h1:i<box.length) (h2:i<x.length),box[i].lo≤x[i]∧x[i]≤box[i].hi)→inBox box x=true
 | [],[],_,_=>rfl
 | [],_::_,h,_=>by simp at h
 | _::_,[],h,_=>by simp at h
 | r::box,v::x,h,hi=>by
  have h0:=hi 0 (by simp) (by simp);simp only [List.getElem_cons_zero] at h0;have ih:=inBox_of (box:=box) (x:=x) (by simpa using h) λi h1 h2=>by
   have:=hi (i+1) (by simp;omega) (by simp;omega);simpa using this
  simp [inBox,h0.1,h0.2,ih]
theorem stP_box {m s} {x:List Int} (h:Swp m s) (hx:inBox (boxM m) x=true):inBox (boxM m) (stP m s x)=true:=by
 have hl:=zdM hx;refine inBox_of (by rw [zgt,hl]) λi h1 h2=>?_
 obtain ⟨⟨c1,c2⟩,-,c4⟩:=h.cell (c:=(i:Int)) (by omega) (by omega);have e:=stP_get (m:=m) (s:=s) (x:=x) (c:=(i:Int)) (by omega) (by omega);rw [yt] at e c4;have hk:(mvC m s (i:Int)).toNat<(boxM m).length:=by omega
 have hb:=zeQ hx (mvC m s (i:Int)).toNat hk (by omega);rw [yu hk,yu h1,yk] at c4;have e1:(stP m s x)[i]=x[(mvC m s (i:Int)).toNat]'(by omega):=by
  have l1:(stP m s x).getD i 0=(stP m s x)[i]:=by simp [yq,h2]
  have l2:x.getD (mvC m s (i:Int)).toNat 0=x[(mvC m s (i:Int)).toNat]'(by omega):=by simp [yq,show (mvC m s (i:Int)).toNat<x.length by omega]
  rw [← l1,← l2,e]
 rw [e1,← c4];exact hb
def insT (t:Term):List Term→List Term
 | []=>[t]
 | u::l=>if t.cell<u.cell then t::u::l else u::insT t l
def mvt (m:Model) (s:Swap) (t:Term):Term:=⟨mvC m s t.cell,t.factor⟩
def rowL (m:Model) (s:Swap) (l:List Term) (acc:List Term):List Term:=l.foldl (λacc t=>insT (mvt m s t) acc) acc
def rowM (m:Model) (s:Swap) (r:Row):Row:=⟨rowL m s r.terms [],r.bound⟩
theorem zgX (t:Term):∀ l,(insT t l).Perm (t::l)
 | []=>.refl _
 | u::l=>by
  rw [insT];split
  ·exact .refl _
  ·exact ((zgX t l).cons u).trans (.swap t u l)
theorem rowL_perm (m s):∀ l acc,(rowL m s l acc).Perm (l.map (mvt m s)++acc)
 | [],acc=>.refl _
 | t::l,acc=>by
  have ih:=rowL_perm m s l (insT (mvt m s t) acc);refine ih.trans ?_;refine ((zgX (mvt m s t) acc).append_left _).trans ?_;simp only [yP,ud];exact List.perm_middle
theorem zf6 (m s r):(rowM m s r).terms.Perm (r.terms.map (mvt m s)):=by
 have:=rowL_perm m s r.terms []
 rwa [uh] at this
theorem sumP_perm {x:List Int} {l k:List Term} (h:l.Perm k):sumP x l=sumP x k:=by
 induction h with
 | nil=>rfl
 | cons t _ ih=>simp only [sumP,ih]
 | swap a b l=>simp only [sumP];omega
 | trans _ _ i1 i2=>rw [i1,i2]
theorem sum_mv {m s} {x:List Int} (h:Swp m s) (hx:x.length=(boxM m).length):∀ {l:List Term},(∀ t∈l,zfs (boxM m).length t)→sumP (stP m s x) (l.map (mvt m s))=sumP x l
 | [],_=>rfl
 | t::l,ht=>by
  obtain ⟨t1,t2,-⟩:=ht t (by simp);obtain ⟨⟨c1,c2⟩,c3,-⟩:=h.cell t1 t2;simp only [yP,sumP];rw [sum_mv h hx (l:=l) λu hu=>ht u (by simp [hu])];show t.factor*(stP m s x).getD (mvC m s t.cell).toNat 0+_=_;rw [stP_get c1 (by omega),c3]
theorem sum_row {m s} {x:List Int} {r:Row} (h:Swp m s) (hx:x.length=(boxM m).length) (ht:∀ t∈r.terms,zfs (boxM m).length t):sumP (stP m s x) (rowM m s r).terms=sumP x r.terms:=by
 rw [sumP_perm (zf6 m s r),sum_mv h hx ht]
theorem insert_eq {n:Nat} {acc:List Term} {j:Int} {rec:List Term×Int→Option Row} {c:Int} {u:Term} (hl:acc.length≤1000) (hn:1000000≤n):loopF (zbH.l2 n acc j rec c u) n (([]:List Term),false,0)=rec (insT ⟨c,u.factor⟩ acc,add64 j 1):=by
 have:=zbo (body:=zbH.l2 n acc j rec c u) (len:=acc.length) (st:=λ(x:List Term×Bool) i=>(x.1,x.2,(i:Int))) (g:=λ_ _=>rec (insT ⟨c,u.factor⟩ acc,add64 j 1))
  (λi x=>x.1.length≤i+1∧(if x.2=true then x.1++acc.drop i=insT ⟨c,u.factor⟩ acc else x.1=acc.take i∧insT ⟨c,u.factor⟩ acc=acc.take i++insT ⟨c,u.factor⟩ (acc.drop i))) (λrec2 i x hi hI hr=>?_) (λrec2 x hI=>?_) n 0 ([],false) (yp _) (by omega) ⟨by simp,by simp⟩
 ·exact this
 ·obtain ⟨b,p⟩:=x;obtain ⟨I1,I2⟩:=hI;simp only at I1 I2;have htk:acc.take (i+1)=acc.take i++[acc[i]]:=yv hi;have hnext:∀ (b':List Term) (p':Bool),b'.length≤i+1+1→(if p'=true then b'++acc.drop (i+1)=insT ⟨c,u.factor⟩ acc else b'=acc.take (i+1)∧insT ⟨c,u.factor⟩ acc=acc.take (i+1)++insT ⟨c,u.factor⟩ (acc.drop (i+1)))→rec2 (b',p',((i+1:Nat):Int))=rec (insT ⟨c,u.factor⟩ acc,add64 j 1):=λb' p' h1 h2=>hr (b',p') ⟨h1,h2⟩
  simp only [zbH.l2,zk hi,if_true,jn,za hi,yj,yr,grd,yf,ya,zb (i:=i) (by omega)];cases p with
  | true=>
   simp only [y6,yX,ye,if_false];rw [zr (by simp;omega),ya];refine hnext _ true (by simp;omega) ?_;rw [if_pos rfl] at I2 ⊢;rw [← I2,zh hi,yL];rfl
  | false=>
   rw [if_neg (by simp)] at I2;obtain ⟨rfl,I3⟩:=I2;rw [zh hi,insT] at I3;simp only [uB,yE];have hlt:(acc.take i).length≤i:=by rw [yQ];omega
   by_cases hc:c<acc[i].cell
   ·rw [if_pos (by simpa using hc)];rw [if_pos (show (⟨c,u.factor⟩:Term).cell<acc[i].cell from hc)] at I3;rw [zr (by simp;omega),ya,zr (by simp;omega),ya];refine hnext _ true (by simp;omega) ?_;rw [if_pos rfl,I3];simp
   ·rw [if_neg (by simpa using hc)];rw [if_neg (show ¬ (⟨c,u.factor⟩:Term).cell<acc[i].cell from hc)] at I3;rw [zr (by simp;omega),ya];refine hnext _ false (by simp;omega) ?_;rw [if_neg (by simp),htk,I3,yL];exact ⟨rfl,rfl⟩
 ·obtain ⟨b,p⟩:=x;obtain ⟨I1,I2⟩:=hI;simp only at I1 I2;simp only [zbH.l2,zad,ye,if_false,jn];cases p with
  | true=>
   rw [if_pos rfl,List.drop_length,uh] at I2;simp only [y6,ye,if_false,I2]
  | false=>
   rw [if_neg (by simp),List.drop_length,List.take_length] at I2;simp only [uB,if_true];rw [zr (by simp;omega),ya,I2.2,I2.1];rfl
theorem row_eq {m s n} {r:Row} (h:Swp m s) (ht:∀ t∈r.terms,-1000000≤t.cell∧t.cell≤1000000) (hl:r.terms.length≤500) (hn:1000000≤n):zbH n m s r=some (rowM m s r):=by
 have:=zbo (body:=zbH.l1 n m s r) (len:=r.terms.length) (st:=λ(x:List Term) i=>(x,(i:Int))) (g:=λ_ _=>some (rowM m s r)) (λi x=>rowL m s (r.terms.drop i) x=rowL m s r.terms []∧x.length≤i) (λrec i x hi hI hr=>?_) (λrec x hI=>?_) n 0 [] (yp _) (by omega) ⟨by simp,by simp⟩
 ·exact this
 ·obtain ⟨I1,I2⟩:=hI;simp only [zbH.l1,zk hi,if_true,za hi,ya,h.move (ht _ (yg hi)) hn];rw [insert_eq (by omega) hn,zb (by omega)];refine hr _ ⟨?_,?_⟩
  ·rw [← I1,zh hi];rfl
  ·have:=(zgX ⟨mvC m s r.terms[i].cell,r.terms[i].factor⟩ x).length_eq;simp at this;omega
 ·obtain ⟨I1,-⟩:=hI;simp only [zbH.l1,zad,ye,if_false];rw [List.drop_length] at I1;rw [rowM,← I1];rfl
theorem cyc_walk {E:Nat→Nat→Bool} {K:Nat} {x:List Int} (hx:x∈cycP E K):∃ p f,0<p∧Walk E K p f:=by
 have hp:=zem hx;have hin:=cycP_in hx;have hpos:=hp.pos;refine ⟨x.length,λi=>vtx x (i % x.length),by omega,λi=>by simp,λi=>(zgG hp (Nat.mod_lt _ (by omega))).1,λi=>?_⟩;have:=hin (i % x.length) (Nat.mod_lt _ (by omega))
 rwa [Nat.mod_add_mod] at this
theorem acycE_ren {E F:Nat→Nat→Bool} {K:Nat} {τ:Nat→Nat} (hτ:∀ a,a<K→τ a<K) (hE:∀ a b,a<K→b<K→E a b=true→F (τ a) (τ b)=true) (hF:acycE F K=true):acycE E K=true:=by
 rw [zgL] at hF ⊢;intro x hx;obtain ⟨p,f,hp,hw⟩:=cyc_walk hx;obtain ⟨y,hy⟩:=walk_cyc p hp (λi=>τ (f i)) ⟨λi=>by simp only [hw.per],λi=>hτ _ (hw.lt i),λi=>hE _ _ (hw.lt _) (hw.lt _) (hw.edge i)⟩;exact hF y hy
theorem same16_eq {n} {r t:Row} (hl:r.terms.length≤100000) (hn:1000000≤n):zah n r t=some (decide (r=t)):=by
 unfold zah;have hrow:(r=t)↔(r.bound=t.bound∧r.terms=t.terms):=by
  cases r;cases t;simp [and_comm]
 by_cases h:((r.bound != t.bound)||((r.terms.length:Int) != (t.terms.length:Int)))=true
 ·rw [if_pos h];simp only [yw,bne_iff_ne] at h;congr 1;symm;rw [yF,hrow];rintro ⟨h1,h2⟩;rcases h with h | h
  ·exact h h1
  ·exact h (by rw [h2])
 ·rw [if_neg h];simp only [yw,bne_iff_ne,not_or,Decidable.not_not] at h;obtain ⟨hb,hlen⟩:=h;have hlen:r.terms.length=t.terms.length:=by omega
  have:=zE (body:=zah.l1 n r t) (len:=r.terms.length) (st:=λi=>(i:Int)) (g:=λi=>some (decide (r.terms.drop i=t.terms.drop i))) (λrec i hi hr=>?_) (λrec=>?_) n 0 (yp _) (by omega)
  ·rw [List.drop_zero,List.drop_zero] at this;rw [show ((0:Nat):Int)=0 from rfl] at this;rw [this];congr 1;exact decide_eq_decide.2 (by rw [hrow];exact ⟨λh=>⟨hb,h⟩,λh=>h.2⟩)
  ·have hi':i<t.terms.length:=by omega
   simp only [zah.l1,zk hi,if_true,za hi,za hi',ya,zb (i:=i) (by omega),hr];have e2:(r.terms.drop i=t.terms.drop i)↔(r.terms[i]=t.terms[i]∧r.terms.drop (i+1)=t.terms.drop (i+1)):=by rw [zh hi,zh hi',List.cons.injEq]
   rw [decide_eq_decide.2 e2,Bool.decide_and];by_cases e:r.terms[i]=t.terms[i]
   ·rw [if_neg (by simp [e]),decide_eq_true e,yE]
   ·rw [if_pos (by simp [e]),decide_eq_false e,yX]
  ·simp only [zah.l1,zad,ye,if_false];simp [hlen]
theorem count_snoc {α:Type} [DecidableEq α] {l:List α} {i:Nat} (hi:i<l.length) (x:α):(l.take (i+1)).count x=(l.take i).count x+(if l[i]=x then 1 else 0):=by
 rw [yv hi,List.count_append,List.count_singleton];congr 1;by_cases e:l[i]=x <;> simp [e]
theorem times_eq {n} {l:List Row} {k:Nat} {r:Row} (hk:k≤l.length) (hl:l.length≤100000) (ht:∀ x∈l,x.terms.length≤100000) (hn:1000000≤n):zaZ n l (k:Int) r=some (((l.take k).count r:Nat):Int):=by
 have:=zE (body:=zaZ.l1 n l (k:Int) r) (len:=k) (st:=λi=>((((l.take i).count r:Nat):Int),(i:Int))) (g:=λ_=>some (((l.take k).count r:Nat):Int)) (λrec i hi hr=>?_) (λrec=>?_) n 0 (yp _) (by omega)
 ·simpa [zaZ] using this
 ·have hi':i<l.length:=by omega
  have hcl:(l.take i).count r≤i:=ua List.count_le_length (by rw [yQ];omega);rw [count_snoc hi'] at hr;simp only [zaZ.l1,zcK hi,if_true,jn,za hi',ya,same16_eq (ht _ (yg hi')) hn,zb (i:=i) (by omega),zb (show (l.take i).count r<4611686018427387904 by omega)];by_cases e:l[i]=r
  ·rw [if_pos (by simpa using e)];rw [if_pos e] at hr;exact hr
  ·rw [if_neg (by simpa using e)];rw [if_neg e] at hr;exact hr
 ·simp only [zaZ.l1,zck (yn k),ye,if_false]
theorem updates_eq {n} {l:List Update} {u:Update} (hl:l.length≤100000) (hn:1000000≤n):zbv n l u=some ((l.count u:Nat):Int):=by
 have:=zE (body:=zbv.l1 n l u) (len:=l.length) (st:=λi=>((((l.take i).count u:Nat):Int),(i:Int))) (g:=λ_=>some ((l.count u:Nat):Int)) (λrec i hi hr=>?_) (λrec=>?_) n 0 (yp _) (by omega)
 ·simpa [zbv] using this
 ·have hcl:(l.take i).count u≤i:=ua List.count_le_length (by rw [yQ];omega);rw [count_snoc hi] at hr;simp only [zbv.l1,zk hi,if_true,jn,za hi,ya,zb (i:=i) (by omega),zb (show (l.take i).count u<4611686018427387904 by omega)];by_cases e:l[i]=u
  ·rw [if_pos (by simpa using e)];rw [if_pos e] at hr;exact hr
  ·rw [if_neg (by simpa using e)];rw [if_neg e] at hr;exact hr
 ·simp only [zbv.l1,zad,ye,if_false,List.take_length]
def deltaB (m:Model) (s:Swap) (e f:Effect):Bool:=e.delta.all λd=>f.delta.any λg=>(g.cell==mvC m s d.cell)&&(g.add==d.add)
def holdB (m:Model) (s:Swap) (e f:Effect):Bool:=e.hold.all λr=>decide (e.hold.count r=f.hold.count (rowM m s r))
def updB (m:Model) (s:Swap) (e f:Effect):Bool:=e.updates.all λu=>decide (e.updates.count u=f.updates.count ⟨u.kind,mvS m.sorts s false m.tables u.cell,u.value⟩)
def alikeB (m:Model) (s:Swap) (e f:Effect):Bool:=(decide (e.delta.length=f.delta.length)&&(decide (e.hold.length=f.hold.length)&&decide (e.updates.length=f.updates.length)))&&(deltaB m s e f&&(holdB m s e f&&updB m s e f))
structure EffS (e:Effect):Prop where
 delta:e.delta.length≤1000∧∀ d∈e.delta,-1000000≤d.cell∧d.cell≤1000000
 hold:e.hold.length≤1000∧∀ r∈e.hold,r.terms.length≤500∧∀ t∈r.terms,-1000000≤t.cell∧t.cell≤1000000
 upd:e.updates.length≤1000
theorem alike_eq {m s n} {e f:Effect} (h:Swp m s) (he:EffS e) (hf:EffS f) (hn:1000000≤n):zL n m s e f=some (alikeB m s e f):=by
 obtain ⟨d1,d2⟩:=he.delta;obtain ⟨h1,h2⟩:=he.hold;have u1:=he.upd;obtain ⟨fd1,fd2⟩:=hf.delta;obtain ⟨fh1,fh2⟩:=hf.hold;have fu1:=hf.upd;have l4:loopF (zL.l4 n m s e f) n 0=some (updB m s e f):=by
  have:=zaj (body:=zL.l4 n m s e f) (l:=e.updates) (n:=n) (st:=λi=>(i:Int)) (λu=>decide (e.updates.count u=f.updates.count ⟨u.kind,mvS m.sorts s false m.tables u.cell,u.value⟩)) (some false) (some true) (λrec i hi=>?_) (λrec=>?_) (by omega)
  ·rw [show ((0:Nat):Int)=0 from rfl] at this;rw [this];unfold updB;cases (e.updates.all λu=>decide (e.updates.count u=f.updates.count ⟨u.kind,mvS m.sorts s false m.tables u.cell,u.value⟩)) <;> simp
  ·simp only [zL.l4,zk hi,if_true,za hi,ya,moveS_eq h.ok h.lay hn,updates_eq (show e.updates.length≤100000 by omega) hn,updates_eq (show f.updates.length≤100000 by omega) hn,zb (i:=i) (by omega)];by_cases hc:e.updates.count e.updates[i]=f.updates.count ⟨e.updates[i].kind,mvS m.sorts s false m.tables e.updates[i].cell,e.updates[i].value⟩
   ·rw [if_neg (by simp [hc]),if_pos (by simpa using hc)]
   ·rw [if_pos (by simp;omega),if_neg (by simpa using hc)]
  ·simp only [zL.l4,zad,ye,if_false]
 have l3:loopF (zL.l3 n m s e f) n 0=some (holdB m s e f&&updB m s e f):=by
  have:=zaj (body:=zL.l3 n m s e f) (l:=e.hold) (n:=n) (st:=λi=>(i:Int)) (λr=>decide (e.hold.count r=f.hold.count (rowM m s r))) (some false) (some (updB m s e f)) (λrec i hi=>?_) (λrec=>?_) (by omega)
  ·rw [show ((0:Nat):Int)=0 from rfl] at this;rw [this];unfold holdB;cases (e.hold.all λr=>decide (e.hold.count r=f.hold.count (rowM m s r))) <;> simp
  ·obtain ⟨r1,r2⟩:=h2 _ (yg hi);have t1:=times_eq (n:=n) (l:=e.hold) (k:=e.hold.length) (r:=e.hold[i]) (yn _) (by omega) (λx hx=>by have:=(h2 x hx).1;omega) hn;have t2:=times_eq (n:=n) (l:=f.hold) (k:=f.hold.length) (r:=rowM m s e.hold[i]) (yn _) (by omega) (λx hx=>by have:=(fh2 x hx).1;omega) hn;rw [List.take_length] at t1 t2;simp only [zL.l3,zk hi,if_true,za hi,ya,row_eq h r2 r1 hn,t1,t2,zb (i:=i) (by omega)];by_cases hc:e.hold.count e.hold[i]=f.hold.count (rowM m s e.hold[i])
   ·rw [if_neg (by simp [hc]),if_pos (by simpa using hc)]
   ·rw [if_pos (by simp;omega),if_neg (by simpa using hc)]
  ·simp only [zL.l3,zad,ye,if_false];exact l4
 have l1:loopF (zL.l1 n m s e f) n 0=some (deltaB m s e f&&(holdB m s e f&&updB m s e f)):=by
  have:=zaj (body:=zL.l1 n m s e f) (l:=e.delta) (n:=n) (st:=λi=>(i:Int)) (λd=>f.delta.any λg=>(g.cell==mvC m s d.cell)&&(g.add==d.add)) (some false) (some (holdB m s e f&&updB m s e f)) (λrec i hi=>?_) (λrec=>?_) (by omega)
  ·rw [show ((0:Nat):Int)=0 from rfl] at this;rw [this];unfold deltaB;cases (e.delta.all λd=>f.delta.any λg=>(g.cell==mvC m s d.cell)&&(g.add==d.add)) <;> simp
  ·simp only [zL.l1,zk hi,if_true];have inner:=zbo (body:=zL.l2 n m s e f (i:Int) rec) (len:=f.delta.length) (st:=λ(b:Bool) k=>(b,(k:Int))) (g:=λk b=>if (b||(f.delta.drop k).any λg=>(g.cell==mvC m s e.delta[i].cell)&&(g.add==e.delta[i].add))=true then rec ((i+1:Nat):Int) else some false) (λ_ _=>True) (λrec2 k b hk _ hr=>?_) (λrec2 b _=>?_) n 0 false (yp _) (by omega) trivial
   ·simpa using inner
   ·simp only [zL.l2,zk hk,if_true,jn,za hk,za hi,ya,h.move (d2 _ (yg hi)) hn,yj,yr,grd,yf,zb (i:=k) (by omega)];rw [zh hk,uQ];by_cases hc:((f.delta[k].cell==mvC m s e.delta[i].cell)&&(f.delta[k].add==e.delta[i].add))=true
    ·rw [if_pos hc,hr true trivial,hc];simp
    ·rw [if_neg hc,hr b trivial];simp only [yC] at hc;rw [hc,uk]
   ·simp only [zL.l2,zad,ye,if_false,zb (i:=i) (by omega)];cases b <;> simp
  ·simp only [zL.l1,zad,ye,if_false];exact l3
 unfold zL alikeB;by_cases hc:((((e.delta.length:Int) != (f.delta.length:Int))||((e.hold.length:Int) != (f.hold.length:Int)))||((e.updates.length:Int) != (f.updates.length:Int)))=true
 ·rw [if_pos hc];congr 1;symm;rw [uj];left;simp only [yw,bne_iff_ne] at hc;rw [Bool.eq_false_iff];simp only [ne_eq,yb,yd];omega
 ·rw [if_neg hc,l1];congr 1;simp only [yw,bne_iff_ne,not_or,Decidable.not_not] at hc;rw [decide_eq_true (by omega),decide_eq_true (by omega),decide_eq_true (by omega)];simp
def argM (s:Swap) (sorts args:List Int):List Int:=(List.range args.length).map λi:Nat=>if sorts.getD i 0=s.sort then elemP s (args.getD i 0) else args.getD i 0
def actB (m:Model) (s:Swap) (a b:Action):Bool:=(b.operation==a.operation&&decide (b.arguments=argM s (opAt m a).sorts a.arguments))&&alikeB m s a.effect b.effect
structure ActS (m:Model):Prop where
 len:m.actions.length≤1000
 act:∀ a∈m.actions,EffS a.effect∧(∃ o,idx m.operations a.operation=some o∧o.sorts.length=a.arguments.length)∧a.arguments.length≤100
theorem zgp {m s n} {k:Int} {a:Action} (h:Swp m s) (hA:ActS m) (ha:idx m.actions k=some a) (hn:1000000≤n):zU n m s k=some (if 0≤ixP (actB m s a) m.actions 0 then (ixP (actB m s a) m.actions 0,true) else (0,false)):=by
 obtain ⟨he,⟨o,ho,hol⟩,hal⟩:=hA.act a (zaf ha);have hml:=hA.len;have hop:opAt m a=o:=by unfold opAt;rw [ho];rfl
 unfold zU;rw [ha,ya,ho,ya];have:=zE (body:=zU.l1 n m s a o) (len:=m.actions.length) (st:=λi=>(i:Int)) (g:=λi=>some (if 0≤ixP (actB m s a) (m.actions.drop i) i then (ixP (actB m s a) (m.actions.drop i) i,true) else (0,false))) (λrec i hi hr=>?_) (λrec=>?_) n 0 (yp _) (by omega)
 ·simpa using this
 ·obtain ⟨b,hb⟩:∃ b,b=m.actions[i]:=⟨_,rfl⟩
  obtain ⟨hbe,-,-⟩:=hA.act _ (yg hi);have hidx:idx m.actions (i:Int)=some b:=by rw [za hi,hb]
  rw [zh hi,← hb,ixP];rw [← hb] at hbe;simp only [zU.l1,zk hi,if_true,hidx,ya];have hargl:(argM s o.sorts a.arguments).length=a.arguments.length:=by simp [argM]
  have hget:∀ j,(hj:j<a.arguments.length)→(argM s o.sorts a.arguments)[j]'(by omega)=if o.sorts.getD j 0=s.sort then elemP s (a.arguments.getD j 0) else a.arguments.getD j 0:=λj hj=>by simp [argM]
  have inner:=zbo (body:=zU.l2 n m s a o (i:Int) rec b) (len:=a.arguments.length) (st:=λ(x:Bool) j=>(x,(j:Int))) (g:=λj x=>if (x&&(decide (b.arguments.drop j=(argM s o.sorts a.arguments).drop j)&&alikeB m s a.effect b.effect))=true then some ((i:Int),true) else rec ((i+1:Nat):Int)) (λj x=>x=true→b.arguments.length=a.arguments.length) (λrec2 j x hj hI hr2=>?_) (λrec2 x hI=>?_) n 0 ((b.operation==a.operation)&&((b.arguments.length:Int)==(a.arguments.length:Int))) (yp _) (by omega) (λhx=>by
    simp only [yb,beq_iff_eq] at hx;omega)
  ·rw [show ((0:Nat):Int)=0 from rfl] at inner;rw [inner,List.drop_zero,List.drop_zero,hr];have hact:(((b.operation==a.operation)&&((b.arguments.length:Int)==(a.arguments.length:Int)))&&(decide (b.arguments=argM s o.sorts a.arguments)&&alikeB m s a.effect b.effect))=actB m s a b:=by
    unfold actB;rw [hop,Bool.eq_iff_iff];simp only [yb,beq_iff_eq,yd];constructor
    ·rintro ⟨⟨x1,x2⟩,x3,x4⟩;exact ⟨⟨x1,x3⟩,x4⟩
    ·rintro ⟨⟨x1,x3⟩,x4⟩;exact ⟨⟨x1,by rw [x3,hargl]⟩,x3,x4⟩
   rw [hact];by_cases hc:actB m s a b=true
   ·rw [if_pos hc,if_pos hc,if_pos (by omega)]
   ·rw [if_neg hc,if_neg hc]
  ·simp only [zU.l2,zk hj,ug];cases x with
   | false=>simp [alike_eq h he hbe hn,grd,zb (i:=i) (by omega)]
   | true=>
    have hbl:=hI rfl;have hj':j<b.arguments.length:=by omega
    have hjo:j<o.sorts.length:=by omega
    have hjm:j<(argM s o.sorts a.arguments).length:=by omega
    have eo:o.sorts.getD j 0=o.sorts[j]:=by simp [yq,hjo]
    have ea:a.arguments.getD j 0=a.arguments[j]:=by simp [yq,hj]
    have hg:=hget j hj;rw [eo,ea] at hg;have hstep:∀ w:Int,w=(argM s o.sorts a.arguments)[j]→rec2 (b.arguments[j]==w,((j+1:Nat):Int))=if (true&&(decide (b.arguments.drop j=(argM s o.sorts a.arguments).drop j)&&alikeB m s a.effect b.effect))=true then some ((i:Int),true) else rec ((i+1:Nat):Int):=λw hw=>by
     rw [hr2 _ λ_=>hbl,zh hj',zh hjm,hw];have hc:(b.arguments[j]::b.arguments.drop (j+1)=(argM s o.sorts a.arguments)[j]::(argM s o.sorts a.arguments).drop (j+1))↔(b.arguments[j]=(argM s o.sorts a.arguments)[j]∧b.arguments.drop (j+1)=(argM s o.sorts a.arguments).drop (j+1)):=by rw [List.cons.injEq]
     have hb2:(b.arguments[j]==(argM s o.sorts a.arguments)[j])=decide (b.arguments[j]=(argM s o.sorts a.arguments)[j]):=by rw [Bool.eq_iff_iff];simp
     rw [decide_eq_decide.2 hc,hb2,Bool.decide_and,yE,Bool.and_assoc]
    simp only [if_true,za hj,za hj',za hjo,ya,jn,zb (i:=j) (by omega)];by_cases e:o.sorts[j]=s.sort
    ·rw [if_pos (by simpa using e),element_eq,ya];rw [if_pos e] at hg;exact hstep _ hg.symm
    ·rw [if_neg (by simpa using e)];rw [if_neg e] at hg;exact hstep _ hg.symm
  ·simp only [zU.l2,zad,Bool.and_false,ye,if_false,alike_eq h he hbe hn,yj,yr,grd,if_true,yf,zb (i:=i) (by omega)];cases x with
   | false=>simp
   | true=>
    have hbl:=hI rfl;have e1:b.arguments.drop a.arguments.length=[]:=by rw [← hbl,List.drop_length]
    have e2:(argM s o.sorts a.arguments).drop a.arguments.length=[]:=by rw [← hargl,List.drop_length]
    rw [e1,e2];simp
 ·simp [zU.l1,ixP]
def fstP (p:Nat→Bool):Nat→Nat→Option Nat
 | _,0=>none
 | i,k+1=>if p i=true then some i else fstP p (i+1) k
theorem fstP_some {p:Nat→Bool}:∀ {k i j:Nat},fstP p i k=some j→(i≤j∧j<i+k)∧p j=true∧∀ x,i≤x→x<j→p x=false
 | 0,i,j,h=>by simp [fstP] at h
 | k+1,i,j,h=>by
  rw [fstP] at h;by_cases hp:p i=true
  ·rw [if_pos hp] at h;cases h;exact ⟨by omega,hp,λx h1 h2=>by omega⟩
  ·rw [if_neg hp] at h;obtain ⟨h1,h2,h3⟩:=fstP_some h;refine ⟨by omega,h2,λx x1 x2=>?_⟩;by_cases e:x=i
   ·subst e;simpa using hp
   ·exact h3 x (by omega) x2
def conAt (m:Model) (i:Nat):Constraint:=m.constraints.getD i default
theorem zbA {m:Model} {i:Nat} (hi:i<m.constraints.length):conAt m i=m.constraints[i]:=by simp [conAt,hi]
def sameC (c d:Constraint):Bool:=((d.kind==c.kind)&&(d.family==c.family))&&decide (d.row=c.row)
def rankP (m:Model) (i:Nat):Nat:=(m.constraints.take i).countP (sameC (conAt m i))
def conB (m:Model) (s:Swap) (i j:Nat):Bool:=((((conAt m j).kind==(conAt m i).kind)&&((conAt m j).family==(conAt m i).family))&&decide ((conAt m j).row=rowM m s (conAt m i).row))&&decide (rankP m j=rankP m i)
structure ConS (m:Model):Prop where
 len:m.constraints.length≤1000
 con:∀ c∈m.constraints,c.row.terms.length≤500∧∀ t∈c.row.terms,-1000000≤t.cell∧t.cell≤1000000
theorem rank_eq {m n} {i:Nat} (hC:ConS m) (hi:i<m.constraints.length) (hn:1000000≤n):zbE n m (i:Int)=some ((rankP m i:Nat):Int):=by
 have hl:=hC.len;unfold zbE;rw [za hi,ya];have:=zE (body:=zbE.l1 n m (i:Int) m.constraints[i]) (len:=i) (st:=λk=>((((m.constraints.take k).countP (sameC m.constraints[i]):Nat):Int),(k:Int))) (g:=λ_=>some ((rankP m i:Nat):Int)) (λrec k hk hr=>?_) (λrec=>?_) n 0 (yp _) (by omega)
 ·simpa using this
 ·have hk':k<m.constraints.length:=by omega
  have hcl:(m.constraints.take k).countP (sameC m.constraints[i])≤k:=ua List.countP_le_length (by rw [yQ];omega);rw [yv hk',List.countP_append,List.countP_singleton] at hr;simp only [zbE.l1,zcK hk,if_true,jn,za hk',ya,same16_eq (show m.constraints[k].row.terms.length≤100000 by have:=(hC.con _ (yg hk')).1;omega) hn,yj,yr,grd,yf,zb (i:=k) (by omega),zb (show (m.constraints.take k).countP (sameC m.constraints[i])<4611686018427387904 by omega)];by_cases e:sameC m.constraints[i] m.constraints[k]=true
  ·rw [if_pos e] at hr;rw [if_pos (by simpa [sameC] using e)];exact hr
  ·rw [if_neg e] at hr;rw [if_neg (by simpa [sameC] using e)];exact hr
 ·simp only [zbE.l1,zck (yn i),ye,if_false];rw [rankP,zbA hi]
theorem zfZ {m s n} {i:Nat} (h:Swp m s) (hC:ConS m) (hi:i<m.constraints.length) (hn:1000000≤n):zV n m s (i:Int)=some (if (conAt m i).kind=1 then ((i:Int),true) else match fstP (conB m s i) 0 m.constraints.length with
  | some j=>((j:Int),true)
  | none=>(0,false)):=by
 have hl:=hC.len;unfold zV;rw [za hi,ya,← zbA hi];by_cases hk:(conAt m i).kind=1
 ·rw [if_pos hk,if_pos (by simpa using hk)]
 ·rw [if_neg hk,if_neg (by simpa using hk)];obtain ⟨c1,c2⟩:=hC.con _ (yg hi);rw [← zbA hi] at c1 c2;rw [row_eq h c2 c1 hn,ya];have:=zE (body:=zV.l1 n m (i:Int) (conAt m i) (rowM m s (conAt m i).row)) (len:=m.constraints.length) (st:=λj=>(j:Int)) (g:=λj=>some (match fstP (conB m s i) j (m.constraints.length - j) with
   | some j=>((j:Int),true)
   | none=>((0:Int),false))) (λrec j hj hr=>?_) (λrec=>?_) n 0 (yp _) (by omega)
  ·rw [Nat.sub_zero] at this;exact this
  ·have hcj:=(hC.con _ (yg hj)).1;simp only [zV.l1,zk hj,if_true,za hj,ya];rw [← zbA hj] at hcj ⊢;simp only [same16_eq (show (conAt m j).row.terms.length≤100000 by omega) hn,rank_eq hC hj hn,rank_eq hC hi hn,yj,yr,grd,if_true,yf,zb (i:=j) (by omega)];rw [show m.constraints.length - j=(m.constraints.length - (j+1))+1 by omega,fstP];have hb:(((((conAt m j).kind==(conAt m i).kind)&&((conAt m j).family==(conAt m i).family))&&decide ((conAt m j).row=rowM m s (conAt m i).row))&&(((rankP m j:Nat):Int)==((rankP m i:Nat):Int)))=conB m s i j:=by
    unfold conB;congr 1;rw [Bool.eq_iff_iff];simp;omega
   rw [hb];by_cases hc:conB m s i j=true
   ·rw [if_pos hc,if_pos hc]
   ·rw [if_neg hc,if_neg hc,hr]
  ·simp [zV.l1,fstP]
def risT (l:List Term):Prop:=l.Pairwise λa b=>a.cell<b.cell
theorem insT_ris {t:Term}:∀ {l:List Term},risT l→(∀ u∈l,u.cell≠t.cell)→risT (insT t l)
 | [],_,_=>by simp [insT,risT]
 | u::l,h,hne=>by
  obtain ⟨h1,h2⟩:=uC.1 h;rw [insT];split
  ·rename_i hlt;exact uC.2 ⟨λv hv=>by
    rcases yM.1 hv with rfl | hv
    ·exact hlt
    ·have:=h1 v hv;omega,h⟩
  ·rename_i hge;refine uC.2 ⟨λv hv=>?_,insT_ris h2 λv hv=>hne v (by simp [hv])⟩;rcases yM.1 ((zgX t l).mem_iff.1 hv) with rfl | hv
   ·have:=hne u (by simp);omega
   ·exact h1 v hv
theorem rowL_ris {m s}:∀ {l acc:List Term},risT acc→((acc++l.map (mvt m s)).Pairwise λa b=>a.cell≠b.cell)→risT (rowL m s l acc)
 | [],acc,h,_=>h
 | t::l,acc,h,hp=>by
  have hp':=hp;simp only [yP] at hp;rw [List.pairwise_append] at hp;obtain ⟨p1,p2,p3⟩:=hp;obtain ⟨p4,p5⟩:=uC.1 p2;refine rowL_ris (l:=l) (acc:=insT (mvt m s t) acc) (insT_ris h λu hu=>p3 u hu _ (by simp)) ?_;rw [List.pairwise_append];refine ⟨?_,p5,λu hu v hv=>?_⟩
  ·refine List.Pairwise.imp (λ{a b} hab=>?_) (insT_ris h λu hu=>p3 u hu _ (by simp));omega
  ·rcases yM.1 ((zgX _ _).mem_iff.1 hu) with rfl | hu
   ·exact p4 v hv
   ·exact p3 u hu v (by simp [hv])
theorem ris_uniq {l k:List Term} (hp:l.Perm k) (h1:risT l) (h2:risT k):l=k:=
 perm_uniq (R:=λa b:Term=>a.cell<b.cell) (λa b x y=>by omega) hp h1 h2
structure RowIn (m:Model) (r:Row):Prop where
 ris:risT r.terms
 term:∀ t∈r.terms,zfs (boxM m).length t
section
variable {m:Model} {s:Swap} (h:Swp m s)
include h
theorem mv_inj {c d:Int} (c0:0≤c) (c1:c<((boxM m).length:Int)) (d0:0≤d) (d1:d<((boxM m).length:Int)) (e:mvC m s c=mvC m s d):c=d:=by
 rw [← (h.cell c0 c1).2.1,e,(h.cell d0 d1).2.1]
theorem mvt_pair {l:List Term} (hr:risT l) (ht:∀ t∈l,zfs (boxM m).length t):(l.map (mvt m s)).Pairwise λa b=>a.cell≠b.cell:=by
 rw [List.pairwise_map];refine List.Pairwise.imp_of_mem (λ{a b} ha hb hab e=>?_) hr;obtain ⟨a1,a2,-⟩:=ht a ha;obtain ⟨b1,b2,-⟩:=ht b hb;have:=mv_inj h a1 a2 b1 b2 e;omega
theorem RowIn.mv {r:Row} (hr:RowIn m r):RowIn m (rowM m s r):=by
 refine ⟨rowL_ris (acc:=[]) (by simp [risT]) (by simpa using mvt_pair h hr.ris hr.term),λt ht=>?_⟩;obtain ⟨u,hu,rfl⟩:=yN.1 ((zf6 m s r).mem_iff.1 ht);obtain ⟨u1,u2,u3,u4⟩:=hr.term u hu;obtain ⟨c,-⟩:=h.cell u1 u2;exact ⟨c.1,c.2,u3,u4⟩
theorem row_twice {r:Row} (hr:RowIn m r):rowM m s (rowM m s r)=r:=by
 have h1:=hr.mv h;have h2:=h1.mv h;have hp:(rowM m s (rowM m s r)).terms.Perm r.terms:=by
  refine (zf6 m s _).trans ?_;refine ((zf6 m s r).map (mvt m s)).trans ?_;have:(r.terms.map (mvt m s)).map (mvt m s)=r.terms:=by
   rw [uK];refine (List.map_congr_left λt ht=>?_).trans (List.map_id _);obtain ⟨t1,t2,-⟩:=hr.term t ht;simp only [Function.comp_apply,mvt,id_eq,(h.cell t1 t2).2.1]
  rw [this]
 have e:=ris_uniq hp h2.ris hr.ris;have e2:(rowM m s (rowM m s r)).bound=r.bound:=rfl;cases hx:rowM m s (rowM m s r) with
 | mk a b=>rw [hx] at e e2;cases r;simp only at e e2;rw [e,e2]
theorem row_inj {r t:Row} (hr:RowIn m r) (ht:RowIn m t) (e:rowM m s r=rowM m s t):r=t:=by
 rw [← row_twice h hr,e,row_twice h ht]
end
theorem rowP_ris {K:Nat}:∀ {l:List Term} {last:Int},rowP K last l=true→risT l∧∀ t∈l,last<t.cell
 | [],_,_=>⟨by simp [risT],by simp⟩
 | t::l,last,h=>by
  simp only [rowP,yb,yd] at h;obtain ⟨i1,i2⟩:=rowP_ris h.2;refine ⟨uC.2 ⟨i2,i1⟩,λu hu=>?_⟩;rcases yM.1 hu with rfl | hu
  ·exact h.1.1.1.1
  ·have:=i2 u hu;have:=h.1.1.1.1;omega
theorem rowOK_in {m:Model} {r:Row} (h:rowOK (boxM m).length r=true):RowIn m r:=by
 simp only [rowOK,yb] at h;exact ⟨(rowP_ris h.1).1,zeN h.1 (by decide)⟩
theorem nodup_sub {α:Type} [DecidableEq α]:∀ {A B:List α},A.Nodup→(∀ x∈A,x∈B)→A.length≤B.length
 | [],B,_,_=>by simp
 | x::A,B,hn,hs=>by
  obtain ⟨h1,h2⟩:=List.nodup_cons.1 hn;have hx:=hs x (by simp);have:=nodup_sub (A:=A) (B:=B.erase x) h2 λy hy=>(List.mem_erase_of_ne (show y≠x from λe=>h1 (by rw [← e];exact hy))).2 (hs y (by simp [hy]))
  rw [List.length_erase_of_mem hx] at this;have:=List.length_pos_of_mem hx;simp;omega
theorem nodup_all {α:Type} [DecidableEq α] {A B:List α} (hn:A.Nodup) (hs:∀ x∈A,x∈B) (hl:B.length≤A.length):∀ y∈B,y∈A:=λy hy=>by
 refine Classical.byContradiction λhno=>?_
 have:=nodup_sub (A:=A) (B:=B.erase y) hn λx hx=>(List.mem_erase_of_ne (show x≠y from λe=>hno (by rw [← e];exact hx))).2 (hs x hx)
 rw [List.length_erase_of_mem hy] at this;have:=List.length_pos_of_mem hy;omega
theorem perm_count {α:Type} [DecidableEq α]:∀ {A B:List α},(∀ x∈A,A.count x=B.count x)→A.length=B.length→A.Perm B
 | [],B,_,hl=>by
  have:B=[]:=List.length_eq_zero_iff.1 hl.symm;rw [this]
 | x::A,B,hc,hl=>by
  have hx:x∈B:=by
   have:=hc x (by simp);rw [List.count_cons_self] at this;exact List.count_pos_iff.1 (by omega)
  have hp:=List.perm_cons_erase hx;refine (List.Perm.cons x (perm_count (A:=A) (B:=B.erase x) (λy hy=>?_) ?_)).trans hp.symm
  ·have h1:=hc y (by simp [hy]);by_cases e:y=x
   ·subst e;rw [List.count_cons_self] at h1;rw [List.count_erase_self];omega
   ·rw [List.count_cons_of_ne (λh=>e h.symm)] at h1;rw [List.count_erase_of_ne e,h1]
  ·rw [List.length_erase_of_mem hx];simp at hl;omega
theorem count_map {α:Type} [DecidableEq α] {f:α→α} {x:α}:∀ {l:List α},(∀ y∈l,f y=f x→y=x)→(l.map f).count (f x)=l.count x
 | [],_=>by simp
 | y::l,h=>by
  rw [yP,List.count_cons,List.count_cons,count_map (λz hz=>h z (by simp [hz]))];congr 1;by_cases e:y=x
  ·subst e;simp
  ·have:f y≠f x:=λhe=>e (h y (by simp) he)
   simp [e,this]
theorem added_mem {c:Int} {a:Int}:∀ {l:List Change},(l.map (·.cell)).Nodup→(⟨c,a⟩:Change)∈l→zg l c=a
 | [],_,h=>by simp at h
 | d::l,hn,h=>by
  rw [yP,List.nodup_cons] at hn;rw [zg];rcases yM.1 h with rfl | h
  ·rw [if_pos rfl]
  ·rw [if_neg (λe=>hn.1 (by rw [e];exact yN.2 ⟨_,h,rfl⟩)),added_mem hn.2 h]
theorem added_none {c:Int}:∀ {l:List Change},(∀ d∈l,d.cell≠c)→zg l c=0
 | [],_=>rfl
 | d::l,h=>by
  rw [zg,if_neg (h d (by simp)),added_none λe he=>h e (by simp [he])]
structure EffIn (m:Model) (e:Effect):Prop where
 nd:(e.delta.map (·.cell)).Nodup
 cell:∀ d∈e.delta,0≤d.cell∧d.cell<((boxM m).length:Int)
 hold:∀ r∈e.hold,RowIn m r
theorem eff_in {m:Model} (hV:ValidM m) {a:Action} (ha:a∈m.actions):EffIn m a.effect:=by
 have h:=(valid_act hV ha).1;simp only [effP,yb] at h;obtain ⟨h1,h2⟩:=zgh _ _ h.1;exact ⟨h2,λd hd=>by have:=h1 d hd;unfold boxM;omega,λr hr=>rowOK_in ((zdG hV ha).2 r hr)⟩
section
variable {m:Model} {s:Swap} (h:Swp m s)
include h
theorem delta_mv {e f:Effect} (he:EffIn m e) (hf:EffIn m f) (hl:e.delta.length=f.delta.length) (hd:deltaB m s e f=true) {c:Int} (c0:0≤c) (c1:c<((boxM m).length:Int)):zg f.delta (mvC m s c)=zg e.delta c:=by
 have key:∀ d∈e.delta,(⟨mvC m s d.cell,d.add⟩:Change)∈f.delta:=λd hd2=>by
  have:=yi.1 hd d hd2;obtain ⟨g,hg,h2⟩:=uq.1 this;simp only [yb,beq_iff_eq] at h2;cases g;simp only at h2;obtain ⟨rfl,rfl⟩:=h2;exact hg
 by_cases hex:∃ d∈e.delta,d.cell=c
 ·obtain ⟨d,hd1,rfl⟩:=hex;rw [added_mem hf.nd (key d hd1),added_mem he.nd hd1]
 ·rw [added_none (l:=e.delta) λd hd1 he2=>hex ⟨d,hd1,he2⟩];refine added_none λg hg he2=>?_
  have hnd:(e.delta.map λd=>mvC m s d.cell).Nodup:=by
   have:=he.nd;unfold List.Nodup at this ⊢;rw [List.pairwise_map] at this ⊢;refine List.Pairwise.imp_of_mem (λ{a b} ha hb hab e2=>?_) this;obtain ⟨a1,a2⟩:=he.cell a ha;obtain ⟨b1,b2⟩:=he.cell b hb;exact hab (mv_inj h a1 a2 b1 b2 e2)
  have hall:=nodup_all (A:=e.delta.map λd=>mvC m s d.cell) (B:=f.delta.map (·.cell)) hnd (λx hx=>by
   obtain ⟨d,hd1,rfl⟩:=yN.1 hx;exact yN.2 ⟨_,key d hd1,rfl⟩) (by simp [hl])
  obtain ⟨d,hd1,hd2⟩:=yN.1 (hall _ (yN.2 ⟨g,hg,he2⟩));obtain ⟨d1,d2⟩:=he.cell d hd1;exact hex ⟨d,hd1,mv_inj h d1 d2 c0 c1 hd2⟩
theorem plus_mv {e f:Effect} (he:EffIn m e) (hf:EffIn m f) (hl:e.delta.length=f.delta.length) (hd:deltaB m s e f=true) {x:List Int} (hx:x.length=(boxM m).length):plusP (stP m s x) f.delta=stP m s (plusP x e.delta):=by
 refine list_ext (by rw [zdT,zgt,zgt,zdT]) λi hi=>?_
 rw [zdT,zgt] at hi;obtain ⟨⟨c1,c2⟩,c3,-⟩:=h.cell (c:=(i:Int)) (by omega) (by omega);have e1:=zfk (s:=stP m s x) (d:=f.delta) (c:=(i:Int)) (by omega) (by rw [zgt];omega);have e2:=stP_get (m:=m) (s:=s) (x:=x) (c:=(i:Int)) (by omega) (by omega);have e3:=stP_get (m:=m) (s:=s) (x:=plusP x e.delta) (c:=(i:Int)) (by omega) (by rw [zdT];omega);have e4:=zfk (s:=x) (d:=e.delta) c1 (by omega);have e5:=delta_mv h he hf hl hd c1 c2;rw [yt] at e1 e2 e3;rw [e1,e2,e3,e4,← e5,c3]
theorem hold_mv {e f:Effect} (he:EffIn m e) (hf:EffIn m f) (hl:e.hold.length=f.hold.length) (hd:holdB m s e f=true):(e.hold.map (rowM m s)).Perm f.hold:=by
 refine perm_count (λy hy=>?_) (by simp [hl]);obtain ⟨r,hr,rfl⟩:=yN.1 hy;rw [count_map λz hz e2=>row_inj h (he.hold z hz) (he.hold r hr) e2];exact of_decide_eq_true (yi.1 hd r hr)
theorem row_holds {x:List Int} (hx:x.length=(boxM m).length) {r:Row} (hr:RowIn m r):zX ⟨0,0,rowM m s r,0,0⟩ (stP m s x)=zX ⟨0,0,r,0,0⟩ x:=by
 rw [zcP rfl,zcP rfl];show decide (sumP (stP m s x) (rowM m s r).terms≤r.bound)=_;rw [sum_row h hx hr.term]
theorem holds_mv {e f:Effect} (he:EffIn m e) (hf:EffIn m f) (hl:e.hold.length=f.hold.length) (hd:holdB m s e f=true) {x:List Int} (hx:x.length=(boxM m).length):f.hold.all (λr=>zX ⟨0,0,r,0,0⟩ (stP m s x))=e.hold.all (λr=>zX ⟨0,0,r,0,0⟩ x):=by
 have hp:=hold_mv h he hf hl hd;rw [Bool.eq_iff_iff,yi,yi];constructor
 ·intro ha r hr;rw [← row_holds h hx (he.hold r hr)];exact ha _ (hp.mem_iff.1 (yN.2 ⟨r,hr,rfl⟩))
 ·intro ha r' hr';obtain ⟨r,hr,rfl⟩:=yN.1 (hp.mem_iff.2 hr');rw [row_holds h hx (he.hold r hr)];exact ha r hr
end
theorem acy_cell {m:Model} {s:Swap} (h:Swp m s) {c:Constraint} (hc:acyP m c=true) {K:Nat} (hK:c.size=(K:Int)) (hf:0≤c.first):∃ τ:Nat→Nat,(∀ a,a<K→τ a<K)∧(∀ a,τ (τ a)=a)∧∀ a b,a<K→b<K→mvC m s (c.first+((a*K+b:Nat):Int))=c.first+((τ a*K+τ b:Nat):Int):=by
 obtain ⟨hs,hlay,hl⟩:=lay_big h.lay;simp only [acyP,zgB,yb,uq,beq_iff_eq] at hc;obtain ⟨-,-,t,ht,hg⟩:=hc;simp only [graphT,yb,beq_iff_eq] at hg;obtain ⟨⟨g1,g2⟩,⟨g3,g4⟩,g5⟩:=hg;obtain ⟨t1,t2⟩:=tab_ok (zdP hlay t ht);obtain ⟨w1,w2,w3⟩:=width_3 hs t2 t1;obtain ⟨p,q,hpq⟩:∃ p q,t.columns=[p,q]:=by
  match hcs:t.columns with
  | []=>rw [hcs] at g2;simp at g2
  | [_]=>rw [hcs] at g2;simp at g2
  | [p,q]=>exact ⟨p,q,rfl⟩
  | _::_::_::_=>rw [hcs] at g2;simp at g2;omega
 have hp0:idx t.columns 0=some p:=by rw [hpq];rfl
 have hq0:idx t.columns 1=some q:=by rw [hpq];rfl
 rw [hp0,hq0] at g3;rw [hp0] at g5;simp only [yf] at g3 g5;subst g3;have hcp:=yi.1 t2 p (by rw [hpq];simp);obtain ⟨k1,k2,k3⟩:=nK_ok hs hcp;rw [zd7 hcp,yf,← k1,hK] at g5;have hk:nK m.sorts p=K:=by omega
 have hw:wN m.sorts t.columns.reverse=K*K:=by rw [hpq];simp [wN,hk]
 refine ⟨colS s p,λa ha=>?_,λa=>colS_inv h.ok,λa b ha hb=>?_⟩
 ·have:=colS_lt h.ok (c:=p) (x:=a) (by rw [hk];exact ha)
  rwa [hk] at this
 ·have hpl:=zcH ha hb;have:=mvT_at h.ok hs true hlay (Int.le_refl _) (Int.le_refl _) (by omega) (by omega) t ht (by simp [zaG,g1]) (c.first+((a*K+b:Nat):Int)) (by rw [g4];omega) (by rw [g4,w1,hw];omega);unfold mvC;rw [this,g4];have e:(c.first+((a*K+b:Nat):Int) - c.first).toNat=a*K+b:=by omega
  have hr:t.columns.reverse=[p,p]:=by rw [hpq];rfl
  rw [e,hr];simp only [digP,hk,Nat.mul_zero,ut];have e1:(a*K+b) % K=b:=by rw [Nat.mul_comm,Nat.mul_add_mod,Nat.mod_eq_of_lt hb]
  have e2:(a*K+b) / K=a:=by rw [Nat.mul_comm,Nat.mul_add_div (by omega),Nat.div_eq_of_lt hb,ut]
  rw [e1,e2,Nat.mod_eq_of_lt ha];have e3:colS s p b+K*colS s p a=colS s p a*K+colS s p b:=by rw [Nat.mul_comm,Nat.add_comm]
  rw [e3]
theorem graph_mv {m:Model} {s:Swap} (h:Swp m s) {c:Constraint} (hc:acyP m c=true) (hk:c.kind=1) {K:Nat} (hK:c.size=(K:Int)) (hf:0≤c.first) (hfit:c.first+((K*K:Nat):Int)≤((boxM m).length:Int)) {x:List Int} (hx:x.length=(boxM m).length):zX c (stP m s x)=zX c x:=by
 obtain ⟨τ,t1,t2,t3⟩:=acy_cell h hc hK hf;have hedge:∀ a b,a<K→b<K→edgeP (stP m s x) c a b=edgeP x c (τ a) (τ b):=λa b ha hb=>by
  have hp:=zcH ha hb;have c1:c.first+(a:Int)*c.size+(b:Int)=c.first+((a*K+b:Nat):Int):=by rw [hK,Int.natCast_add,yH];omega
  have c2:c.first+(τ a:Int)*c.size+(τ b:Int)=c.first+((τ a*K+τ b:Nat):Int):=by rw [hK,Int.natCast_add,yH];omega
  unfold edgeP;rw [c1,c2,stP_get (by omega) (by omega),t3 a b ha hb]
 have hsz:c.size.toNat=K:=by omega
 unfold zX;rw [if_pos hk,if_pos hk,hsz,Bool.eq_iff_iff];constructor
 ·exact acycE_ren t1 λa b ha hb he=>by
   rw [hedge _ _ (t1 a ha) (t1 b hb),t2,t2];exact he
 ·exact acycE_ren t1 λa b ha hb he=>by
   rw [hedge a b ha hb] at he;exact he
theorem box_len {m:Model} (hS:SmallM m) (hL:zaV m.sorts m.tables=true):(boxM m).length≤2592:=by
 obtain ⟨l1,l2,l3,l4⟩:=zbi hL;have:=zcv (sizes:=m.sorts) (s:=true) (l:=m.tables) λt ht=>(l4 t ht).2.2.2.2
 have:=hS.tables;unfold boxM;omega
theorem valid_actA {m:Model} (hV:ValidM m) {a:Action} (ha:a∈m.actions):a.arguments.length=(opAt m a).sorts.length∧(0≤a.operation∧a.operation<(m.operations.length:Int)):=by
 have h:=hV.acts;simp only [actsP,yb] at h;obtain ⟨i,hi,rfl⟩:=List.mem_iff_getElem.1 ha;have:=zgM.1 h.2 i hi;simp only [za hi,yf,actP,yb,yd,beq_iff_eq] at this;exact ⟨this.1.1.1.2,this.1.1.1.1⟩
theorem actS_of {m:Model} (hS:SmallM m) (hV:ValidM m):ActS m:=by
 have hb:=box_len hS hV.lay;refine ⟨by have:=hS.actions;omega,λa ha=>⟨?_,?_,?_⟩⟩
 ·obtain ⟨-,d,ho,u,ht⟩:=hS.act a ha;have he:=eff_in hV ha;refine ⟨⟨by omega,λd hd=>by have:=he.cell d hd;omega⟩,⟨by omega,λr hr=>⟨by have:=ht r hr;omega,λt htm=>by
   obtain ⟨t1,t2,-⟩:=(he.hold r hr).term t htm;omega⟩⟩,by omega⟩
 ·obtain ⟨h1,h2⟩:=valid_actA hV ha;obtain ⟨o,ho⟩:=zbc h2.1 h2.2;refine ⟨o,ho,?_⟩;rw [h1];unfold opAt;rw [ho];rfl
 ·have:=(hS.act a ha).1;omega
theorem con_rowIn {m:Model} (hV:ValidM m) {c:Constraint} (hc:c∈m.constraints) (hk:c.kind=0):RowIn m c.row:=rowOK_in (zfL hV hc hk)
theorem conS_of {m:Model} (hS:SmallM m) (hV:ValidM m):ConS m:=by
 have hb:=box_len hS hV.lay;refine ⟨by have:=hS.constraints;omega,λc hc=>⟨by have:=hS.con c hc;omega,λt ht=>?_⟩⟩;rcases zer hV hc with h | h
 ·simp only [zdi,yb,beq_iff_eq] at h;obtain ⟨t1,t2,-⟩:=(rowOK_in (m:=m) h.2).term t ht;omega
 ·simp only [acyP,zgB,yb,beq_iff_eq] at h;have:c.row.terms=[]:=List.length_eq_zero_iff.1 (by omega);rw [this] at ht;simp at ht
def rhoI (m:Model) (s:Swap) (a:Action):Int:=ixP (actB m s a) m.actions 0
def sigI (m:Model) (s:Swap) (i:Nat):Nat:=if (conAt m i).kind=1 then i else (fstP (conB m s i) 0 m.constraints.length).getD 0
def symB (m:Model) (s:Swap):Bool:=(m.actions.all λa=>decide (0≤rhoI m s a))&&allR (λi=>decide ((conAt m i).kind=1)||(fstP (conB m s i) 0 m.constraints.length).isSome) 0 m.constraints.length
theorem symmetric_eq {m s n} (h:Swp m s) (hA:ActS m) (hC:ConS m) (hn:1000000≤n):zP n m s=some (symB m s):=by
 have hal:=hA.len;have hcl:=hC.len;have l2:loopF (zP.l2 n m s) n 0=some (allR (λi=>decide ((conAt m i).kind=1)||(fstP (conB m s i) 0 m.constraints.length).isSome) 0 m.constraints.length):=by
  have:=zfW (body:=zP.l2 n m s) (len:=m.constraints.length) (n:=n) (st:=λi=>(i:Int)) (λi=>decide ((conAt m i).kind=1)||(fstP (conB m s i) 0 m.constraints.length).isSome) (some false) (some true) (λrec i hi=>?_) (λrec=>?_) (by omega)
  ·rw [show ((0:Nat):Int)=0 from rfl] at this;rw [this];cases allR (λi=>decide ((conAt m i).kind=1)||(fstP (conB m s i) 0 m.constraints.length).isSome) 0 m.constraints.length <;> simp
  ·simp only [zP.l2,zk hi,if_true,zfZ h hC hi hn,ya,zb (i:=i) (by omega)];by_cases hk:(conAt m i).kind=1
   ·simp [hk]
   ·simp only [hk,if_false,decide_false,uk];cases fstP (conB m s i) 0 m.constraints.length <;> simp
  ·simp only [zP.l2,zad,ye,if_false]
 unfold zP symB;have:=zaj (body:=zP.l1 n m s) (l:=m.actions) (n:=n) (st:=λi=>(i:Int)) (λa=>decide (0≤rhoI m s a)) (some false) (loopF (zP.l2 n m s) n 0) (λrec i hi=>?_) (λrec=>?_) (by omega)
 ·rw [show ((0:Nat):Int)=0 from rfl] at this;rw [this,l2];cases (m.actions.all λa=>decide (0≤rhoI m s a)) <;> simp
 ·simp only [zP.l1,zk hi,if_true,zgp h hA (za hi) hn,ya,zb (i:=i) (by omega)];have e:ixP (actB m s m.actions[i]) m.actions 0=rhoI m s m.actions[i]:=rfl;rw [e];by_cases hr:0≤rhoI m s m.actions[i]
  ·simp [hr]
  ·simp [hr]
 ·simp only [zP.l1,zad,ye,if_false]
structure Sym (m:Model) (s:Swap):Prop where
 small:SmallM m
 valid:ValidM m
 swap:SwapOK m.sorts s
 sym:symB m s=true
def swpB (m:Model) (s:Swap):Bool:=(((decide (0≤s.sort)&&decide (s.sort<(m.sorts.length:Int)))&&decide (0≤s.a))&&decide (s.a<s.b))&&decide (s.b<((idx m.sorts s.sort).getD default))
theorem swpB_ok {m s} (h:swpB m s=true):SwapOK m.sorts s:=by
 simp only [swpB,yb,yd] at h;obtain ⟨⟨⟨⟨h1,h2⟩,h3⟩,h4⟩,h5⟩:=h;have hc:colOK m.sorts s.sort=true:=by simp [colOK,h1,h2]
 rw [zd7 hc,yf] at h5;exact ⟨hc,h3,h4,h5⟩
theorem Swap_eq {m s n} (hn:4294967296≤n) (hS:SmallM m):zea n m s=some (zdY m&&swpB m s):=by
 unfold zea;rw [ref13_Valid_eq hn hS,ya];unfold swpB;by_cases hc:((((zdY m&&decide (0≤s.sort))&&decide (s.sort<(m.sorts.length:Int)))&&decide (0≤s.a))&&decide (s.a<s.b))=true
 ·have hc':=hc;simp only [yb,yd] at hc';obtain ⟨⟨⟨⟨h0,h1⟩,h2⟩,h3⟩,h4⟩:=hc';obtain ⟨k,hk⟩:=zbc h1 h2;rw [hk];simp [h0,h1,h2,h3,h4,grd]
 ·simp only [yC] at hc;rw [hc];simp only [uB,uH,grd,if_true,yX];congr 1;symm;rw [uj] at hc ⊢;cases hv:zdY m with
  | false=>exact .inl rfl
  | true=>
   right;rw [hv] at hc;simp only [yE] at hc;rw [uj];left;rw [uj];exact hc
theorem Holds16_eq {m s n} (hn:4294967296≤n) (hS:SmallM m):zd9 n m s=some ((zdY m&&swpB m s)&&symB m s):=by
 unfold zd9;rw [Swap_eq hn hS,ya];cases hc:(zdY m&&swpB m s) with
 | false=>simp [grd]
 | true=>
  simp only [yb] at hc;have hV:=zed.1 hc.1;rw [symmetric_eq ⟨swpB_ok hc.2,hV.lay⟩ (actS_of hS hV) (conS_of hS hV) (by omega)];simp [grd]
theorem sym_of {m s} (hS:SmallM m) (h:((zdY m&&swpB m s)&&symB m s)=true):Sym m s:=by
 simp only [yb] at h;exact ⟨hS,zed.1 h.1.1,swpB_ok h.1.2,h.2⟩
section
variable {m:Model} {s:Swap} (h:Sym m s)
include h
theorem Sym.swp:Swp m s:=⟨h.swap,h.valid.lay⟩
theorem Sym.rho {a:Action} (ha:a∈m.actions):∃ (k:Nat) (hk:k<m.actions.length),rhoI m s a=(k:Int)∧actB m s a m.actions[k]=true:=by
 have:=h.sym;simp only [symB,yb,yi] at this;have hr:=of_decide_eq_true (this.1 a ha);unfold rhoI at *;rcases ixP_spec (actB m s a) m.actions 0 with ⟨h1,-⟩ | ⟨k,hk,h1,h2,-⟩
 ·omega
 ·exact ⟨k,hk,by rw [h1];simp,h2⟩
theorem Sym.sig {i:Nat} (hi:i<m.constraints.length):sigI m s i<m.constraints.length∧(conAt m (sigI m s i)).kind=(conAt m i).kind∧(((conAt m i).kind=1∧sigI m s i=i)∨((conAt m i).kind=0∧conB m s i (sigI m s i)=true∧∀ x,x<sigI m s i→conB m s i x=false)):=by
 have:=h.sym;simp only [symB,yb] at this;have hc:=zgM.1 this.2 i hi;have hkind:=(con_ok h.small h.valid (yg hi)).kind;rw [← zbA hi] at hkind;unfold sigI;by_cases hk:(conAt m i).kind=1
 ·rw [if_pos hk];exact ⟨hi,rfl,.inl ⟨hk,rfl⟩⟩
 ·rw [if_neg hk];simp only [hk,decide_false,uk] at hc;obtain ⟨j,hj⟩:=Option.isSome_iff_exists.1 hc;rw [hj,yf];obtain ⟨j1,j2,j3⟩:=fstP_some hj;have j2':=j2;simp only [conB,yb,beq_iff_eq] at j2';exact ⟨by omega,j2'.1.1.1,.inr ⟨by omega,j2,λx hx=>j3 x (yp _) hx⟩⟩
theorem rank_inj {i j:Nat} (hi:i<m.constraints.length) (hj:j<m.constraints.length) (hs:sameC (conAt m i) (conAt m j)=true) (hr:rankP m i=rankP m j):i=j:=by
 have key:∀ {i j:Nat},i<j→j<m.constraints.length→sameC (conAt m i) (conAt m j)=true→rankP m i<rankP m j:=λ{i j} hij hj hs=>by
  have hs':=hs;simp only [sameC,yb,beq_iff_eq,yd] at hs';have hf:sameC (conAt m j)=sameC (conAt m i):=by
   funext d;simp only [sameC,hs'.1.1,hs'.1.2,hs'.2]
  unfold rankP;rw [hf];have hii:i<m.constraints.length:=by omega
  have h1:(m.constraints.take (i+1)).countP (sameC (conAt m i))=(m.constraints.take i).countP (sameC (conAt m i))+1:=by
   rw [yv hii,List.countP_append,List.countP_singleton,← zbA hii];rw [if_pos (by simp [sameC])]
  have h2:(m.constraints.take (i+1)).countP (sameC (conAt m i))≤(m.constraints.take j).countP (sameC (conAt m i)):=by
   have:m.constraints.take (i+1)=(m.constraints.take j).take (i+1):=by rw [List.take_take];congr 1;omega
   rw [this];exact (List.take_sublist _ _).countP_le
  omega
 rcases Nat.lt_trichotomy i j with hlt | e | hlt
 ·have:=key hlt hj hs;omega
 ·exact e
 ·have hs2:sameC (conAt m j) (conAt m i)=true:=by
   simp only [sameC,yb,beq_iff_eq,yd] at hs ⊢;exact ⟨⟨hs.1.1.symm,hs.1.2.symm⟩,hs.2.symm⟩
  have:=key hlt hi hs2;omega
theorem Sym.rowIn {i:Nat} (hi:i<m.constraints.length) (hk:(conAt m i).kind=0):RowIn m (conAt m i).row:=by
 rw [zbA hi] at hk ⊢;exact con_rowIn h.valid (yg hi) hk
theorem Sym.sig_inj {i j:Nat} (hi:i<m.constraints.length) (hj:j<m.constraints.length) (e:sigI m s i=sigI m s j):i=j:=by
 obtain ⟨i1,i2,i3⟩:=h.sig hi;obtain ⟨j1,j2,j3⟩:=h.sig hj;rcases i3 with ⟨ik,ie⟩ | ⟨ik,ie,-⟩
 ·rcases j3 with ⟨jk,je⟩ | ⟨jk,-,-⟩
  ·rw [← ie,← je,e]
  ·rw [e,j2] at i2;omega
 ·rcases j3 with ⟨jk,-⟩ | ⟨jk,je,-⟩
  ·rw [e,j2] at i2;omega
  ·rw [e] at ie;simp only [conB,yb,beq_iff_eq,yd] at ie je;refine rank_inj h hi hj ?_ (by omega);simp only [sameC,yb,beq_iff_eq,yd];exact ⟨⟨by omega,by omega⟩,row_inj h.swp (h.rowIn hj jk) (h.rowIn hi ik) (by rw [← je.1.2,← ie.1.2])⟩
theorem Sym.sig_sig {i:Nat} (hi:i<m.constraints.length):sigI m s (sigI m s i)=i:=by
 obtain ⟨i1,i2,i3⟩:=h.sig hi;rcases i3 with ⟨ik,ie⟩ | ⟨ik,ie,-⟩
 ·rw [ie,ie]
 ·obtain ⟨j1,j2,j3⟩:=h.sig i1;rcases j3 with ⟨jk,-⟩ | ⟨jk,je,-⟩
  ·rw [i2] at jk;omega
  ·simp only [conB,yb,beq_iff_eq,yd] at ie je;refine rank_inj h j1 hi ?_ (by omega);simp only [sameC,yb,beq_iff_eq,yd];refine ⟨⟨by omega,by omega⟩,?_⟩;rw [je.1.2,ie.1.2,row_twice h.swp (h.rowIn hi ik)]
theorem Sym.con {x:List Int} (hx:x.length=(boxM m).length) {i:Nat} (hi:i<m.constraints.length):zX (conAt m (sigI m s i)) (stP m s x)=zX (conAt m i) x:=by
 obtain ⟨i1,i2,i3⟩:=h.sig hi;rcases i3 with ⟨ik,ie⟩ | ⟨ik,ie,-⟩
 ·rw [ie];have hc:=yg hi;rw [← zbA hi] at hc;obtain ⟨K,z1,z2,z3,z4,z5⟩:=(con_ok h.small h.valid hc).sz ik;have hacy:acyP m (conAt m i)=true:=by
   rcases zer h.valid hc with hp | hp
   ·simp only [zdi,yb,beq_iff_eq] at hp;omega
   ·exact hp
  exact graph_mv h.swp hacy ik z1 z4 z5 hx
 ·simp only [conB,yb,beq_iff_eq,yd] at ie;rw [zcP (by omega),zcP ik,ie.1.2];show decide (sumP (stP m s x) (rowM m s (conAt m i).row).terms≤(conAt m i).row.bound)=_;rw [sum_row h.swp hx (h.rowIn hi ik).term]
theorem Sym.cons {x:List Int} (hx:x.length=(boxM m).length):(∀ c∈m.constraints,zX c (stP m s x)=true)↔∀ c∈m.constraints,zX c x=true:=by
 have key:∀ {x:List Int},x.length=(boxM m).length→(∀ c∈m.constraints,zX c (stP m s x)=true)→∀ c∈m.constraints,zX c x=true:=λ{x} hx ha c hc=>by
  obtain ⟨i,hi,rfl⟩:=List.getElem_of_mem hc;rw [← zbA hi,← h.con hx hi,zbA (h.sig hi).1];exact ha _ (yg _)
 refine ⟨key hx,λha=>?_⟩;refine key (x:=stP m s x) (by rw [zgt,hx]) ?_;rw [stP_inv h.swp hx];exact ha
theorem Sym.act {a b:Action} (ha:a∈m.actions) (hb:b∈m.actions) (hab:actB m s a b=true) {x:List Int} (hx:x.length=(boxM m).length) :
  plusP (stP m s x) b.effect.delta=stP m s (plusP x a.effect.delta)∧possP m b.effect (stP m s x)=possP m a.effect x:=by
 simp only [actB,alikeB,yb,yd] at hab;obtain ⟨-,⟨l1,l2,-⟩,hd,hh,-⟩:=hab;have hea:=eff_in h.valid ha;have heb:=eff_in h.valid hb;have hp:=plus_mv h.swp hea heb l1 hd hx;refine ⟨hp,?_⟩;unfold possP;rw [hp,holds_mv h.swp hea heb l2 hh hx];congr 1;have c1:=h.cons hx;have c2:=h.cons (x:=plusP x a.effect.delta) (by rw [zdT,hx]);rw [Bool.eq_iff_iff];simp only [yi,yb];constructor
 ·intro hall c hc;exact ⟨c1.1 (λc hc=>(hall c hc).1) c hc,c2.1 (λc hc=>(hall c hc).2) c hc⟩
 ·intro hall c hc;exact ⟨c1.2 (λc hc=>(hall c hc).1) c hc,c2.2 (λc hc=>(hall c hc).2) c hc⟩
end
theorem plus_comm (s:List Int) (d e:List Change):plusP (plusP s d) e=plusP (plusP s e) d:=by
 unfold plusP;rw [y9,uF,y9,uF];refine List.map_congr_left λi hi=>?_
 have hi':=yJ.1 hi;simp [List.getD,hi'];omega
structure TgtMv (m:Model) (s:Swap) (q p:Question) (a A:Action):Prop where
 hold:p.target.hold=q.target.hold
 con:q.target.hold=false→∃ i:Nat,i<m.constraints.length∧q.target.index=(i:Int)∧p.target.index=((sigI m s i:Nat):Int)
 row:q.target.hold=true→∃ r,idx a.effect.hold q.target.index=some r∧idx A.effect.hold p.target.index=some (rowM m s r)
section
variable {m:Model} {s:Swap} {q p:Question} {a b A B:Action} (h:Sym m s)
include h
theorem rel_mv (ht:TgtMv m s q p a A) {i:Nat} (hi:i<m.constraints.length):relB p ((sigI m s i:Nat):Int)=relB q (i:Int):=by
 unfold relB;rw [ht.hold];cases hh:q.target.hold with
 | true=>rfl
 | false=>
  obtain ⟨j,j1,j2,j3⟩:=ht.con hh;rw [j2,j3,uk,uk,Bool.eq_iff_iff];simp only [bne_iff_ne,ne_eq];constructor
  ·intro hne e;exact hne (by rw [show j=i by omega])
  ·intro hne e;exact hne (by rw [h.sig_inj j1 hi (by omega)])
theorem shows_mv (ha:a∈m.actions) (hb:b∈m.actions) (hA:A∈m.actions) (hB:B∈m.actions) (haA:actB m s a A=true) (hbB:actB m s b B=true) (ht:TgtMv m s q p a A) {rows:List Nat} (hr:∀ i∈rows,i<m.constraints.length) {x:List Int} (hx:x.length=(boxM m).length) :
  showsP m p (rows.map λi=>((sigI m s i:Nat):Int)) A B (stP m s x)=showsP m q (rows.map λi:Nat=>(i:Int)) a b x:=by
 obtain ⟨pa1,pa2⟩:=h.act ha hA haA hx;obtain ⟨pb1,pb2⟩:=h.act hb hB hbB hx;have hxa:(plusP x a.effect.delta).length=(boxM m).length:=by rw [zdT,hx]
 obtain ⟨pab,-⟩:=h.act hb hB hbB hxa;rw [← pa1] at pab;have hcon:∀ i,i<m.constraints.length→zX (conAt m (sigI m s i)) (plusP (plusP (stP m s x) A.effect.delta) B.effect.delta)=zX (conAt m i) (plusP (plusP x a.effect.delta) b.effect.delta):=λi hi=>by
  rw [pab,h.con (by rw [zdT,hxa]) hi]
 have hget:∀ i,i<m.constraints.length→(idx m.constraints ((i:Nat):Int)).getD default=conAt m i:=λi hi=>by rw [za hi,zbA hi];rfl
 unfold showsP;rw [pa2,pb2];congr 1;have hrows:((rows.map λi=>((sigI m s i:Nat):Int)).all λi=>!(relB p i&&!zX ((idx m.constraints i).getD default) (plusP (plusP (stP m s x) A.effect.delta) B.effect.delta)))=((rows.map λi:Nat=>(i:Int)).all λi=>!(relB q i&&!zX ((idx m.constraints i).getD default) (plusP (plusP x a.effect.delta) b.effect.delta))):=by
  rw [List.all_map,List.all_map,Bool.eq_iff_iff,yi,yi];have e:∀ i∈rows,((λi=>!(relB p i&&!zX ((idx m.constraints i).getD default) (plusP (plusP (stP m s x) A.effect.delta) B.effect.delta)))∘λi=>((sigI m s i:Nat):Int)) i=((λi=>!(relB q i&&!zX ((idx m.constraints i).getD default) (plusP (plusP x a.effect.delta) b.effect.delta)))∘λi:Nat=>(i:Int)) i:=λi hi=>by
   have hi':=hr i hi;simp only [Function.comp_apply];rw [rel_mv h ht hi',hget _ (h.sig hi').1,hget _ hi',hcon i hi']
  exact ⟨λha i hi=>by rw [← e i hi];exact ha i hi,λha i hi=>by rw [e i hi];exact ha i hi⟩
 rw [hrows];congr 1;unfold brokenP;rw [ht.hold];cases hh:q.target.hold with
 | true=>
  obtain ⟨r,r1,r2⟩:=ht.row hh;simp only [if_true];rw [r1,r2,yf,yf,pb1,row_holds h.swp (by rw [zdT,hx]) ((eff_in h.valid ha).hold r (zaf r1))]
 | false=>
  obtain ⟨j,j1,j2,j3⟩:=ht.con hh;simp only [ye,if_false];rw [j2,j3,hget _ (h.sig j1).1,hget _ j1,hcon j j1]
end
theorem shows_swap {m:Model} {p:Question} {rows:List Int} {A B:Action} {x:List Int} (hh:p.target.hold=false):showsP m p rows A B x=showsP m p rows B A x:=by
 unfold showsP brokenP;rw [hh,plus_comm x A.effect.delta B.effect.delta,Bool.and_comm (possP m A.effect x)];rfl
theorem moveCon_sym {m s n} (hn:1000000≤n) (h:Sym m s) {i:Nat} (hi:i<m.constraints.length):zV n m s (i:Int)=some (((sigI m s i:Nat):Int),true):=by
 have hsym:=h.sym;simp only [symB,yb] at hsym;have hcc:=zgM.1 hsym.2 i hi;rw [zfZ h.swp (conS_of h.small h.valid) hi hn];congr 1;unfold sigI;by_cases hk1:(conAt m i).kind=1
 ·rw [if_pos hk1,if_pos hk1]
 ·rw [if_neg hk1,if_neg hk1];simp only [hk1,decide_false,uk] at hcc;obtain ⟨j,hj⟩:=Option.isSome_iff_exists.1 hcc;simp only [hj];rfl
theorem Constraint_eq {m s n} (hn:4294967296≤n) (h:Sym m s) (hb:swpB m s=true) {i:Nat} (hi:i<m.constraints.length):zdp n m s (i:Int)=some (((sigI m s i:Nat):Int),true):=by
 unfold zdp;rw [Swap_eq hn h.small,zed.2 h.valid,hb,ya,if_neg (by simp;omega),moveCon_sym (by omega) h hi,ya]
structure QMv (m:Model) (s:Swap) (q p:Question) (a b:Action):Prop where
 out:∃ (k l:Nat) (hk:k<m.actions.length) (hl:l<m.actions.length),actB m s a m.actions[k]=true∧actB m s b m.actions[l]=true∧(q.e=q.f→k=l)∧TgtMv m s q p a m.actions[k] ∧
  (q.target.hold=true→p.e=(k:Int)∧p.f=(l:Int))∧(q.target.hold=false→p.e≤p.f∧((p.e=(k:Int)∧p.f=(l:Int))∨(p.e=(l:Int)∧p.f=(k:Int))))
theorem Move_told {m s n} {q:Question} {a b:Action} (hn:4294967296≤n) (h:Sym m s) (hq:zd3 m q=true) (ha:idx m.actions q.e=some a) (hb:idx m.actions q.f=some b):∃ p ok,zc7 n m s q=some (p,ok)∧(ok=true→QMv m s q p a b):=by
 obtain ⟨q1,q2,q3,q4,q5⟩:=zeX hq;have hA:=actS_of h.small h.valid;have hC:=conS_of h.small h.valid;have hn1:1000000≤n:=by omega
 obtain ⟨k,hk,k1,k2⟩:=h.rho (zaf ha);obtain ⟨l,hl,l1,l2⟩:=h.rho (zaf hb);have hkl:q.e=q.f→k=l:=λe=>by
  rw [e,hb] at ha;cases ha;omega
 have m1:=zgp (n:=n) h.swp hA ha hn1;have m2:=zgp (n:=n) h.swp hA hb hn1;rw [show ixP (actB m s a) m.actions 0=rhoI m s a from rfl,k1,if_pos (by omega)] at m1;rw [show ixP (actB m s b) m.actions 0=rhoI m s b from rfl,l1,if_pos (by omega)] at m2;unfold zc7;rw [m1,ya,m2,ya,if_neg (by simp)];cases hh:q.target.hold with
 | false=>
  obtain ⟨i,hi⟩:=yR q3;have hil:i<m.constraints.length:=by have:=(q5 hh).2;omega
  rw [hi,if_pos (by simp),moveCon_sym hn1 h hil,ya,if_neg (by simp)];refine ⟨_,_,rfl,λ_=>⟨k,l,hk,hl,k2,l2,hkl,⟨by simp [hh],λ_=>⟨i,hil,hi,rfl⟩,λe=>(by rw [hh] at e;cases e)⟩,λe=>(by rw [hh] at e;cases e),λ_=>?_⟩⟩;simp only [];unfold gmin gmax;by_cases e:(l:Int)<(k:Int)
  ·rw [if_pos e,if_neg (by omega)];exact ⟨by omega,.inr ⟨rfl,rfl⟩⟩
  ·rw [if_neg e];by_cases e2:(l:Int) > (k:Int)
   ·rw [if_pos e2];exact ⟨by omega,.inl ⟨rfl,rfl⟩⟩
   ·rw [if_neg e2];exact ⟨by omega,.inl ⟨rfl,by omega⟩⟩
 | true=>
  obtain ⟨r,hr⟩:=zbc q3 (q4 hh a ha);have hra:=(eff_in h.valid (zaf ha)).hold r (zaf hr);have hrs:=(hA.act a (zaf ha)).1.hold.2 r (zaf hr);have hka:idx m.actions (k:Int)=some m.actions[k]:=za hk;rw [if_neg (by simp),ha,ya,hka,ya,hr,ya,row_eq h.swp hrs.2 hrs.1 hn1,ya];have hoa:=(hA.act a (zaf ha)).1.hold;have hob:=(hA.act _ (yg hk)).1.hold;obtain ⟨t0,ht0⟩:=yR q3;have htl:t0≤a.effect.hold.length:=by have:=q4 hh a ha;omega
  have tq:=times_eq (n:=n) (l:=a.effect.hold) (k:=t0) (r:=r) htl (by omega) (λx hx=>by have:=(hoa.2 x hx).1;omega) hn1;rw [← ht0] at tq;have:=za3 (body:=zc7.l1 n q ((k:Int),true) ((l:Int),true) a m.actions[k] (rowM m s r)) (k:=m.actions[k].effect.hold.length) (n:=n) (st:=λ(_:Unit) i=>(i:Int)) (λ_ _=>True) (λres:Question×Bool=>res.2=true→QMv m s q res.1 a b) (λrec i _ hi _ hrec=>?_) (λrec _ _=>?_) (by omega) () trivial
  ·obtain ⟨⟨p,ok⟩,p1,p2⟩:=this;exact ⟨p,ok,by simpa using p1,p2⟩
  ·have ti:=times_eq (n:=n) (l:=m.actions[k].effect.hold) (k:=i) (r:=rowM m s r) (by omega) (by omega) (λx hx=>by have:=(hob.2 x hx).1;omega) hn1;have hsame:=same16_eq (n:=n) (r:=m.actions[k].effect.hold[i]) (t:=rowM m s r) (by have:=(hob.2 _ (yg hi)).1;omega) hn1;simp only [zc7.l1,zk hi,if_true,za hi,ya,hsame,ti,hr,yf,tq,yj,yr,grd,zb (i:=i) (by omega)];split
   ·rename_i hc;simp only [yb,yd] at hc;refine ⟨_,rfl,λ_=>⟨k,l,hk,hl,k2,l2,hkl,⟨by simp [hh],λe=>(by rw [hh] at e;cases e),λ_=>⟨r,hr,?_⟩⟩,λ_=>⟨rfl,rfl⟩,λe=>(by rw [hh] at e;cases e)⟩⟩;show idx m.actions[k].effect.hold (i:Int)=_;rw [za hi,hc.1]
   ·exact hrec () trivial
  ·simp only [zc7.l1,zad,ye,if_false];exact ⟨_,rfl,λe=>by simp at e⟩
theorem cyc_rot {E F:Nat→Nat→Bool} {K:Nat} {τ:Nat→Nat} (hτ:∀ a,a<K→τ a<K) (hinj:∀ a b,τ a=τ b→a=b) (hE:∀ a b,a<K→b<K→E a b=true→F (τ a) (τ b)=true) {x:List Int} (hx:x∈cycP E K) :
  ∃ y∈cycP F K,y.length=x.length∧∃ t,∀ i,i<x.length→vtx y i=τ (vtx x ((t+i) % x.length)):=by
 have hp:=zem hx;have hin:=cycP_in hx;have hpos:=hp.pos;have hv:=λi=>(zgG hp (Nat.mod_lt i (show 0<x.length by omega)))
 have hw:Walk F K x.length (λi=>τ (vtx x (i % x.length))):=⟨λi=>by simp,λi=>hτ _ (hv i).1,λi=>by
  have:=hin (i % x.length) (Nat.mod_lt _ (by omega));rw [Nat.mod_add_mod] at this;exact hE _ _ (hv i).1 (hv (i+1)).1 this⟩
 obtain ⟨t,-,ht⟩:=walk_list (by omega) hw λi j hi hj e=>by
  have e2:=hinj _ _ e;rw [Nat.mod_eq_of_lt hi,Nat.mod_eq_of_lt hj] at e2;have h1:=(zgG hp hi).2;have h2:=(zgG hp hj).2;rw [getD_at hi] at h1;rw [getD_at hj] at h2;have hnd:=List.pairwise_iff_getElem.1 hp.nd;rcases Nat.lt_trichotomy i j with hlt | e3 | hlt
  ·exact absurd (by omega) (hnd i j hi hj hlt)
  ·exact e3
  ·exact absurd (by omega) (hnd j i hj hi hlt)
 refine ⟨_,ht,by simp,t,λi hi=>?_⟩;unfold vtx;simp [yq,hi]
theorem flat_le {α β:Type} {f g:α→List β}:∀ {l:List α},(∀ x∈l,(f x).length≤(g x).length)→(l.flatMap f).length≤(l.flatMap g).length
 | [],_=>by simp
 | x::l,h=>by
  simp only [ui,yI];have h1:=h x (by simp);have h2:=flat_le (f:=f) (g:=g) (l:=l) λy hy=>h y (by simp [hy])
  omega
theorem sub_flat {α β:Type} (f:α→List β) {A B:List α} (h:List.Sublist A B):List.Sublist (A.flatMap f) (B.flatMap f):=by
 induction h with
 | slnil=>simp
 | cons b _ ih=>rw [ui];exact ih.trans (List.sublist_append_right _ _)
 | cons_cons b _ ih=>rw [ui,ui];exact (List.Sublist.refl _).append ih
theorem lev_le {E:Nat→Nat→Bool} {K:Nat}:∀ (r:Nat) (ls:List (List Int)),(lev E K r ls).length≤(lev (λ_ _=>true) K r ls).length∧∀ x∈lev E K r ls,x∈lev (λ_ _=>true) K r ls
 | 0,ls=>⟨yn _,λ_ h=>h⟩
 | r+1,ls=>by
  have hsub:∀ l,(ext E K l).length≤(ext (λ_ _=>true) K l).length:=λl=>by
   refine flat_le λi _=>?_
   unfold ext1;cases E (lstN l) (fstN l+1+i)
   ·simp
   ·simp
  have hsl:∀ ls:List (List Int),(List.Sublist (ls.flatMap (ext E K)) (ls.flatMap (ext (λ_ _=>true) K))):=λls=>by
   induction ls with
   | nil=>simp
   | cons l ls ih=>
    simp only [ui];refine List.Sublist.append ?_ ih;unfold ext;generalize List.range (K - (fstN l+1))=R
    induction R with
    | nil=>simp
    | cons i R ih2=>
     simp only [ui];refine List.Sublist.append ?_ ih2;unfold ext1;cases E (lstN l) (fstN l+1+i)
     ·simp
     ·exact List.Sublist.refl _
  have hlev:∀ (r:Nat) {A B:List (List Int)},List.Sublist A B→List.Sublist (lev (λ_ _=>true) K r A) (lev (λ_ _=>true) K r B):=λr=>by
   induction r with
   | zero=>intro A B h;exact h
   | succ r ih=>
    intro A B h;exact ih (sub_flat _ h)
  obtain ⟨i1,i2⟩:=lev_le (E:=E) (K:=K) r (ls.flatMap (ext E K));have:=hlev r (hsl ls);exact ⟨ua i1 this.length_le,λx hx=>this.subset (i2 x hx)⟩
theorem cycP_few {E:Nat→Nat→Bool} {K:Nat} (h6:K≤6):(cycP E K).length≤1024:=by
 have h1:(cycP E K).length≤((List.range K).flatMap λr=>lev (λ_ _=>true) K r (ones K)).length:=flat_le λr _=>ua (List.length_filter_le _ _) (lev_le r (ones K)).1
 have h2:∀ k,k≤6→((List.range k).flatMap λr=>lev (λ_ _=>true) k r (ones k)).length≤1024:=by decide +kernel
 exact ua h1 (h2 K h6)
theorem chgP_perm {d:List Change} {l k:List Term} (h:l.Perm k):chgP d l=chgP d k:=by
 induction h with
 | nil=>rfl
 | cons t _ ih=>simp only [chgP,ih]
 | swap a b l=>simp only [chgP];omega
 | trans _ _ i1 i2=>rw [i1,i2]
theorem gmax_swap (x y:Int):gmax (gmax 0 x) y=gmax (gmax 0 y) x:=by
 unfold gmax
 repeat' split
 all_goals omega
theorem negRow_OK {K:Nat} {r:Row} {x:Int} (hr:rowOK K r=true) (hb:zar (sub64 (add64 (neg64 r.bound) x) 1) 1000000000=true):rowOK K (negRow r x)=true:=by
 have key:∀ {l:List Term} {last:Int},rowP K last l=true→rowP K last (l.map λt=>⟨t.cell,neg64 t.factor⟩)=true:=λ{l}=>by
  induction l with
  | nil=>intro _ _;rfl
  | cons t l ih=>
   intro last h;simp only [rowP,zar,yb,yd,bne_iff_ne] at h;simp only [yP,rowP,zar,yb,yd,bne_iff_ne];obtain ⟨⟨⟨⟨h1,h2⟩,h3⟩,h4,h5⟩,h6⟩:=h;rw [neg_small (by omega) (by omega)];exact ⟨⟨⟨⟨h1,h2⟩,by omega⟩,by omega,by omega⟩,ih h6⟩
 simp only [rowOK,yb] at hr ⊢;exact ⟨key hr.1,hb⟩
structure Pair (m:Model) (s:Swap) (a b A B a' b':Action):Prop where
 ma:a∈m.actions
 mb:b∈m.actions
 mA:A∈m.actions
 mB:B∈m.actions
 aA:actB m s a A=true
 bB:actB m s b B=true
 or:(a'=A∧b'=B)∨(a'=B∧b'=A)
section
variable {n:Nat} {m:Model} {s:Swap} (h:Sym m s) (hn:4294967296≤n)
include h
theorem zeE {a A:Action} (ha:a∈m.actions) (hA:A∈m.actions) (hab:actB m s a A=true) {c:Int} (c0:0≤c) (c1:c<((boxM m).length:Int)):zg A.effect.delta (mvC m s c)=zg a.effect.delta c:=by
 simp only [actB,alikeB,yb,yd] at hab;exact delta_mv h.swp (eff_in h.valid ha) (eff_in h.valid hA) hab.2.1.1 hab.2.2.1 c0 c1
theorem chgP_mv {a A:Action} (ha:a∈m.actions) (hA:A∈m.actions) (hab:actB m s a A=true) {r:Row} (hr:RowIn m r):chgP A.effect.delta (rowM m s r).terms=chgP a.effect.delta r.terms:=by
 rw [chgP_perm (zf6 m s r)];have:∀ l:List Term,(∀ t∈l,zfs (boxM m).length t)→chgP A.effect.delta (l.map (mvt m s))=chgP a.effect.delta l:=λl=>by
  induction l with
  | nil=>intro _;rfl
  | cons t l ih=>
   intro ht;obtain ⟨t1,t2,-⟩:=ht t (by simp);simp only [yP,chgP];rw [ih λu hu=>ht u (by simp [hu])];show t.factor*zg A.effect.delta (mvC m s t.cell)+_=_;rw [zeE h ha hA hab t1 t2]
 exact this _ hr.term
include hn
theorem chgN_mv {a A:Action} (ha:a∈m.actions) (hA:A∈m.actions) (hab:actB m s a A=true) {r:Row} (hr:rowOK (boxM m).length r=true) (hl:r.terms.length≤500):chgN n A (rowM m s r)=chgN n a r:=by
 have hri:=rowOK_in hr;have hn1:1000000≤n:=by omega
 have hrm:=hri.mv h.swp;have hlen:(rowM m s r).terms.length=r.terms.length:=by rw [(zf6 m s r).length_eq];simp
 rw [chgN_eq (zgy h.small hA) (zdG h.valid hA).1 (λt ht=>(hrm.term t ht).2.2) (by omega) hn1,chgN_eq (zgy h.small ha) (zdG h.valid ha).1 (λt ht=>(hri.term t ht).2.2) (by omega) hn1,chgP_mv h ha hA hab hri]
theorem raised_mv {a A:Action} (ha:a∈m.actions) (hA:A∈m.actions) (hab:actB m s a A=true) {c:Constraint} (hc:c∈m.constraints) (hk:c.kind=1) (hr:0<(((zi n A c).getD []).length:Int)):0<(((zi n a c).getD []).length:Int):=by
 refine Classical.byContradiction λhno=>?_
 have hco:=con_ok h.small h.valid hc;obtain ⟨k,k1,k2⟩:=hco.mul hk;obtain ⟨K,z1,z2,z3,z4,z5⟩:=hco.sz hk;have hacy:acyP m c=true:=by
  rcases zer h.valid hc with hp | hp
  ·simp only [zdi,yb,beq_iff_eq] at hp;omega
  ·exact hp
 obtain ⟨τ,t1,t2,t3⟩:=acy_cell h.swp hacy z1 z4;have hKs:k=K*K:=by
  have:K*K≤36:=y0 z3 z3;have e:mul64 c.size c.size=((K*K:Nat):Int):=by
   rw [z1,zc5 (by rw [← yH];omega) (by rw [← yH];omega)];simp
  rw [k1] at e;omega
 have hoA:=(zgy h.small hA).delta;have hoa:=(zgy h.small ha).delta;have hbl:=box_len h.small h.valid.lay;rw [zdu k1 (by omega) (by omega) (by omega) (by omega),yf] at hr hno;have hz:∀ j:Nat,j<K*K→zg a.effect.delta (c.first+(j:Int))≤0:=λj hj=>by
  have:=raised_nil (p:=zeC a.effect.delta c) (k:=k) (i:=0) (by omega) j (by omega) (by omega);unfold zeC at this;rw [zaq (by omega) (by omega)] at this;simpa using this
 have hA0:∀ j:Nat,j<K*K→zeC A.effect.delta c (j:Int)=false:=λj hj=>by
  have hKpos:0<K:=by omega
  have hx:j / K<K:=Nat.div_lt_of_lt_mul hj;have hy:j % K<K:=Nat.mod_lt _ hKpos;have ej:j / K*K+j % K=j:=by rw [Nat.mul_comm];exact Nat.div_add_mod j K
  have hm:=t3 (j / K) (j % K) hx hy;rw [ej] at hm;obtain ⟨⟨c1,c2⟩,c3,-⟩:=h.swp.cell (c:=c.first+(j:Int)) (by omega) (by omega);have hadd:=zeE h ha hA hab c1 c2;rw [c3,hm] at hadd;have hpl:=zcH (t1 _ hx) (t1 _ hy);have:=hz _ hpl;unfold zeC;rw [zaq (by omega) (by omega),hadd];exact decide_eq_false (by omega)
 have hnil:∀ (k i:Nat),i+k≤K*K→zcm (zeC A.effect.delta c) i k=[]:=λk=>by
  induction k with
  | zero=>intro i _;rfl
  | succ k ih=>
   intro i hi;rw [zcm,hA0 i (by omega),if_neg (by simp),ih (i+1) (by omega)]
 rw [hnil k 0 (by omega)] at hr;simp at hr
theorem graphV_mv {a A:Action} (ha:a∈m.actions) (hA:A∈m.actions) (hab:actB m s a A=true) {c:Constraint} (hc:c∈m.constraints) (hk:c.kind=1) (hv:zbC (boxM m).length (gr n c λq0=>zm n q0 a)=true):zbC (boxM m).length (gr n c λq0=>zm n q0 A)=true:=by
 have hn1:1000000≤n:=by omega
 have hco:=con_ok h.small h.valid hc;obtain ⟨K,z1,z2,z3,z4,z5⟩:=hco.sz hk;have hacy:acyP m c=true:=by
  rcases zer h.valid hc with hp | hp
  ·simp only [zdi,yb,beq_iff_eq] at hp;omega
  ·exact hp
 obtain ⟨τ,t1,t2,t3⟩:=acy_cell h.swp hacy z1 z4;have hbl:=box_len h.small h.valid.lay;have h36:K*K≤36:=y0 z3 z3;have ea:=gr_eq (n:=n) (K:=K) (c:=c) (f:=λq0=>zm n q0 a) (fP:=zg a.effect.delta) z1 z3 (λz=>by unfold zm;rw [(zfp hn h.small h.valid ha).added hn1];rfl) hn1;have eA:=gr_eq (n:=n) (K:=K) (c:=c) (f:=λq0=>zm n q0 A) (fP:=zg A.effect.delta) z1 z3 (λz=>by unfold zm;rw [(zfp hn h.small h.valid hA).added hn1];rfl) hn1;rw [ea] at hv;rw [eA];unfold zbC graphF at hv ⊢;simp only [y9,uF,yb] at hv ⊢;refine ⟨hv.1,?_⟩;have hv2:=hv.2;simp only [yz,List.any_eq_false] at hv2 ⊢;intro v hvm;obtain ⟨j,hj,rfl⟩:=yN.1 hvm;have hj:=yJ.1 hj;have hKpos:0<K:=by omega
 have hx:j / K<K:=Nat.div_lt_of_lt_mul hj;have hy:j % K<K:=Nat.mod_lt _ hKpos;have ej:j / K*K+j % K=j:=by rw [Nat.mul_comm];exact Nat.div_add_mod j K
 have hm:=t3 (j / K) (j % K) hx hy;rw [ej] at hm;obtain ⟨⟨c1,c2⟩,c3,-⟩:=h.swp.cell (c:=c.first+(j:Int)) (by omega) (by omega);have hadd:=zeE h ha hA hab c1 c2;rw [c3,hm] at hadd;have hpl:=zcH (t1 _ hx) (t1 _ hy);have:=hv2 _ (yN.2 ⟨τ (j / K)*K+τ (j % K),yJ.2 hpl,rfl⟩);have e1:add64 c.first (j:Int)=c.first+(j:Int):=zaq (by omega) (by omega)
 have e2:add64 c.first ((τ (j / K)*K+τ (j % K):Nat):Int)=c.first+((τ (j / K)*K+τ (j % K):Nat):Int):=zaq (by omega) (by omega)
 rw [e2] at this;rw [e1,hadd];exact this
end
theorem rot_sur {len t j:Nat} (hj:j<len):∃ i,i<len∧(t+i) % len=j:=by
 have hr:=Nat.mod_lt t (show 0<len by omega);by_cases e:t % len≤j
 ·exact ⟨j - t % len,by omega,by rw [← Nat.mod_add_mod,show t % len+(j - t % len)=j by omega,Nat.mod_eq_of_lt hj]⟩
 ·exact ⟨j+len - t % len,by omega,by rw [← Nat.mod_add_mod,show t % len+(j+len - t % len)=j+len by omega,Nat.add_mod_right,Nat.mod_eq_of_lt hj]⟩
theorem hasP_val {K a b:Nat} {V:Nat→Bool} (ha:a<K) (hb:b<K):hasP ⟨(K:Int),(List.range (K*K)).map V⟩ a b=V (a*K+b):=by
 have hp:=zcH ha hb;unfold hasP;simp only [yt];rw [yq,y8,List.getElem?_range hp];rfl
theorem add64_comm (x y:Int):add64 x y=add64 y x:=by
 unfold add64;rw [Int.add_comm]
theorem idx_get {α:Type} {l:List α} {c:Int} (h0:0≤c):idx l c=l[c.toNat]?:=by
 unfold idx;rw [if_pos h0]
section
variable {n:Nat} {m:Model} {s:Swap} (h:Sym m s) (hn:4294967296≤n) {a b A B a' b':Action} (hp:Pair m s a b A B a' b')
include h hp
theorem pair_added {z:Int} (z0:0≤z) (z1:z<((boxM m).length:Int)):(zg a'.effect.delta z=zg a.effect.delta (mvC m s z)∧zg b'.effect.delta z=zg b.effect.delta (mvC m s z))∨(zg a'.effect.delta z=zg b.effect.delta (mvC m s z)∧zg b'.effect.delta z=zg a.effect.delta (mvC m s z)):=by
 obtain ⟨⟨c1,c2⟩,c3,-⟩:=h.swp.cell z0 z1;have e1:=zeE h hp.ma hp.mA hp.aA c1 c2;have e2:=zeE h hp.mb hp.mB hp.bB c1 c2;rw [c3] at e1 e2;rcases hp.or with ⟨rfl,rfl⟩ | ⟨rfl,rfl⟩
 ·exact .inl ⟨e1,e2⟩
 ·exact .inr ⟨e2,e1⟩
theorem cases_mv {c:Constraint} (hc:c∈m.constraints) (hk:c.kind=1) {K:Nat} (hK:c.size=(K:Int)):∀ rows'∈zfd (zg a'.effect.delta) (zg b'.effect.delta) (boxM m) c K,rows'.length≤64∧∃ rows∈zfd (zg a.effect.delta) (zg b.effect.delta) (boxM m) c K,∀ r'∈rows',(∃ z:Int,(0≤z∧z<((boxM m).length:Int))∧r'.terms=[⟨z,-1⟩])∧∃ r∈rows,r'.bound=r.bound:=by
 obtain ⟨K',z1,z2,z3,z4,z5⟩:=(con_ok h.small h.valid hc).sz hk;obtain rfl:K'=K:=by omega
 have hacy:acyP m c=true:=by
  rcases zer h.valid hc with hq | hq
  ·simp only [zdi,yb,beq_iff_eq] at hq;omega
  ·exact hq
 obtain ⟨τ,t1,t2,t3⟩:=acy_cell h.swp hacy z1 z4;have hbl:=box_len h.small h.valid.lay;have h36:K'*K'≤36:=y0 z3 z3;have hS:∀ z,0≤z→z<((boxM m).length:Int)→add64 (zg a'.effect.delta z) (zg b'.effect.delta z)=add64 (zg a.effect.delta (mvC m s z)) (zg b.effect.delta (mvC m s z)):=λz h0 h1=>by
  rcases pair_added h hp h0 h1 with ⟨e1,e2⟩ | ⟨e1,e2⟩
  ·rw [e1,e2]
  ·rw [e1,e2,add64_comm]
 intro rows' hrows';obtain ⟨x,hx,hr⟩:=ue.1 hrows';have hxp:=zem hx;have hxl:=hxp.len;have hpos:=hxp.pos;unfold zdd at hr;split at hr
 ·rename_i hcond;simp only [yS] at hr;subst hr;have hE:∀ p q,p<K'→q<K'→hasP ⟨(K':Int),(List.range (K'*K')).map λi:Nat=>decide (1≤add64 ((idx (boxM m) (add64 c.first (i:Int))).getD default).hi (add64 (zg a'.effect.delta (add64 c.first (i:Int))) (zg b'.effect.delta (add64 c.first (i:Int)))))⟩ p q=true →
    hasP ⟨(K':Int),(List.range (K'*K')).map λi:Nat=>decide (1≤add64 ((idx (boxM m) (add64 c.first (i:Int))).getD default).hi (add64 (zg a.effect.delta (add64 c.first (i:Int))) (zg b.effect.delta (add64 c.first (i:Int)))))⟩ (τ p) (τ q)=true:=λp q hp2 hq2 he=>by
   have l1:=zcH hp2 hq2;have l2:=zcH (t1 p hp2) (t1 q hq2);rw [hasP_val hp2 hq2] at he;rw [hasP_val (t1 p hp2) (t1 q hq2)];have e1:add64 c.first ((p*K'+q:Nat):Int)=c.first+((p*K'+q:Nat):Int):=zaq (by omega) (by omega)
   have e2:add64 c.first ((τ p*K'+τ q:Nat):Int)=c.first+((τ p*K'+τ q:Nat):Int):=zaq (by omega) (by omega)
   obtain ⟨⟨c1,c2⟩,c3,c4⟩:=h.swp.cell (c:=c.first+((p*K'+q:Nat):Int)) (by omega) (by omega);have hi:idx (boxM m) (mvC m s (c.first+((p*K'+q:Nat):Int)))=idx (boxM m) (c.first+((p*K'+q:Nat):Int)):=by rw [idx_get c1,idx_get (by omega),c4]
   simp only [e1] at he;simp only [e2];rw [← t3 p q hp2 hq2,hi,← hS _ (by omega) (by omega)];exact he
  obtain ⟨y,hy,hyl,t,hyv⟩:=cyc_rot t1 (λp q e=>by rw [← t2 p,e,t2]) hE hx;have hyp:=zem hy;have hcell:∀ j,j<x.length→(0≤zbd c x j∧zbd c x j<((boxM m).length:Int))∧∃ i,i<y.length∧zbd c y i=mvC m s (zbd c x j):=λj hj=>by
   have v1:=(zgG hxp hj).1;have v2:=(zgG hxp (Nat.mod_lt (j+1) (show 0<x.length by omega))).1;have l1:=zcH v1 v2;rw [cyc_cell z1 z3 z4 (by omega) hxp hj];refine ⟨by omega,?_⟩;obtain ⟨i,hi,hij⟩:=rot_sur (t:=t) hj;refine ⟨i,by omega,?_⟩;rw [cyc_cell z1 z3 z4 (by omega) hyp (by omega),hyl,hyv i hi,hyv ((i+1) % x.length) (Nat.mod_lt _ (by omega)),hij];have e:(t+(i+1) % x.length) % x.length=(j+1) % x.length:=by
    rw [Nat.add_mod_mod,← Nat.add_assoc,← hij,Nat.mod_add_mod]
   rw [e,t3 _ _ v1 v2]
  have hany:∀ f:Int→Int,(∃ j,j<x.length∧0<f (mvC m s (zbd c x j)))→(List.range y.length).any (λi=>decide (0<f (zbd c y i)))=true:=λf ⟨j,hj,hf⟩=>by
   obtain ⟨-,i,hi,e⟩:=hcell j hj;exact uq.2 ⟨i,yJ.2 hi,by rw [e];simpa using hf⟩
  have hcond2:((List.range y.length).any (λi=>decide (0<zg a.effect.delta (zbd c y i)))&&(List.range y.length).any (λi=>decide (0<zg b.effect.delta (zbd c y i))))=true:=by
   simp only [yb,uq,yJ,yd] at hcond;obtain ⟨⟨j1,hj1,p1⟩,j2,hj2,p2⟩:=hcond;have q1:=hcell j1 hj1;have q2:=hcell j2 hj2;rcases hp.or with ⟨ea,eb⟩ | ⟨ea,eb⟩
   ·subst ea eb;have r1:=zeE h hp.ma hp.mA hp.aA (h.swp.cell q1.1.1 q1.1.2).1.1 (h.swp.cell q1.1.1 q1.1.2).1.2;have r2:=zeE h hp.mb hp.mB hp.bB (h.swp.cell q2.1.1 q2.1.2).1.1 (h.swp.cell q2.1.1 q2.1.2).1.2;rw [(h.swp.cell q1.1.1 q1.1.2).2.1] at r1;rw [(h.swp.cell q2.1.1 q2.1.2).2.1] at r2;rw [hany (zg a.effect.delta) ⟨j1,hj1,by omega⟩,hany (zg b.effect.delta) ⟨j2,hj2,by omega⟩];rfl
   ·subst ea eb;have r1:=zeE h hp.mb hp.mB hp.bB (h.swp.cell q1.1.1 q1.1.2).1.1 (h.swp.cell q1.1.1 q1.1.2).1.2;have r2:=zeE h hp.ma hp.mA hp.aA (h.swp.cell q2.1.1 q2.1.2).1.1 (h.swp.cell q2.1.1 q2.1.2).1.2;rw [(h.swp.cell q1.1.1 q1.1.2).2.1] at r1;rw [(h.swp.cell q2.1.1 q2.1.2).2.1] at r2;rw [hany (zg a.effect.delta) ⟨j2,hj2,by omega⟩,hany (zg b.effect.delta) ⟨j1,hj1,by omega⟩];rfl
  refine ⟨by simp;omega,(List.range y.length).map (edgeRow (zg a.effect.delta) (zg b.effect.delta) c y),ue.2 ⟨y,hy,?_⟩,λr' hr'=>?_⟩
  ·unfold zdd;rw [if_pos hcond2];exact yS.2 rfl
  ·obtain ⟨j,hj,rfl⟩:=yN.1 hr';obtain ⟨q1,i,hi,e⟩:=hcell j (yJ.1 hj);refine ⟨⟨_,q1,rfl⟩,_,yN.2 ⟨i,yJ.2 hi,rfl⟩,?_⟩;show sub64 (add64 (zg a'.effect.delta (zbd c x j)) (zg b'.effect.delta (zbd c x j))) 1=sub64 (add64 (zg a.effect.delta (zbd c y i)) (zg b.effect.delta (zbd c y i))) 1;rw [hS _ q1.1 q1.2,e]
 ·simp at hr
include hn
theorem pair_chg {r:Row} (hr:rowOK (boxM m).length r=true) (hl:r.terms.length≤500):(chgN n a' (rowM m s r)=chgN n a r∧chgN n b' (rowM m s r)=chgN n b r)∨(chgN n a' (rowM m s r)=chgN n b r∧chgN n b' (rowM m s r)=chgN n a r):=by
 have e1:=chgN_mv h hn hp.ma hp.mA hp.aA hr hl;have e2:=chgN_mv h hn hp.mb hp.mB hp.bB hr hl;rcases hp.or with ⟨rfl,rfl⟩ | ⟨rfl,rfl⟩
 ·exact .inl ⟨e1,e2⟩
 ·exact .inr ⟨e2,e1⟩
theorem tgt_mv {q p:Question} (ht:TgtMv m s q p a A) (ho:q.target.hold=true→a'=A∧b'=B) {Y Y':List Row} {cs cs':List (List Row)} (hT:Tgt n m q a b (boxM m) Y cs) (hT':Tgt n m p a' b' (boxM m) Y' cs') (hY:Y.all (rowOK (boxM m).length)=true) (hcs:cs.all (caseV (boxM m).length)=true) :
  Y'.all (rowOK (boxM m).length)=true∧cs'.length≤1024∧cs'.all (caseV (boxM m).length)=true:=by
 have hbl:=box_len h.small h.valid.lay;have hget:∀ i,i<m.constraints.length→idx m.constraints ((i:Nat):Int)=some (conAt m i):=λi hi=>by rw [za hi,zbA hi]
 have hmem:∀ i,i<m.constraints.length→conAt m i∈m.constraints:=λi hi=>by rw [zbA hi];exact yg hi
 cases hT' with
 | hold r' h1' h2'=>
  have hqh:q.target.hold=true:=by rw [← ht.hold];exact h1'
  obtain ⟨rfl,rfl⟩:=ho hqh;obtain ⟨r,r1,r2⟩:=ht.row hqh;rw [r2] at h2';cases h2';cases hT with
  | hold r0 g1 g2=>
   rw [r1] at g2;cases g2;have hro:=(zdG h.valid hp.ma).2 r (zaf r1);have hlen:=(h.small.act a hp.ma).2.2.2.2 r (zaf r1);have hrm:=(zdG h.valid hp.mA).2 _ (zaf r2);have hchg:=chgN_mv h hn hp.mb hp.mB hp.bB hro (by omega);refine ⟨?_,by simp,by simp⟩;simp only [y7,List.all_nil,ug] at hY ⊢;refine negRow_OK hrm ?_;rw [hchg];simp only [rowOK,yb] at hY;exact hY.2
  | row c g1=>rw [hqh] at g1;cases g1
  | none c k g1=>rw [hqh] at g1;cases g1
  | graph c k g1=>rw [hqh] at g1;cases g1
 | row c' h1' h2' hk'=>
  have hqh:q.target.hold=false:=by rw [← ht.hold];exact h1'
  obtain ⟨i,hi,i1,i2⟩:=ht.con hqh;rw [i2,hget _ (h.sig hi).1] at h2';cases h2';obtain ⟨s1,s2,s3⟩:=h.sig hi;have hk:(conAt m i).kind=0:=by omega
  have hrow:(conAt m (sigI m s i)).row=rowM m s (conAt m i).row:=by
   rcases s3 with ⟨e,-⟩ | ⟨-,e,-⟩
   ·omega
   ·simp only [conB,yb,yd] at e;exact e.1.2
  have hro:=zfL h.valid (hmem i hi) hk;have hrm:=zfL h.valid (hmem _ s1) hk';have hlen:=h.small.con _ (hmem i hi);rw [hrow] at hrm ⊢;have hsum:add64 (chgN n a' (rowM m s (conAt m i).row)) (chgN n b' (rowM m s (conAt m i).row))=add64 (chgN n a (conAt m i).row) (chgN n b (conAt m i).row):=by
   rcases pair_chg h hn hp hro (by omega) with ⟨e1,e2⟩ | ⟨e1,e2⟩
   ·rw [e1,e2]
   ·rw [e1,e2,add64_comm]
  cases hT with
  | hold r0 g1=>rw [hqh] at g1;cases g1
  | row c g1 g2 g3=>
   rw [i1,hget i hi] at g2;cases g2;refine ⟨?_,by simp,by simp⟩;simp only [y7,List.all_nil,ug] at hY ⊢;refine negRow_OK hrm ?_;rw [hsum];simp only [rowOK,yb] at hY;exact hY.2
  | none c k g1 g2 g3=>rw [i1,hget i hi] at g2;cases g2;omega
  | graph c k g1 g2 g3=>rw [i1,hget i hi] at g2;cases g2;omega
 | none c' k' h1' h2' hk' hz' he'=>exact ⟨by simp [rowOK,rowP,zar],by simp,by simp⟩
 | graph c' k' h1' h2' hk' hz' he'=>
  have hqh:q.target.hold=false:=by rw [← ht.hold];exact h1'
  obtain ⟨i,hi,i1,i2⟩:=ht.con hqh;rw [i2,hget _ (h.sig hi).1] at h2';cases h2';obtain ⟨s1,s2,s3⟩:=h.sig hi;have hsi:sigI m s i=i:=by
   rcases s3 with ⟨-,e⟩ | ⟨e,-⟩
   ·exact e
   ·omega
  rw [hsi] at hk' hz' he' ⊢;obtain ⟨size,z1,z2,z3,z4,z5⟩:=(con_ok h.small h.valid (hmem i hi)).sz hk';obtain rfl:size=k':=by omega
  have hmv:=cases_mv h hp (hmem i hi) hk' hz';have hcs2:∀ rows∈zfd (zg a.effect.delta) (zg b.effect.delta) (boxM m) (conAt m i) size,caseV (boxM m).length rows=true:=λrows hrows=>by
   cases hT with
   | hold r0 g1=>rw [hqh] at g1;cases g1
   | row c g1 g2 g3=>rw [i1,hget i hi] at g2;cases g2;omega
   | none c k g1 g2 g3 g4 g5=>
    rw [i1,hget i hi] at g2;cases g2;obtain rfl:k=size:=by omega
    rw [g5] at hrows;simp at hrows
   | graph c k g1 g2 g3 g4 g5=>
    rw [i1,hget i hi] at g2;cases g2;obtain rfl:k=size:=by omega
    exact yi.1 hcs rows hrows
  refine ⟨by simp,?_,yi.2 λrows' hrows'=>?_⟩
  ·have h1:(zfd (zg a'.effect.delta) (zg b'.effect.delta) (boxM m) (conAt m i) size).length≤_:=zdv (B:=1) λx _=>(by unfold zdd;split <;> simp)
   exact ua h1 (by rw [Nat.mul_one];exact cycP_few z3)
  ·obtain ⟨q1,rows,hrows,q2⟩:=hmv rows' hrows';have hv:=hcs2 rows hrows;simp only [caseV,yb,yd,yi] at hv ⊢;refine ⟨q1,λr' hr'=>?_⟩;obtain ⟨⟨z,hz,e⟩,r,hr,eb⟩:=q2 r' hr';have:=hv.2 r hr;simp only [rowOK,yb] at this ⊢;rw [e,eb];refine ⟨?_,this.2⟩;simp only [rowP,zar,yb,yd,bne_iff_ne,ug];omega
end
section
variable {n:Nat} {m:Model} {s:Swap} (h:Sym m s) (hn:4294967296≤n) {a b A B a' b':Action} (hp:Pair m s a b A B a' b') {q p:Question} (ht:TgtMv m s q p a A)
include h hn hp
include ht in
theorem rowsR_mv {rows:List Nat} (hr:∀ i∈rows,i<m.constraints.length) (hok:(rowsR n m q (rows.map λi:Nat=>(i:Int)) a b).all (rowOK (boxM m).length)=true):(rowsR n m p (rows.map λi=>((sigI m s i:Nat):Int)) a' b').all (rowOK (boxM m).length)=true:=by
 unfold rowsR at hok ⊢;rw [List.all_flatMap,yi] at hok ⊢;intro j hj;have hj:=yJ.1 hj;show (rowS n p _ a' b' j (conAt m j)).all _=true;unfold rowS;by_cases hk:(conAt m j).kind=0
 ·rw [if_neg (by simp [hk])];obtain ⟨i1,i2,-⟩:=h.sig hj;obtain ⟨i,hi⟩:∃ i,i=sigI m s j:=⟨_,rfl⟩
  have hij:sigI m s i=j:=by rw [hi,h.sig_sig hj]
  rw [← hi] at i1 i2;have hki:(conAt m i).kind=0:=by omega
  have horig:=hok i (yJ.2 i1);change (rowS n q _ a b i (conAt m i)).all _=true at horig;unfold rowS at horig;rw [if_neg (by simp [hki])] at horig;obtain ⟨-,-,s3⟩:=h.sig i1;rw [hij] at s3;have hrow:(conAt m j).row=rowM m s (conAt m i).row:=by
   rcases s3 with ⟨e,-⟩ | ⟨-,e,-⟩
   ·omega
   ·simp only [conB,yb,yd] at e;exact e.1.2
  have hmi:conAt m i∈m.constraints:=by rw [zbA i1];exact yg i1
  have hmj:conAt m j∈m.constraints:=by rw [zbA hj];exact yg hj
  have hro:=zfL h.valid hmi hki;have hrm:=zfL h.valid hmj hk;have hlen:=h.small.con _ hmi;have hmem:decide ((j:Int)∈rows.map λi=>((sigI m s i:Nat):Int))=decide ((i:Int)∈rows.map λi:Nat=>(i:Int)):=by
   refine decide_eq_decide.2 ?_;simp only [yN];constructor
   ·rintro ⟨k,hk1,hk2⟩;exact ⟨k,hk1,by rw [h.sig_inj (hr k hk1) i1 (by omega)]⟩
   ·rintro ⟨k,hk1,hk2⟩;exact ⟨k,hk1,by rw [show k=i by omega,hij]⟩
  have hrel:=rel_mv h ht i1;rw [hij] at hrel;unfold relB at hrel;have hkS:kS n p (rows.map λi=>((sigI m s i:Nat):Int)) a' b' j (conAt m j)=kS n q (rows.map λi:Nat=>(i:Int)) a b i (conAt m i):=by
   unfold kS;rw [hmem,hrel,hrow];rcases pair_chg h hn hp hro (by omega) with ⟨e1,e2⟩ | ⟨e1,e2⟩
   ·rw [e1,e2]
   ·rw [e1,e2,add64_comm,gmax_swap]
  simp only [y7,List.all_nil,ug,rowOK,yb] at horig hrm ⊢;rw [hkS,hrow];rw [hrow] at hrm;exact ⟨hrm.1,horig.2⟩
 ·rw [if_pos (by simpa using hk)];rfl
theorem graphs_mv (hef:q.e=q.f→p.e=p.f) (hab:q.e=q.f→a=b) (hl:(zbe n m q a b).length≤64) (hall:(zbe n m q a b).all (zbC (boxM m).length)=true):(zbe n m p a' b').length≤64∧(zbe n m p a' b').all (zbC (boxM m).length)=true:=by
 unfold zbe at hl hall ⊢;rw [List.all_flatMap,yi] at hall ⊢;have key:∀ i,i∈List.range m.constraints.length→(gS n (p.e != p.f) a' b' (conAt m i)).length≤(gS n (q.e != q.f) a b (conAt m i)).length∧(gS n (p.e != p.f) a' b' (conAt m i)).all (zbC (boxM m).length)=true:=λi hi=>by
  have hi:=yJ.1 hi;have horig:=hall i (yJ.2 hi);change (gS n (q.e != q.f) a b (conAt m i)).all _=true at horig;have hmi:conAt m i∈m.constraints:=by rw [zbA hi];exact yg hi
  unfold gS at horig ⊢;by_cases hk:(conAt m i).kind=1
  ·simp only [show ((conAt m i).kind != 1)=false by simp [hk],ye,if_false] at horig ⊢;rw [List.all_append,List.all_append] at horig;simp only [yb] at horig;obtain ⟨o1,o2,o3⟩:=horig;have g43:∀ x:Action,(gr n (conAt m i) λq0=>zae n q0 x)=gr n (conAt m i) λq0=>zm n q0 x:=λx=>rfl
   have gd:∀ x:Action,(zi n x (conAt m i)).getD default=(zi n x (conAt m i)).getD []:=λ_=>rfl
   simp only [g43,gd] at o3 ⊢;obtain ⟨R,hR⟩:∃ R:Action→Bool,R=λx=>decide (0<(((zi n x (conAt m i)).getD []).length:Int)):=⟨_,rfl⟩
   have hRx:∀ x,decide (0<(((zi n x (conAt m i)).getD []).length:Int))=R x:=λx=>by rw [hR]
   simp only [hRx] at o2 o3 ⊢;have va:R a=true→zbC (boxM m).length (gr n (conAt m i) λq0=>zm n q0 a)=true:=λe=>by
    rw [if_pos e] at o2;simpa using o2
   have vb:R b=true→zbC (boxM m).length (gr n (conAt m i) λq0=>zm n q0 b)=true:=λe=>by
    cases hq:(q.e != q.f) with
    | true=>rw [hq,e] at o3;simpa using o3
    | false=>rw [← hab (by simpa using hq)] at e ⊢;exact va e
   have rA:R A=true→R a=true:=λe=>by
    rw [hR] at e ⊢;exact decide_eq_true (raised_mv h hn hp.ma hp.mA hp.aA hmi hk (of_decide_eq_true e))
   have rB:R B=true→R b=true:=λe=>by
    rw [hR] at e ⊢;exact decide_eq_true (raised_mv h hn hp.mb hp.mB hp.bB hmi hk (of_decide_eq_true e))
   have vA:R A=true→zbC (boxM m).length (gr n (conAt m i) λq0=>zm n q0 A)=true:=λe=>graphV_mv h hn hp.ma hp.mA hp.aA hmi hk (va (rA e))
   have vB:R B=true→zbC (boxM m).length (gr n (conAt m i) λq0=>zm n q0 B)=true:=λe=>graphV_mv h hn hp.mb hp.mB hp.bB hmi hk (vb (rB e))
   have hefb:(p.e != p.f)=true→(q.e != q.f)=true:=λe=>by
    simp only [bne_iff_ne,ne_eq] at e ⊢;exact λe2=>e (hef e2)
   have habb:(q.e != q.f)=false→R b=R a:=λe=>by rw [hab (by simpa using e)]
   have v':(R a'=true→zbC (boxM m).length (gr n (conAt m i) λq0=>zm n q0 a')=true)∧(R b'=true→zbC (boxM m).length (gr n (conAt m i) λq0=>zm n q0 b')=true):=by
    rcases hp.or with ⟨e1,e2⟩ | ⟨e1,e2⟩
    ·rw [e1,e2];exact ⟨vA,vB⟩
    ·rw [e1,e2];exact ⟨vB,vA⟩
   have r':(R a'=true→R a=true∨(R b=true)):=λe=>by
    rcases hp.or with ⟨e1,-⟩ | ⟨e1,-⟩
    ·rw [e1] at e;exact .inl (rA e)
    ·rw [e1] at e;exact .inr (rB e)
   refine ⟨?_,?_⟩
   ·simp only [yI,yO,ux];have two:R a'=true→R b'=true→R a=true∧R b=true:=λe f=>by
     rcases hp.or with ⟨e1,e2⟩ | ⟨e1,e2⟩
     ·rw [e1] at e;rw [e2] at f;exact ⟨rA e,rB f⟩
     ·rw [e1] at e;rw [e2] at f;exact ⟨rA f,rB e⟩
    have one:R b'=true→R a=true∨R b=true:=λf=>by
     rcases hp.or with ⟨-,e2⟩ | ⟨-,e2⟩
     ·rw [e2] at f;exact .inr (rB f)
     ·rw [e2] at f;exact .inl (rA f)
    cases hef':(p.e != p.f) with
    | true=>
     rw [hefb hef'];cases ea:R a' <;> cases eb:R b' <;> cases fa:R a <;> cases fb:R b <;> simp_all
    | false=>
     cases hq:(q.e != q.f) with
     | true=>cases ea:R a' <;> cases fa:R a <;> cases fb:R b <;> simp_all
     | false=>
      have:=habb hq;cases ea:R a' <;> cases fa:R a <;> cases fb:R b <;> simp_all
   ·rw [List.all_append,List.all_append];simp only [yb];refine ⟨o1,?_,?_⟩
    ·cases ea:R a' with
     | true=>simpa using v'.1 ea
     | false=>simp
    ·cases eb:R b' with
     | true=>
      cases (p.e != p.f) with
      | true=>simpa using v'.2 eb
      | false=>simp
     | false=>simp
  ·rw [if_pos (by simpa using hk),if_pos (by simpa using hk)];exact ⟨yn _,rfl⟩
 exact ⟨ua (flat_le λi hi=>(key i hi).1) hl,λi hi=>(key i hi).2⟩
end
end Go.Proofs.YtcagdmegicijlaaGreatDoor
