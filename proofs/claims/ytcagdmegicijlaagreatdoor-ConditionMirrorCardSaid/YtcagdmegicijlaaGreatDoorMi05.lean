/- Part of the proof of one law of the seat. -/
import Derived.Test.YtcagdmegicijlaaGreatDoorMi04
set_option linter.unusedVariables false
set_option linter.unusedSectionVars false
set_option linter.unusedSimpArgs false
set_option maxHeartbeats 4000000
namespace Go.Proofs.YtcagdmegicijlaaGreatDoor
open Go Go.RowKit
abbrev yj:=@_root_.Option.isSome_some
abbrev yq:=@_root_.List.getD_eq_getElem?_getD
abbrev yr:=@_root_.Bool.or_true
abbrev yC:=@_root_.Bool.not_eq_true
abbrev yX:=@_root_.Bool.false_and
abbrev y0:=@_root_.Nat.mul_le_mul
abbrev ue:=@_root_.List.mem_flatMap
abbrev uf:=@_root_.Bool.or_eq_false_iff
abbrev uy:=@_root_.Nat.pow_le_pow_right
abbrev uB:=@_root_.Bool.not_false
abbrev uH:=@_root_.Bool.true_or
abbrev uM:=@_root_.Nat.pow_succ
abbrev uN:=@_root_.Bool.and_self
abbrev uQ:=@_root_.List.any_cons
abbrev uR:=@_root_.Nat.one_le_pow
abbrev uS:=@_root_.Bool.or_false
def ixP {α:Type} (p:α→Bool):List α→Nat→Int
 | [],_=>-1
 | x::l,i=>if p x=true then (i:Int) else ixP p l (i+1)
theorem ixP_iff {α:Type} (p):∀ (l:List α) (i:Nat),0≤ixP p l i↔l.any p=true
 | [],_=>by simp [ixP]
 | x::l,i=>by
  have ih:=ixP_iff p l (i+1);rw [ixP,uQ];by_cases h:p x=true
  ·rw [if_pos h,h];simp
  ·rw [if_neg h,ih];simp only [yC] at h;rw [h,uk]
theorem zgY {α:Type} (p:α→Bool) (l:List α) (i:Nat):decide (0≤ixP p l i)=l.any p:=by
 have:=ixP_iff p l i;cases h:l.any p with
 | true=>exact decide_eq_true (this.2 h)
 | false=>exact decide_eq_false λhc=>by rw [this.1 hc] at h;cases h
theorem IndexFunc_Lint_eq {n l f p} (hf:∀ x∈l,f x=some (p x)) (hl:l.length<4611686018427387904) (hn:l.length<n):zW n l f=some (ixP p l 0):=by
 have:=zE (body:=zW.l1 n l f) (len:=l.length) (st:=λi=>(i:Int)) (g:=λi=>some (ixP p (l.drop i) i)) (λrec i hi hr=>?_) (λrec=>?_) n 0 (yp _) (by omega)
 ·simpa [zW] using this
 ·simp only [zW.l1,zk hi,if_true,za hi,ya,hf _ (yg hi),zb (i:=i) (by omega),hr];rw [zh hi];simp only [ixP];split <;> rfl
 ·simp [zW.l1,ixP]
theorem zce {n:Nat} {l:List Int} {f:Int→Option Bool} {p:Int→Bool} (hf:∀ x∈l,f x=some (p x)) (hl:l.length<4611686018427387904) (hn:l.length<n):zw n l f=some (l.any p):=by
 unfold zw;rw [IndexFunc_Lint_eq hf hl hn,ya,zgY]
def zbJ (x:Int):Bool:=decide (1≤x)&&decide (x≤6)
def colOK (sizes:List Int) (c:Int):Bool:=decide (0≤c)&&decide (c<(sizes.length:Int))
theorem any_not {α:Type} (p:α→Bool) (l:List α):(!l.any λx=>!p x)=l.all p:=by
 induction l with
 | nil=>rfl
 | cons x l ih=>simp only [uQ,y7,← ih];cases p x <;> simp
theorem cells_sized_eq {n:Nat} {l:List Int} (hl:l.length<4611686018427387904) (hn:l.length<n):zge n l=some (l.all zbJ):=by
 unfold zge;rw [zce (p:=λx=>!zbJ x) (λx _=>by simp [zgf,zel,zbJ]) hl hn,ya,any_not]
theorem cells_columned_eq {n:Nat} {sizes cols:List Int} (hl:cols.length<4611686018427387904) (hn:cols.length<n):zee n sizes cols=some (decide (cols.length≤3)&&cols.all (colOK sizes)):=by
 unfold zee;rw [zce (p:=λx=>!colOK sizes x) (λx _=>by
  simp only [zcB,colOK,yk,Bool.not_and];congr 1
  ·rw [← decide_not];exact decide_eq_decide.2 (by omega)
  ·rw [← decide_not];exact decide_eq_decide.2 (by omega)) hl hn]
 simp only [yj,yr,grd,if_true,yf,any_not,yk];congr 1;exact decide_eq_decide.2 (by omega)
theorem ref09_sound_eq {n l} (hl:l.length<4611686018427387904) (hn:l.length<n):zbj n l=some (l.all zbJ):=by
 have:=zE (body:=zbj.l1 n l) (len:=l.length) (st:=λi=>(i:Int)) (g:=λi=>some ((l.drop i).all zbJ)) (λrec i hi hr=>?_) (λrec=>?_) n 0 (yp _) (by omega)
 ·simpa [zbj] using this
 ·simp only [zbj.l1,zk hi,if_true,za hi,ya,yj,yr,grd,yf,zb (i:=i) (by omega),hr];rw [zh hi];simp only [y7,zbJ];by_cases h:1≤l[i]∧l[i]≤6
  ·rw [if_neg (by simp;omega)];simp [h.1,h.2]
  ·rw [if_pos (by simp;omega)];have:(decide (1≤l[i])&&decide (l[i]≤6))=false:=by
    simp only [uj,yF];omega
   rw [this,yX]
 ·simp [zbj.l1]
def zaa (sizes:List Int):List Int→Int→Int
 | [],s=>s
 | c::l,s=>zaa sizes l (mul64 s (sizes.getD c.toNat 0))
theorem zdZ (sizes):∀ (l m:List Int) (s:Int),zaa sizes (l++m) s=zaa sizes m (zaa sizes l s)
 | [],_,_=>rfl
 | _::l,m,s=>by simp only [ud,zaa];exact zdZ sizes l m _
theorem zd7 {sizes c} (h:colOK sizes c=true):idx sizes c=some (sizes.getD c.toNat 0):=by
 simp only [colOK,yb,yd] at h;obtain ⟨n,rfl⟩:=yR h.1;have:n<sizes.length:=by omega
 rw [za this];simp [List.getD,this]
theorem zfx {n sizes cols} (hc:cols.all (colOK sizes)=true) (hl:cols.length<4611686018427387904) (hn:cols.length<n):zbh n sizes cols=some (zaa sizes cols 1):=by
 have:=zE (body:=zbh.l1 n sizes cols) (len:=cols.length) (st:=λi=>(zaa sizes (cols.take i) 1,(i:Int))) (g:=λ_=>some (zaa sizes cols 1)) (λrec i hi hr=>?_) (λrec=>?_) n 0 (yp _) (by omega)
 ·simpa [zbh,zaa] using this
 ·rw [yv hi,zdZ] at hr;simp only [zaa] at hr;simp only [zbh.l1,zk hi,if_true,za hi,ya,zd7 (yi.1 hc _ (yg hi)),zb (i:=i) (by omega),hr]
 ·simp [zbh.l1]
theorem number_loop {n sizes cols} (hl:cols.length<4611686018427387904) (hn:cols.length<n):loopF (zai.l1 n sizes cols) n (1,0)=some (if cols.all (colOK sizes)=true then zaa sizes cols 1 else 0):=by
 by_cases hc:cols.all (colOK sizes)=true
 ·rw [if_pos hc];have:=zE (body:=zai.l1 n sizes cols) (len:=cols.length) (st:=λi=>(zaa sizes (cols.take i) 1,(i:Int))) (g:=λ_=>some (zaa sizes cols 1)) (λrec i hi hr=>?_) (λrec=>?_) n 0 (yp _) (by omega)
  ·simpa [zaa] using this
  ·rw [yv hi,zdZ] at hr;simp only [zaa] at hr;have hcol:=yi.1 hc _ (yg hi);have h2:=zd7 hcol;simp only [colOK,yb,yd] at hcol;have hif:((decide (cols[i]<0))||(decide ((sizes.length:Int)≤cols[i])))=false:=by
    simp only [uf,yF];omega
   simp only [zai.l1,zk hi,if_true,za hi,ya,yj,yr,grd,yf,hif,ye,if_false,h2,zb (i:=i) (by omega),hr]
  ·simp [zai.l1]
 ·rw [if_neg hc];have:=zE (body:=zai.l1 n sizes cols) (len:=cols.length) (st:=λi=>(zaa sizes (cols.take i) 1,(i:Int))) (g:=λi=>some (if (cols.drop i).all (colOK sizes)=true then zaa sizes cols 1 else 0)) (λrec i hi hr=>?_) (λrec=>?_) n 0 (yp _) (by omega)
  ·simpa [zaa,hc] using this
  ·rw [yv hi,zdZ] at hr;simp only [zaa] at hr;rw [zh hi,y7];by_cases hcol:colOK sizes cols[i]=true
   ·have h2:=zd7 hcol;rw [hcol,yE];simp only [colOK,yb,yd] at hcol;have hif:((decide (cols[i]<0))||(decide ((sizes.length:Int)≤cols[i])))=false:=by
     simp only [uf,yF];omega
    simp only [zai.l1,zk hi,if_true,za hi,ya,yj,yr,grd,yf,hif,ye,if_false,h2,zb (i:=i) (by omega),hr]
   ·have hif:((decide (cols[i]<0))||(decide ((sizes.length:Int)≤cols[i])))=true:=by
     simp only [colOK,yb,yd] at hcol;simp only [yw,yd];omega
    simp only [yC] at hcol;rw [hcol,yX,if_neg (by simp)];simp only [zai.l1,zk hi,if_true,za hi,ya,yj,yr,grd,yf,hif]
  ·simp [zai.l1]
theorem ze0 {n sizes cols} (hl:cols.length<4611686018427387904) (hn:cols.length<n) (hs:sizes.length<4611686018427387904) (hsn:sizes.length<n) :
  zai n sizes cols=some (if (decide (cols.length≤3)&&sizes.all zbJ&&cols.all (colOK sizes))=true then zaa sizes cols 1 else 0):=by
 unfold zai;rw [ref09_sound_eq hs hsn,number_loop hl hn];simp only [yj,yr,grd,if_true,yf];by_cases h3:cols.length≤3
 ·cases h4:sizes.all zbJ with
  | true=>rw [if_neg (by simp;omega)];simp [h3]
  | false=>rw [if_pos (by simp)];simp
 ·rw [if_pos (by simp;left;omega)];simp [h3]
theorem zew {S R:Type} {body:(S→Option R)→S→Option R} (μ:S→Nat) (I:S→Prop) (Q:S→Option R→Prop)
  (hb:∀ rec s,I s→(∀ s',I s'→μ s'<μ s→Q s' (rec s'))→Q s (body rec s)):∀ n s,I s→μ s<n→Q s (loopF body n s)
 | 0,_,_,h=>by omega
 | n+1,s,hI,h=>hb _ s hI λs' hI' hlt=>zew μ I Q hb n s' hI' (by omega)
theorem zbo {σ S R:Type} {body:(S→Option R)→S→Option R} {len:Nat} {st:σ→Nat→S} {g:Nat→σ→Option R} (I:Nat→σ→Prop)
  (hb:∀ rec i s,i<len→I i s→(∀ s',I (i+1) s'→rec (st s' (i+1))=g (i+1) s')→body rec (st s i)=g i s) (he:∀ rec s,I len s→body rec (st s len)=g len s) :
  ∀ n i s,i≤len→len - i<n→I i s→loopF body n (st s i)=g i s
 | 0,_,_,_,h,_=>by omega
 | n+1,i,s,hi,h,hI=>by
  simp only [loopF];by_cases e:i=len
  ·subst e;exact he _ _ hI
  ·exact hb _ i s (by omega) hI λs' hI'=>zbo I hb he n (i+1) s' (by omega) (by omega) hI'
theorem zg3 {S R:Type} {body:(S→Option R)→S→Option R} {n:Nat} (h:0<n) (s:S):loopF body n s=body (loopF body (n - 1)) s:=by
 obtain ⟨m,rfl⟩:∃ m,n=m+1:=⟨n - 1,by omega⟩
 rfl
theorem zcL {a b:Nat} (h:a+b<9223372036854775808):add64 (a:Int) (b:Int)=((a+b:Nat):Int):=by
 unfold add64;rw [zbK (by omega) (by omega)];omega
theorem zdr {l:List UInt8} {i} (h:i<l.length):sidx l (i:Int)=some ((l[i].toNat:Nat):Int):=by
 unfold sidx;rw [if_pos (by omega)];simp [h]
theorem zgV {α:Type} {l:List α} {a b:Nat} (h1:a≤b) (h2:b≤l.length):cut l (a:Int) (b:Int)=some ((l.drop a).take (b - a)):=by
 unfold cut;rw [if_pos (by omega)];simp
theorem cut_end {α:Type} {l:List α} {a:Nat} (h1:a≤l.length):cut l (a:Int) (l.length:Int)=some (l.drop a):=by
 rw [zgV h1 (yn _),List.take_of_length_le (by simp)]
theorem cut_all {α:Type} {l:List α}:cut l 0 (l.length:Int)=some l:=by
 have:=cut_end (l:=l) (a:=0) (by omega);simpa using this
theorem zcK {i k:Nat} (h:i<k):decide ((i:Int)<(k:Int))=true:=by simp;omega
theorem zck {i k:Nat} (h:k≤i):decide ((i:Int)<(k:Int))=false:=by simp;omega
def runP (p:Int→Bool):List UInt8→Nat
 | []=>0
 | b::l=>if p (b.toNat:Nat)=true then runP p l+1 else 0
theorem runP_le (p):∀ l,runP p l≤l.length
 | []=>yn _
 | b::l=>by
  simp only [runP,yO];split
  ·exact Nat.succ_le_succ (runP_le p l)
  ·omega
theorem zgZ {n} {l:List UInt8} {f p} (hf:∀ q,f q=some (p q)) (hl:l.length<4611686018427387904) (hn:l.length<n):zcR n l f=some ((runP p l:Nat):Int):=by
 have:=zE (body:=zcR.l1 n l f) (len:=l.length) (st:=λi=>(i:Int)) (g:=λi=>some ((i+runP p (l.drop i):Nat):Int)) (λrec i hi hr=>?_) (λrec=>?_) n 0 (yp _) (by omega)
 ·simpa [zcR] using this
 ·simp only [zcR.l1,zk hi,zdr hi,yj,y6,uk,grd,if_true,yf,hf,yE,zb (i:=i) (by omega),hr];rw [zh hi];simp only [runP];split <;> simp <;> omega
 ·simp [zcR.l1,runP,grd]
def zb0 (q:Int):Bool:=decide (97≤q)&&decide (q≤122)
def digitP (q:Int):Bool:=decide (48≤q)&&decide (q≤57)
def partP (q:Int):Bool:=(zb0 q||digitP q)||(q==95)
theorem lexer_letter_eq {n q}:zcQ n q=some (zb0 q):=rfl
theorem lexer_digit_eq {n q}:zbq n q=some (digitP q):=rfl
theorem zgs {n q}:zaO n q=some (zb0 q):=rfl
theorem zfm {n q}:za5 n q=some (digitP q):=rfl
def zdH (q:Int):Bool:=!(q==9||q==10||q==13||q==32||q==35)
theorem zen {q} (h:zb0 q=true):zdH q=true:=by
 simp only [zb0,yb,yd] at h;simp only [zdH,yz,uf,um];omega
theorem lexer_skip_tt {n:Nat} {l:List UInt8} (hl:l.length<1000000) (hn:1000000≤n) :
  ∃ k:Nat,zc4 n l=some (k:Int)∧k≤l.length∧(∀ h:0<l.length,zdH (l[0].toNat:Nat)=true→k=0)∧(∀ h:0<l.length,zdH (l[0].toNat:Nat)=false→0<k):=by
 have:=zew (body:=zc4.l1 n l) (λs:Int=>l.length - s.toNat) (λs=>∃ i:Nat,s=i∧i≤l.length) (λs o=>∃ k:Nat,o=some (k:Int)∧k≤l.length∧s.toNat≤k∧∀ h:s.toNat<l.length,(zdH (l[s.toNat].toNat:Nat)=true→k=s.toNat)∧(zdH (l[s.toNat].toNat:Nat)=false→s.toNat<k))
  (λrec s hI hr=>by
   obtain ⟨i,rfl,hi⟩:=hI;by_cases hlt:i<l.length
   ·simp only [zc4.l1,zk hlt,if_true,zdr hlt,ya,zcc,yt];by_cases hw:((((((l[i].toNat:Nat):Int)==32)||(((l[i].toNat:Nat):Int)==9))||(((l[i].toNat:Nat):Int)==10))||(((l[i].toNat:Nat):Int)==13))=true
    ·rw [if_pos hw,zb (i:=i) (by omega)];obtain ⟨k,e,k1,k2,-⟩:=hr ((i+1:Nat):Int) ⟨i+1,rfl,by omega⟩ (by simp only [yt];omega);simp only [yt] at k2;refine ⟨k,e,k1,by omega,λh=>⟨λhb=>?_,λhb=>by omega⟩⟩;exfalso;simp only [yw,beq_iff_eq] at hw;simp only [zdH,yz,uf,um] at hb;omega
    ·rw [if_neg hw];by_cases hh:((l[i].toNat:Nat):Int)=35
     ·rw [if_pos (by simp [hh]),cut_end hi,ya,zgZ (f:=λq=>zg1 n q) (p:=λq=>q != 10) (λq=>rfl) (by rw [ub];omega) (by rw [ub];omega),ya];have hrun:1≤runP (λq=>q != 10) (l.drop i):=by
       rw [zh hlt,runP,hh];simp
      have hle:=runP_le (λq=>q != 10) (l.drop i);simp only [ub] at hle;rw [zcL (by omega)];obtain ⟨k,e,k1,k2,-⟩:=hr ((i+runP (λq=>q != 10) (l.drop i):Nat):Int) ⟨_,rfl,by omega⟩ (by simp only [yt];omega);simp only [yt] at k2;refine ⟨k,e,k1,by omega,λh=>⟨λhb=>?_,λhb=>by omega⟩⟩;rw [hh] at hb;exact absurd hb (by decide)
     ·rw [if_neg (by simpa using hh)];refine ⟨i,rfl,hi,yn _,λh=>⟨λ_=>rfl,λhb=>?_⟩⟩;exfalso;simp only [yw,beq_iff_eq,not_or] at hw;simp only [zdH,Bool.not_eq_false',yw,beq_iff_eq] at hb;omega
   ·have:i=l.length:=by omega
    subst this;refine ⟨l.length,by simp [zc4.l1],yn _,by simp,λh=>by simp at h⟩) n 0 ⟨0,rfl,by omega⟩ (by simp;omega)
 obtain ⟨k,e,k1,-,k2⟩:=this;exact ⟨k,by simpa [zc4] using e,k1,λh hb=>(k2 h).1 hb,λh hb=>(k2 h).2 hb⟩
theorem zg2 {n:Nat} {l:List UInt8} (hn:1000000≤n):∃ k:Int,zbm n l=some k:=by
 have:=zew (body:=zbm.l1 n l) (λs:Int=>5 - s.toNat) (λs=>∃ i:Nat,s=i∧i≤5) (λ_ o=>∃ k:Int,o=some k) (λrec s hI hr=>by
  obtain ⟨i,rfl,hi⟩:=hI;simp only [zbm.l1];generalize hL:([[61,61],[33,61],[60,61],[62,61],[46,46]]:List (List UInt8))=L;have hLl:L.length=5:=by rw [← hL];rfl
  by_cases hlt:i<L.length
  ·have hp:∃ b,zda n l L[i]=some b:=by
    simp only [zda,zbw];by_cases h:L[i].length≤l.length
    ·have:cut l 0 (L[i].length:Int)=some ((l.drop 0).take (L[i].length - 0)):=zgV (a:=0) (by omega) (by omega)
     simp [this,grd]
    ·simp [h,grd]
   obtain ⟨b,hp⟩:=hp;have hd:decide ((i:Int)<(([[61,61],[33,61],[60,61],[62,61],[46,46]]:List (List Nat)).length:Int))=true:=by simp;omega
   simp only [hd,if_true,za hlt,ya,hp,zb (i:=i) (by omega)];split
   ·exact ⟨_,rfl⟩
   ·exact hr _ ⟨i+1,rfl,by omega⟩ (by simp only [yt];omega)
  ·have hd:decide ((i:Int)<(([[61,61],[33,61],[60,61],[62,61],[46,46]]:List (List Nat)).length:Int))=false:=by simp;omega
   rw [hd,if_neg (by simp)];cases l with
   | nil=>simp [grd]
   | cons b l=>
    have h0:sidx (b::l) 0=some ((b.toNat:Nat):Int):=zdr (l:=b::l) (i:=0) (by simp)
    simp only [h0,zco,zbx,ya,yj,yr,grd,if_true,yf];split <;> exact ⟨_,rfl⟩) n 0 ⟨0,rfl,by omega⟩ (by simp;omega)
 simpa [zbm] using this
theorem lexer_begins_tt {n} {l:List UInt8} (hn:1000000≤n) (h:0<l.length):∃ b,zdC n l=some b:=by
 obtain ⟨k,hk⟩:=zg2 (n:=n) (l:=l) hn;have h0:sidx l 0=some ((l[0].toNat:Nat):Int):=zdr (i:=0) h;simp [zdC,h0,zcQ,zbq,hk,grd]
theorem lexer_wrong_tt {n:Nat} {l:List UInt8} {k:(Int×Int)→Option Token} (hl:l.length<1000000) (hn:1000000≤n) (h1:0<l.length):∃ e,loopF (zaI.l2 n l k) n 1=k (5,e):=by
 refine zew (body:=zaI.l2 n l k) (λs:Int=>l.length - s.toNat) (λs=>∃ i:Nat,s=i∧i≤l.length) (λ_ o=>∃ e,o=k (5,e)) (λrec s hI hr=>?_) n 1 ⟨1,rfl,h1⟩ (by simp;omega);obtain ⟨i,rfl,hi⟩:=hI;by_cases hlt:i<l.length
 ·obtain ⟨b,hb⟩:=lexer_begins_tt (n:=n) (l:=l.drop i) hn (by simp;omega);simp only [zaI.l2,zk hlt,zdr hlt,zcc,cut_end hi,hb,yj,yr,grd,if_true,yf,zb (i:=i) (by omega)];split
  ·exact hr _ ⟨i+1,rfl,by omega⟩ (by simp only [yt];omega)
  ·exact ⟨_,rfl⟩
 ·have:i=l.length:=by omega
  subst this;exact ⟨(l.length:Int),by simp [zaI.l2,grd]⟩
def wordP (w:List UInt8):Bool:=(match w with | []=>false | b::_=>zb0 (b.toNat:Nat))&&decide (runP partP w=w.length)
theorem wordP_cons (w:List UInt8) (h:0<w.length):wordP w=(zb0 (w[0].toNat:Nat)&&decide (runP partP w=w.length)):=by
 cases w with
 | nil=>simp at h
 | cons b l=>rfl
theorem lexer_first {n:Nat} {w:List UInt8} {kw:GMap (List UInt8) Bool} (hl:w.length<1000000) (hn:1000000≤n) (h0:0<w.length) :
  ∃ t,zaI n w kw=some t∧(t.at_=0∧t.end_=(w.length:Int)∧t.kind=1↔wordP w=true∧(kw.get? w).getD false=false):=by
 obtain ⟨k,e,k1,k2,k3⟩:=lexer_skip_tt (n:=n) (l:=w) hl hn;unfold zaI;rw [zg3 (by omega)];have hz:add64 0 (k:Int)=(k:Int):=by have:=zcL (a:=0) (b:=k) (by omega);simpa using this
 simp only [zaI.l1,cut_all,ya,e,hz,cut_end k1,jn];by_cases hk:k=w.length
 ·subst hk;rw [if_pos (by simp)];refine ⟨_,rfl,?_⟩;simp only [];constructor
  ·rintro ⟨-,-,h⟩;simp at h
  ·rintro ⟨h,-⟩;exfalso;rw [wordP_cons w h0,yb] at h;have:=k2 h0 (zen h.1);omega
 ·have hd:0<(w.drop k).length:=by simp;omega
  rw [if_neg (by simp;omega)];have hs:sidx (w.drop k) 0=some (((w.drop k)[0].toNat:Nat):Int):=zdr (i:=0) hd;simp only [hs,ya,lexer_letter_eq];rw [wordP_cons w h0];by_cases hlet:zb0 (((w.drop k)[0].toNat:Nat):Int)=true
  ·rw [if_pos hlet,zgZ (p:=partP) (λq=>by simp [lexer_part,zcQ,zbq,grd,partP,zb0,digitP]) (by simp;omega) (by simp;omega)];have hle:=runP_le partP (w.drop k);have hc:=zgV (l:=w.drop k) (a:=0) (b:=runP partP (w.drop k)) (by omega) hle;simp only [ya,Int.natCast_zero] at hc ⊢;rw [hc];simp only [ub] at hle;have ha:add64 (k:Int) (runP partP (w.drop k):Nat)=((k+runP partP (w.drop k):Nat):Int):=zcL (by omega)
   simp only [ya,ha,List.drop_zero,Nat.sub_zero];by_cases hk0:k=0
   ·subst hk0;simp only [List.drop_zero] at hlet ⊢;by_cases hrun:runP partP w=w.length
    ·rw [hrun,List.take_of_length_le (yn _)];by_cases hkw:(kw.get? w).getD false=true
     ·rw [if_pos hkw];refine ⟨_,rfl,?_⟩;simp [hkw]
     ·rw [if_neg hkw];refine ⟨_,rfl,?_⟩;simp only [yC] at hkw;simp [hkw,hlet]
    ·split
     all_goals
      refine ⟨_,rfl,?_⟩;simp [hrun]
      try omega
   ·have hbl:zdH (w[0].toNat:Nat)=false:=by
     cases hb:zdH (w[0].toNat:Nat) with
     | false=>rfl
     | true=>exact absurd (k2 h0 hb) hk0
    have hnl:zb0 (w[0].toNat:Nat)=false:=by
     cases hb:zb0 (w[0].toNat:Nat) with
     | false=>rfl
     | true=>rw [zen hb] at hbl;cases hbl
    split
    all_goals
     refine ⟨_,rfl,?_⟩;simp [hnl,hk0]
  ·rw [if_neg hlet];have hno:k=0→zb0 (w[0].toNat:Nat)=false:=by
    intro hk0;subst hk0;simp only [List.drop_zero,yC] at hlet;exact hlet
   have hno':zb0 (w[0].toNat:Nat)=false:=by
    by_cases hk0:k=0
    ·exact hno hk0
    ·cases hb:zb0 (w[0].toNat:Nat) with
     | false=>rfl
     | true=>exact absurd (k2 h0 (zen hb)) hk0
   simp only [lexer_digit_eq,ya,hno',yX,ye,false_and,iff_false];split
   ·rw [zgZ (p:=digitP) (λq=>rfl) (by simp;omega) (by simp;omega)];exact ⟨_,rfl,by simp⟩
   ·obtain ⟨v,hv⟩:=zg2 (n:=n) (l:=w.drop k) hn;simp only [hv,ya];split
    ·exact ⟨_,rfl,by simp⟩
    ·obtain ⟨e,he⟩:=lexer_wrong_tt (n:=n) (l:=w.drop k) (k:=λv=>some (⟨v.1,0,(k:Int),add64 (k:Int) v.2⟩:Token)) (by simp;omega) hn hd;rw [he];exact ⟨_,rfl,by simp⟩
def kwL:List (List UInt8):=[[115,111,114,116],[114,101,108,97,116,105,111,110],[99,111,117,110,116,101,114],[115,101,116],[114,101,103,105,115,116,101,114],[105,110,118,97,114,105,97,110,116],[111,112,101,114,97,116,105,111,110],[107,101,121],[114,101,102,101,114,101,110,99,101],[116,111],[99,111,117,110,116],[97,99,121,99,108,105,99],[97,108,108],[115,117,109],[105,110],[97,100,100,119,105,110,115],[114,101,109,111,118,101,119,105,110,115],[108,97,115,116],[109,117,108,116,105],[104,105,100,101],[111,114,100,101,114,101,100],[114,101,113,117,105,114,101],[104,111,108,100],[105,110,115,101,114,116],[100,101,108,101,116,101],[97,100,100],[102,114,111,109],[112,117,116],[100,114,111,112],[97,115,115,105,103,110],[102,111,114],[119,104,101,114,101],[97,110,100],[111,114],[110,111,116]]
structure Fuel (n:Nat):Prop where
 big:4294967296≤n
 kw:∃ m,zbP n=some m∧SetIs m kwL
def nameP (w:List UInt8):Bool:=decide (w.length≤16)&&(wordP w&&!decide (w∈kwL))
theorem lexer_Name_eq {n} {w:List UInt8} (hF:Fuel n):zfV n w=some (nameP w):=by
 have hn:=hF.big;unfold zfV nameP;by_cases h16:w.length≤16
 ·have hd:decide ((w.length:Int)≤16)=true:=by simp;omega
  simp only [hd,h16,decide_true,yE,y6,uk];unfold zeK;obtain ⟨m,hm,hs⟩:=hF.kw;cases hw:w with
  | nil=>simp [grd,wordP]
  | cons b l=>
   rw [← hw];have h0:0<w.length:=by rw [hw];simp
   rw [if_neg (by simp;exact ⟨by rw [hw];simp,by omega⟩),hm,ya];obtain ⟨t,ht,hiff⟩:=lexer_first (n:=n) (w:=w) (kw:=m) (by omega) (by omega) h0;rw [hs.get] at hiff;simp only [ht,ya];by_cases hc:t.at_=0∧t.end_=(w.length:Int)∧t.kind=1
   ·have:=hiff.1 hc;rw [if_neg (by simp [hc.1,hc.2.1])];simp only [yF] at this;simp [grd,hc.2.2,this.1,this.2]
   ·have hr:(wordP w&&!decide (w∈kwL))=false:=by
     cases hx:(wordP w&&!decide (w∈kwL)) with
     | false=>rfl
     | true=>
      simp only [yb,yz,yF] at hx;exact absurd (hiff.2 ⟨hx.1,by simp [hx.2]⟩) hc
    rw [hr];split
    ·simp [grd]
    ·rename_i hne;simp only [yw,bne_iff_ne,ne_eq,not_or,Decidable.not_not] at hne;have:t.kind≠1:=λe=>hc ⟨hne.1,hne.2,e⟩
     simp [grd,this]
 ·have hd:decide ((w.length:Int)≤16)=false:=by simp;omega
  simp [hd,h16,grd]
theorem ref_comment {n} {t:List UInt8} {rec x} (hx:x≤t.length) (hl:t.length<1000000) (hn:1000000≤n) :
  ∃ y:Nat,x≤y∧y≤t.length∧loopF (zbl.l2 n t rec) n x=rec (y:Int)∧∀ h:x<t.length,(t[x].toNat:Nat)=35→x<y:=by
 have:=zew (body:=zbl.l2 n t rec) (λs:Int=>t.length - s.toNat) (λs=>∃ i:Nat,s=i∧i≤t.length) (λs o=>∃ y:Nat,s.toNat≤y∧y≤t.length∧o=rec (y:Int)∧∀ h:s.toNat<t.length,(t[s.toNat].toNat:Nat)=35→s.toNat<y) (λr s hI hr=>by
  obtain ⟨i,rfl,hi⟩:=hI;by_cases hlt:i<t.length
  ·simp only [zbl.l2,zk hlt,zdr hlt,yj,yr,grd,if_true,yf,yE,zb (i:=i) (by omega),yt];by_cases h10:((((t[i].toNat:Nat):Int) != 10))=true
   ·rw [if_pos h10];obtain ⟨y,y1,y2,y3,-⟩:=hr ((i+1:Nat):Int) ⟨_,rfl,by omega⟩ (by simp only [yt];omega);simp only [yt] at y1;exact ⟨y,by omega,y2,y3,λ_ _=>by omega⟩
   ·rw [if_neg h10];refine ⟨i,yn _,hi,rfl,λ_ h=>?_⟩;rw [h] at h10;exact absurd h10 (by decide)
  ·have:i=t.length:=by omega
   subst this;exact ⟨t.length,by simp,yn _,by simp [zbl.l2,grd],λh=>by simp at h⟩) n x ⟨x,rfl,hx⟩ (by simp;omega)
 simpa using this
theorem ref_skip_ok {n} {t:List UInt8} {a} (ha:a≤t.length) (hl:t.length<1000000) (hn:1000000≤n) :
  ∃ k:Nat,zbl n t a=some (k:Int)∧a≤k∧k≤t.length∧(∀ h:k<t.length,zdH (t[k].toNat:Nat)=true)∧(∀ h:a<t.length,zdH (t[a].toNat:Nat)=true→k=a):=by
 have:=zew (body:=zbl.l1 n t) (λs:Int=>t.length - s.toNat) (λs=>∃ i:Nat,s=i∧i≤t.length)
  (λs o=>∃ k:Nat,o=some (k:Int)∧s.toNat≤k∧k≤t.length∧(∀ h:k<t.length,zdH (t[k].toNat:Nat)=true)∧(∀ h:s.toNat<t.length,zdH (t[s.toNat].toNat:Nat)=true→k=s.toNat)) (λr s hI hr=>by
  obtain ⟨i,rfl,hi⟩:=hI;by_cases hlt:i<t.length
  ·simp only [zbl.l1,zk hlt,zdr hlt,zaY,yj,yr,grd,if_true,yf,yE,ya,zb (i:=i) (by omega),yt];by_cases hb:zdH (t[i].toNat:Nat)=true
   ·rw [if_neg (by
     simp only [zdH,yz,uf,um] at hb;simp only [yw,beq_iff_eq];omega)]
    exact ⟨i,rfl,yn _,hi,λ_=>hb,λ_ _=>rfl⟩
   ·rw [if_pos (by
     simp only [zdH,yz,uf,um] at hb;simp only [yw,beq_iff_eq];omega)]
    by_cases hh:(t[i].toNat:Nat)=35
    ·rw [if_pos (by simp [hh])];obtain ⟨y,y1,y2,y3,y4⟩:=ref_comment (n:=n) (rec:=r) hi hl hn;have y5:=y4 hlt hh;rw [y3];obtain ⟨k,e,k1,k2,k3,-⟩:=hr (y:Int) ⟨y,rfl,y2⟩ (by simp only [yt];omega);simp only [yt] at k1;exact ⟨k,e,by omega,k2,k3,λ_ h=>absurd h hb⟩
    ·rw [if_neg (by simp;omega)];obtain ⟨k,e,k1,k2,k3,-⟩:=hr ((i+1:Nat):Int) ⟨_,rfl,by omega⟩ (by simp only [yt];omega);simp only [yt] at k1;exact ⟨k,e,by omega,k2,k3,λ_ h=>absurd h hb⟩
  ·have:i=t.length:=by omega
   subst this;exact ⟨t.length,by simp [zbl.l1,grd],by simp,yn _,λh=>absurd h (by omega),λh=>by simp at h⟩) n a ⟨a,rfl,ha⟩ (by simp;omega)
 simpa [zbl] using this
theorem ref_symbol_ok {n} {t:List UInt8} {a} (ha:a≤t.length) (hl:t.length<1000000) (hn:1000000≤n):∃ v:Nat,zbn n t a=some (v:Int)∧a+v≤t.length:=by
 unfold zbn;simp only [zgr,ya];generalize hL:([[61,61],[33,61],[60,61],[62,61],[46,46],[60],[62],[61],[43],[45],[42],[40],[41],[123],[125],[44],[58],[59]]:List (List UInt8))=L;have hLl:L.length=18:=by rw [← hL];rfl
 have hL2:∀ x∈L,x.length≤2:=by rw [← hL];decide
 refine zew (body:=zbn.l1 n t a L) (λs:Int=>18 - s.toNat) (λs=>∃ i:Nat,s=i∧i≤18) (λs o=>∃ v:Nat,o=some (v:Int)∧a+v≤t.length) (λr s hI hr=>?_) n 0 ⟨0,rfl,by omega⟩ (by simp;omega);obtain ⟨i,rfl,hi⟩:=hI;by_cases hlt:i<L.length
 ·have h2:=hL2 _ (yg hlt);simp only [zbn.l1,zk hlt,if_true,za hlt,ya,yj,yf,yr,zb (i:=i) (by omega),zcL (show a+L[i].length<9223372036854775808 by omega)];by_cases hle:a+L[i].length≤t.length
  ·simp only [zgV (l:=t) (a:=a) (b:=a+L[i].length) (by omega) hle,yj,yr,grd,if_true];split
   ·exact ⟨_,rfl,hle⟩
   ·exact hr _ ⟨i+1,rfl,by omega⟩ (by simp only [yt];omega)
  ·have hd:decide (((a+L[i].length:Nat):Int)≤(t.length:Int))=false:=by simp;omega
   simp only [hd,uB,uH,grd,if_true,yX,ye,if_false];exact hr _ ⟨i+1,rfl,by omega⟩ (by simp only [yt];omega)
 ·have:i=L.length:=by omega
  subst this;exact ⟨0,by simp [zbn.l1],by omega⟩
theorem ref_Has_eq {n} {L:List (List UInt8)} {w:List UInt8} (hl:L.length<1000000) (hn:1000000≤n):zcD n L w=some (decide (w∈L)):=by
 have:=zE (body:=zcD.l1 n L w) (len:=L.length) (st:=λi=>(i:Int)) (g:=λi=>some (decide (w∈L.drop i))) (λrec i hi hr=>?_) (λrec=>?_) n 0 (yp _) (by omega)
 ·simpa [zcD] using this
 ·simp only [zcD.l1,zk hi,if_true,za hi,ya,zb (i:=i) (by omega),hr];rw [zh hi];by_cases h:L[i]=w
  ·rw [if_pos (by simpa using h)];simp only [yM,h,true_or,decide_true]
  ·have h':¬ w=L[i]:=λe=>h e.symm
   rw [if_neg (by simpa using h)];simp only [yM,h',false_or]
 ·simp [zcD.l1]
theorem ref_keywords_eq {n}:zfA n=some kwL:=rfl
theorem ref_token_ok {n} {t:List UInt8} {a} (ha:a<t.length) (hb:zdH (t[a].toNat:Nat)=true) (hl:t.length<1000000) (hn:1000000≤n) :
  ∃ (k:Int) (e:Nat),zaC n t a=some (k,(e:Int))∧a<e∧e≤t.length∧(zb0 (t[a].toNat:Nat)=true→e=a+runP partP (t.drop a))∧(k=1↔zb0 (t[a].toNat:Nat)=true∧(t.drop a).take (e - a)∉kwL):=by
 unfold zaC;simp only [zdr ha,ya,zgs,zfm];by_cases hlet:zb0 ((t[a].toNat:Nat):Int)=true
 ·rw [if_pos hlet];have hlp:zb0 (t[a].toNat:Nat)=true:=hlet;have hrun1:1≤runP partP (t.drop a):=by
   rw [zh ha,runP,if_pos (by simp [partP,hlp])];omega
  have hle:=runP_le partP (t.drop a);simp only [ub] at hle;have:=zbo (body:=zaC.l1 n t a) (len:=t.length) (st:=λ(_:Unit) i=>(i:Int)) (g:=λi _=>some (if decide ((t.drop a).take (i+runP partP (t.drop i) - a)∈kwL)=true then (2,((i+runP partP (t.drop i):Nat):Int)) else (1,((i+runP partP (t.drop i):Nat):Int)))) (λi _=>a≤i) (λrec i _ hi hai hr=>?_) (λrec _ hai=>?_) n a () (by omega) (by omega) (yn _)
  ·rw [this];refine ⟨if decide ((t.drop a).take (a+runP partP (t.drop a) - a)∈kwL)=true then 2 else 1,a+runP partP (t.drop a),?_,by omega,by omega,λ_=>rfl,?_⟩
   ·split <;> rfl
   ·rw [hlp];by_cases hk:(t.drop a).take (a+runP partP (t.drop a) - a)∈kwL
    ·simp [hk]
    ·simp [hk]
  ·have hr:=hr () (by omega);have hle':=runP_le partP (t.drop i);simp only [ub] at hle';simp only [zaC.l1,zk hi,zdr hi,zgs,zfm,yj,yr,grd,if_true,yf,yE,zb (i:=i) (by omega),hr];rw [zh hi,runP];have hpe:(zb0 ((t[i].toNat:Nat):Int)||digitP ((t[i].toNat:Nat):Int)||((t[i].toNat:Nat):Int)==95)=partP ((t[i].toNat:Nat):Int):=rfl;rw [hpe];by_cases hp:partP (t[i].toNat:Nat)=true
   ·rw [if_pos hp,if_pos hp,show i+(runP partP (t.drop (i+1))+1)=i+1+runP partP (t.drop (i+1)) by omega]
   ·rw [if_neg hp,if_neg hp];simp only [ut,ref_keywords_eq,ya,zgV hai (Nat.le_of_lt hi)];rw [ref_Has_eq (by decide) hn,ya];cases decide ((t.drop a).take (i - a)∈kwL) <;> rfl
  ·simp only [zaC.l1,zad,uB,uH,grd,if_true,yX,ye,if_false,ref_keywords_eq,ya,zgV hai (yn _)];rw [ref_Has_eq (by decide) hn,ya];simp only [List.drop_length,runP,ut];cases decide ((t.drop a).take (t.length - a)∈kwL) <;> rfl
 ·rw [if_neg hlet];have hlp:zb0 (t[a].toNat:Nat)=false:=by simpa using hlet
  simp only [hlp,ye,false_implies,false_and,iff_false,true_and];by_cases hdig:digitP ((t[a].toNat:Nat):Int)=true
  ·rw [if_pos hdig];have:=zew (body:=zaC.l2 n t) (λs:Int=>t.length - s.toNat) (λs=>∃ i:Nat,s=i∧i≤t.length) (λs o=>∃ e:Nat,o=some (3,(e:Int))∧s.toNat≤e∧e≤t.length∧∀ h:s.toNat<t.length,digitP (t[s.toNat].toNat:Nat)=true→s.toNat<e) (λr s hI hr=>by
    obtain ⟨i,rfl,hi⟩:=hI;by_cases hlt:i<t.length
    ·simp only [zaC.l2,zk hlt,zdr hlt,zfm,yj,yr,grd,if_true,yf,yE,zb (i:=i) (by omega),yt];split
     ·obtain ⟨e,e1,e2,e3,-⟩:=hr ((i+1:Nat):Int) ⟨_,rfl,by omega⟩ (by simp only [yt];omega);simp only [yt] at e2;exact ⟨e,e1,by omega,e3,λ_ _=>by omega⟩
     ·rename_i hno;exact ⟨i,rfl,yn _,hi,λ_ h=>absurd h hno⟩
    ·have:i=t.length:=by omega
     subst this;exact ⟨t.length,by simp [zaC.l2,grd],by simp,yn _,λh=>by simp at h⟩) n a ⟨a,rfl,Nat.le_of_lt ha⟩ (by simp;omega)
   obtain ⟨e,e1,-,e3,e4⟩:=this;exact ⟨3,e,e1,e4 ha hdig,e3,by decide⟩
  ·rw [if_neg hdig];obtain ⟨v,hv,hv2⟩:=ref_symbol_ok (n:=n) (t:=t) (a:=a) (Nat.le_of_lt ha) hl hn;rw [hv,ya];by_cases hv0:0<v
   ·rw [if_pos (by simpa using hv0),zcL (by omega)];exact ⟨4,a+v,rfl,by omega,hv2,by decide⟩
   ·have hv0:v=0:=by omega
    subst hv0;rw [if_neg (by simp)];have:=zew (body:=zaC.l3 n t) (λs:Int=>t.length - s.toNat) (λs=>∃ i:Nat,s=i∧i≤t.length) (λs o=>∃ e:Nat,o=some (5,(e:Int))∧s.toNat≤e∧e≤t.length∧(s=a→a<e)) (λr s hI hr=>by
     obtain ⟨i,rfl,hi⟩:=hI;by_cases hlt:i<t.length
     ·obtain ⟨u,hu,-⟩:=ref_symbol_ok (n:=n) (t:=t) (a:=i) hi hl hn;simp only [zaC.l3,zk hlt,zdr hlt,zaY,zgs,zfm,hu,yj,yr,grd,if_true,yf,yE,zb (i:=i) (by omega),yt];split
      ·obtain ⟨e,e1,e2,e3,-⟩:=hr ((i+1:Nat):Int) ⟨_,rfl,by omega⟩ (by simp only [yt];omega);simp only [yt] at e2;exact ⟨e,e1,by omega,e3,λh=>by omega⟩
      ·rename_i hno;refine ⟨i,rfl,yn _,hi,λh=>?_⟩;have hia:i=a:=by omega
       subst hia;exfalso;apply hno;rw [hv] at hu;simp only [yk,Int.natCast_inj] at hu;subst hu;simp only [zdH,yz,uf,um] at hb;simp only [yb,bne_iff_ne,ne_eq,yz,uf,um];simp only [yC] at hlet hdig;exact ⟨⟨⟨⟨by omega,by omega⟩,hlet⟩,hdig⟩,by simp⟩
     ·have:i=t.length:=by omega
      subst this;exact ⟨t.length,by simp [zaC.l3,grd],by simp,yn _,λh=>by omega⟩) n a ⟨a,rfl,Nat.le_of_lt ha⟩ (by simp;omega)
    obtain ⟨e,e1,-,e3,e4⟩:=this;exact ⟨5,e,e1,e4 rfl,e3,by decide⟩
theorem zr {α:Type} {b:Nat} {xs ys:List α} (h:(xs.length+ys.length)*b≤140737488355328):Go.Proofs.YtcagdmegicijlaaGreatDoor.app b xs ys=some (xs++ys):=by
 unfold Go.Proofs.YtcagdmegicijlaaGreatDoor.app;rw [if_pos h]
theorem ref_Scan_ok {n:Nat} {t:List UInt8} (hl:t.length<1000000) (hn:1000000≤n):∀ (m:Nat) (b:List Token) (a:Nat),a≤t.length→b.length≤a→t.length - a<m→∃ r,r≠[]∧loopF (zc6.l1 n t) m (b,(a:Int))=some (b++r,0)
 | 0,_,_,_,_,h=>by omega
 | m+1,b,a,ha,hb,h=>by
  obtain ⟨k,e,k1,k2,k3,-⟩:=ref_skip_ok (n:=n) ha hl hn;simp only [loopF,zc6.l1,e,ya];by_cases hlt:k<t.length
  ·obtain ⟨q,z,hz,z1,z2,-,-⟩:=ref_token_ok (n:=n) hlt (k3 hlt) hl hn;simp only [zk hlt,if_true,hz,ya];rw [zr (by simp;omega),ya];obtain ⟨r,-,hr⟩:=ref_Scan_ok hl hn m (b++[(⟨q,(a:Int),(k:Int),(z:Int)⟩:Token)]) z z2 (by simp;omega) (by omega);rw [hr];exact ⟨_::r,by simp,by rw [yL];rfl⟩
  ·rw [zck (by omega),if_neg (by simp),zr (by simp;omega),ya];exact ⟨_,by simp,rfl⟩
theorem ref_Kind_ok {n:Nat} {w:List UInt8} (hl:w.length≤4096) (hn:1000000≤n):∃ k,ref02_Kind n w=some k∧(k=1↔wordP w=true∧w∉kwL):=by
 unfold ref02_Kind zc6;rw [if_neg (by simp;omega),zg3 (by omega)];obtain ⟨k,e,-,k2,k3,k4⟩:=ref_skip_ok (n:=n) (t:=w) (a:=0) (by omega) (by omega) hn;simp only [Int.natCast_zero] at e;simp only [zc6.l1,e,ya];by_cases hlt:k<w.length
 ·obtain ⟨q,z,hz,z1,z2,z3,z4⟩:=ref_token_ok (n:=n) hlt (k3 hlt) (by omega) hn;simp only [zk hlt,if_true,hz,ya,yZ];rw [zr (by simp),ya];obtain ⟨r,r0,hr⟩:=ref_Scan_ok (n:=n) (t:=w) (by omega) hn (n - 1) [(⟨q,0,(k:Int),(z:Int)⟩:Token)] z z2 (by simp;omega) (by omega);simp only [yZ];rw [hr];have h0:idx ([(⟨q,0,(k:Int),(z:Int)⟩:Token)]++r) 0=some ⟨q,0,(k:Int),(z:Int)⟩:=by simp [idx]
  simp only [ya,h0,yj,yr,grd,if_true,yf];rw [wordP_cons w (by omega)];have hw0:k=0→z=w.length→(zb0 (w[k].toNat:Nat)=true∧(w.drop k).take (z - k)∉kwL↔(zb0 (w[0].toNat:Nat)&&decide (runP partP w=w.length))=true∧w∉kwL):=by
   intro e1 e2;subst e1;rw [e2];simp only [List.drop_zero,Nat.sub_zero,List.take_length,yb,yd];constructor
   ·rintro ⟨h1,h2⟩;have:=z3 h1;simp only [List.drop_zero] at this;exact ⟨⟨h1,by omega⟩,h2⟩
   ·rintro ⟨⟨h1,-⟩,h2⟩;exact ⟨h1,h2⟩
  by_cases hc:((((((0:Int) != 0)||((([(⟨q,0,(k:Int),(z:Int)⟩:Token)]++r).length:Int) != 2))||((k:Int) != 0))||((z:Int) != (w.length:Int))))=true
  ·rw [if_pos hc];refine ⟨0,rfl,?_⟩;constructor
   ·intro h;exact absurd h (by decide)
   ·rintro ⟨h1,h2⟩;exfalso;simp only [yb,yd] at h1;have hk0:k=0:=k4 (by omega) (zen h1.1);subst hk0;have hzw:=z3 h1.1;simp only [List.drop_zero] at hzw;have hzl:z=w.length:=by omega
    subst hzl;rw [zg3 (by omega)] at hr;obtain ⟨k',e',p1,p2,-,-⟩:=ref_skip_ok (n:=n) (t:=w) (a:=w.length) (yn _) (by omega) hn;have:k'=w.length:=by omega
    subst this;simp only [zc6.l1,e',ya,zad,ye,if_false] at hr;rw [zr (by simp),ya] at hr;simp only [yk,yx,and_true,List.append_cancel_left_eq] at hr;subst hr;simp at hc
  ·rw [if_neg hc];refine ⟨q,rfl,?_⟩;simp only [yw,bne_iff_ne,ne_eq,not_or,Decidable.not_not] at hc;rw [z4];exact hw0 (by omega) (by omega)
 ·rw [zck (by omega),if_neg (by simp),zr (by simp),ya];simp only [yZ,ya];refine ⟨0,by simp [grd,idx],?_⟩;constructor
  ·intro h;exact absurd h (by decide)
  ·rintro ⟨h1,-⟩;exfalso;cases w with
   | nil=>simp [wordP] at h1
   | cons x l=>
    simp only [wordP,yb] at h1;have:=k4 (by simp) (zen h1.1);simp at hlt;omega
theorem ref02_Name_eq {n} {w:List UInt8} (hl:w.length≤4096) (hn:1000000≤n):zf1 n w=some (nameP w):=by
 unfold zf1 nameP;obtain ⟨k,hk,hiff⟩:=ref_Kind_ok (n:=n) hl hn;rw [hk,ya];have h16:decide ((w.length:Int)≤16)=decide (w.length≤16):=decide_eq_decide.2 (by omega);rw [h16,Bool.and_comm];congr 2;rw [Bool.eq_iff_iff];simp only [beq_iff_eq,hiff,yb,yz,yF]
theorem SetIs.getS {m:GMap (List UInt8) Bool} {l:List (List UInt8)} (h:SetIs m l) (k:List UInt8):(m.get? k).getD false=decide (k∈l):=(h.get k).trans (decide_eq_decide.2 Iff.rfl)
def distP:List (List UInt8)→List (List UInt8)→Bool
 | _,[]=>true
 | seen,s::l=>nameP s&&!decide (s∈seen)&&distP (seen++[s]) l
theorem zfX {n} {l:List (List UInt8)} (hF:Fuel n) (hl:l.length<1000000):zav n l=some (distP [] l):=by
 have hn:=hF.big;have:=zbo (body:=zav.l1 n l) (len:=l.length) (st:=λm i=>(m,(i:Int))) (g:=λi _=>some (distP (l.take i) (l.drop i))) (λi m=>SetIs m (l.take i)) (λrec i m hi hm hr=>?_) (λrec m _=>?_) n 0 (GMap.empty) (yp _) (by omega) (by simpa using SetIs.empty)
 ·simpa [zav] using this
 ·simp only [zav.l1,zk hi,if_true,za hi,ya,lexer_Name_eq hF,hm.getS,zb (i:=i) (by omega)];rw [hr _ (by rw [yv hi];exact hm.put _),zh hi,distP,yv hi];cases nameP l[i] <;> cases hd:decide (l[i]∈l.take i) <;> simp
 ·simp [zav.l1,distP]
theorem zf2 {n} {l:List (List UInt8)} (hn:1000000≤n) (hl:l.length<1000000) (hw:∀ w∈l,w.length≤4096):zaw n l=some (distP [] l):=by
 have:=zE (body:=zaw.l1 n l) (len:=l.length) (st:=λi=>(i:Int)) (g:=λi=>some (distP (l.take i) (l.drop i))) (λrec i hi hr=>?_) (λrec=>?_) n 0 (yp _) (by omega)
 ·simpa [zaw] using this
 ·have hc:=zgV (l:=l) (a:=0) (b:=i) (by omega) (Nat.le_of_lt hi)
  simp only [Int.natCast_zero,List.drop_zero,Nat.sub_zero] at hc;simp only [zaw.l1,zk hi,if_true,za hi,ya,ref02_Name_eq (hw _ (yg hi)) hn,hc,yj,yf,yr,grd,ref_Has_eq (show (l.take i).length<1000000 by simp;omega) hn,zb (i:=i) (by omega),hr];rw [zh hi,distP,yv hi];cases nameP l[i] <;> cases hd:decide (l[i]∈l.take i) <;> simp
 ·simp [zaw.l1,distP]
theorem IndexB_eq {n l v} (hl:l.length<1000000) (hn:1000000≤n):zac n l v=some (ixP (λx=>v==x) l 0):=by
 have:=zE (body:=zac.l1 n l v) (len:=l.length) (st:=λi=>(i:Int)) (g:=λi=>some (ixP (λx=>v==x) (l.drop i) i)) (λrec i hi hr=>?_) (λrec=>?_) n 0 (yp _) (by omega)
 ·simpa [zac] using this
 ·simp only [zac.l1,zk hi,if_true,za hi,ya,zb (i:=i) (by omega),hr];rw [zh hi];simp only [ixP];split <;> rfl
 ·simp [zac.l1,ixP]
theorem cells_all_eq {n l} (hl:l.length<1000000) (hn:1000000≤n):zgP n l=some (l.all id):=by
 unfold zgP zb1;rw [IndexB_eq hl hn];simp only [ya,zgY,yk];rw [← any_not];congr 2;funext x;cases x <;> rfl
def b6:Nat→Int→Int
 | 0,A=>A
 | k+1,A=>b6 k (A*6)
theorem b6_le:∀ (k:Nat) (A:Int),1≤A→A≤b6 k A
 | 0,_,_=>Int.le_refl _
 | k+1,A,h=>Int.le_trans (by omega) (b6_le k (A*6) (by omega))
theorem mul_small {a b A:Int} (h1:1≤a) (h2:a≤A) (h3:1≤b) (h4:b≤6):1≤a*b∧a*b≤A*6:=by
 have e1:1*1≤a*b:=Int.mul_le_mul h1 h3 (by omega) (by omega);have e2:a*b≤A*6:=Int.mul_le_mul h2 h4 (by omega) (by omega);omega
theorem widthP_b6 (sizes:List Int) (hs:sizes.all zbJ=true):∀ (cols:List Int) (s A:Int),cols.all (colOK sizes)=true→1≤s→s≤A→b6 cols.length A≤1000000→1≤zaa sizes cols s∧zaa sizes cols s≤b6 cols.length A
 | [],s,A,_,h1,h2,_=>by simpa [zaa,b6] using ⟨h1,h2⟩
 | c::l,s,A,hc,h1,h2,h3=>by
  simp only [y7,yb] at hc;have hcol:=hc.1;simp only [colOK,yb,yd] at hcol;obtain ⟨k,rfl⟩:=yR hcol.1;have hk:k<sizes.length:=by omega
  have hz:=yi.1 hs _ (yg hk);simp only [zbJ,yb,yd] at hz;have hg:sizes.getD (k:Int).toNat 0=sizes[k]:=by simp [List.getD,hk]
  have hm:=mul_small h1 h2 hz.1 hz.2;simp only [yO,b6] at h3 ⊢;have hb:=b6_le l.length (A*6) (by omega);simp only [zaa,hg];unfold mul64;rw [zbK (by omega) (by omega)];exact widthP_b6 sizes hs l _ _ hc.2 hm.1 hm.2 h3
theorem zft {sizes cols} (hs:sizes.all zbJ=true) (hc:cols.all (colOK sizes)=true) (h3:cols.length≤3):1≤zaa sizes cols 1∧zaa sizes cols 1≤216:=by
 have h:b6 cols.length 1≤216:=by
  match cols,h3 with
  | [],_=>decide
  | [_],_=>simp [b6]
  | [_,_],_=>simp [b6]
  | [_,_,_],_=>simp [b6]
  | _::_::_::_::_,h=>simp at h
 have:=widthP_b6 sizes hs cols 1 1 hc (by decide) (by decide) (by omega);omega
def zaG (k:Int):Bool:=k==0||k==1
def rangedP (t:Table):Bool:=if (t.kind==1||t.kind==4||t.kind==5)=true then (decide (t.range.lo≤t.range.hi)&&decide (-9999≤t.range.lo))&&decide (t.range.hi≤9999) else decide (t.range=(⟨0,1⟩:Range))
def tabP (sizes:List Int) (t:Table):Bool:=nameP t.name&&(decide (0≤t.kind)&&decide (t.kind≤5))&&(decide (t.columns.length≤3)&&t.columns.all (colOK sizes))&&rangedP t
def layP (sizes:List Int):List (List UInt8)→Int→Int→List Table→Bool
 | _,a,b,[]=>decide (a≤128)&&decide (b≤64)
 | seen,a,b,t::l=>(tabP sizes t&&!decide (t.name∈seen))&&(if zaG t.kind=true then t.first==a&&layP sizes (seen++[t.name]) (add64 a (zaa sizes t.columns 1)) b l else t.first==b&&layP sizes (seen++[t.name]) a (add64 b (zaa sizes t.columns 1)) l)
def zaV (sizes:List Int) (tables:List Table):Bool:=decide (sizes.length≤4)&&decide (tables.length≤12)&&sizes.all zbJ&&layP sizes [] 0 0 tables
theorem cells_ranged_eq {n t}:zfe n t=some (rangedP t):=by
 unfold zfe rangedP jn;by_cases h1:t.kind=1
 ·simp [h1]
 ·by_cases h4:t.kind=4
  ·simp [h4]
  ·by_cases h5:t.kind=5
   ·simp [h5]
   ·simp [h1,h4,h5]
theorem zfv {n sizes tables} (hF:Fuel n) (hs:sizes.length≤1000) (ht:tables.length≤1000) (hc:∀ t∈tables,t.columns.length≤1000):zbS n sizes tables=some (zaV sizes tables):=by
 have hn:=hF.big;unfold zbS zaV;rw [cells_sized_eq (by omega) (by omega),ya,cells_all_eq (by simp) (by omega),ya];simp only [y7,List.all_nil,id,ug];have e1:decide ((sizes.length:Int)≤4)=decide (sizes.length≤4):=decide_eq_decide.2 (by omega);have e2:decide ((tables.length:Int)≤12)=decide (tables.length≤12):=decide_eq_decide.2 (by omega);rw [e1,e2,← Bool.and_assoc];by_cases h:(decide (sizes.length≤4)&&decide (tables.length≤12)&&sizes.all zbJ)=true
 ·rw [h,if_neg (by simp),yE];have:=zbo (body:=zbS.l1 n sizes tables) (len:=tables.length) (st:=λ(s:GMap (List UInt8) Bool×Int×Int) i=>(s.1,s.2.1,s.2.2,(i:Int))) (g:=λi s=>some (layP sizes ((tables.take i).map (·.name)) s.2.1 s.2.2 (tables.drop i))) (λi s=>SetIs s.1 ((tables.take i).map (·.name))) (λrec i s hi hm hr=>?_) (λrec s _=>?_) n 0 (GMap.empty,0,0) (yp _) (by omega) (by simpa using SetIs.empty)
  ·simpa using this
  ·obtain ⟨m,a,b⟩:=s;simp only [] at hm;have hmem:=yg hi;have hcols:=hc _ hmem;simp only [zbS.l1,jn,zk hi,if_true,za hi,ya,lexer_Name_eq hF,hm.getS,zel,cells_columned_eq (show tables[i].columns.length<4611686018427387904 by omega) (show tables[i].columns.length<n by omega),cells_ranged_eq,zca,zb (i:=i) (by omega)];rw [cells_all_eq (by simp) (by omega),ya];simp only [y7,List.all_nil,id,ug];have hput:=hm.put tables[i].name;have htk:((tables.take (i+1)).map (·.name))=(tables.take i).map (·.name)++[tables[i].name]:=by rw [yv hi,ul];rfl
   rw [← htk] at hput;have hT:(nameP tables[i].name&&(!decide (tables[i].name∈(tables.take i).map (·.name))&&(decide (0≤tables[i].kind)&&decide (tables[i].kind≤5)&&(decide (tables[i].columns.length≤3)&&tables[i].columns.all (colOK sizes)&&rangedP tables[i]))))=(tabP sizes tables[i]&&!decide (tables[i].name∈(tables.take i).map (·.name))):=by
    unfold tabP;cases nameP tables[i].name <;> cases decide (tables[i].name∈(tables.take i).map (·.name)) <;> simp [Bool.and_assoc]
   rw [hT,zh hi,layP];by_cases hv:(tabP sizes tables[i]&&!decide (tables[i].name∈(tables.take i).map (·.name)))=true
   ·rw [hv,if_neg (by simp),yE];have hcol:tables[i].columns.all (colOK sizes)=true:=by
     simp only [tabP,yb] at hv;exact hv.1.1.2.2
    simp only [zfx hcol (show tables[i].columns.length<4611686018427387904 by omega) (show tables[i].columns.length<n by omega),ya,← htk];unfold zaG;by_cases hk:(tables[i].kind==0||tables[i].kind==1)=true
    ·rw [if_pos hk,if_pos hk];by_cases hf:tables[i].first=a
     ·rw [if_neg (by simp [hf]),hr (m.put tables[i].name true,add64 a (zaa sizes tables[i].columns 1),b) hput];simp [hf]
     ·rw [if_pos (by simp [hf])];simp [hf]
    ·rw [if_neg hk,if_neg hk];by_cases hf:tables[i].first=b
     ·rw [if_neg (by simp [hf]),hr (m.put tables[i].name true,a,add64 b (zaa sizes tables[i].columns 1)) hput];simp [hf]
     ·rw [if_pos (by simp [hf])];simp [hf]
   ·simp only [yC] at hv;rw [hv,if_pos (by simp),yX]
  ·simp [zbS.l1,layP]
 ·simp only [yC] at h;rw [h,if_pos (by simp),yX]
theorem zfB {n sizes tables} (hn:1000000≤n) (hs:sizes.length≤1000) (ht:tables.length≤1000) (hc:∀ t∈tables,t.columns.length≤1000∧t.name.length≤4096):zaK n sizes tables=some (zaV sizes tables):=by
 unfold zaK zaV;have e1:decide (4<(sizes.length:Int)) = !decide (sizes.length≤4):=by rw [← decide_not];exact decide_eq_decide.2 (by omega)
 have e2:decide (12<(tables.length:Int)) = !decide (tables.length≤12):=by rw [← decide_not];exact decide_eq_decide.2 (by omega)
 rw [ref09_sound_eq (by omega) (by omega),e1,e2];simp only [yj,yr,grd,if_true,yf];by_cases h:(decide (sizes.length≤4)&&decide (tables.length≤12)&&sizes.all zbJ)=true
 ·rw [h,yE];simp only [yb] at h;obtain ⟨⟨h1,h2⟩,h3⟩:=h;rw [h1,h2,h3,if_neg (by simp)];have:=zbo (body:=zaK.l1 n sizes tables) (len:=tables.length) (st:=λ(s:Int×Int) i=>(s.1,s.2,(i:Int))) (g:=λi s=>some (layP sizes ((tables.take i).map (·.name)) s.1 s.2 (tables.drop i))) (λ_ _=>True) (λrec i s hi _ hr=>?_) (λrec s _=>?_) n 0 (0,0) (yp _) (by omega) trivial
  ·simpa using this
  ·obtain ⟨a,b⟩:=s;have hmem:=yg hi;obtain ⟨hcols,hname⟩:=hc _ hmem;simp only [zaK.l1,jn,zk hi,if_true,za hi,ya];generalize hK:(λ(v:Int×Int)=>rec (v.1,v.2,add64 (i:Int) 1))=K;have inner:=zE (body:=zaK.l2 n sizes tables a b i K tables[i]) (len:=i) (st:=λk=>(k:Int)) (g:=λk=>if decide (tables[i].name∈((tables.take i).drop k).map (·.name))=true then some false else zaK.l2 n sizes tables a b i K tables[i] (λ_=>none) (i:Int)) (λrec' k hk hr'=>?_) (λrec'=>?_) n 0 (yp _) (by omega)
   ·rw [show ((0:Nat):Int)=0 from rfl] at inner;rw [inner,zh hi,layP,List.drop_zero];have htk:((tables.take (i+1)).map (·.name))=(tables.take i).map (·.name)++[tables[i].name]:=by rw [yv hi,ul];rfl
    cases hseen:decide (tables[i].name∈(tables.take i).map (·.name)) with
    | true=>simp
    | false=>
     simp only [ye,if_false,uB,ug];have hnum:=ze0 (n:=n) (sizes:=sizes) (cols:=tables[i].columns) (by omega) (by omega) (by omega) (by omega);rw [h3,ug] at hnum;simp only [zaK.l2,zck (yn i),ye,if_false,hnum,ya,ref02_Name_eq hname hn,zb6];unfold tabP;by_cases hcol:(decide (tables[i].columns.length≤3)&&tables[i].columns.all (colOK sizes))=true
     ·simp only [hcol,if_true,ug];have hcol':=hcol;simp only [yb,yd] at hcol';have hw:=zft h3 hcol'.2 hcol'.1;have hw0:(zaa sizes tables[i].columns 1==0)=false:=by simp;omega
      rw [hw0,uS];by_cases hnk:(nameP tables[i].name&&(decide (0≤tables[i].kind)&&decide (tables[i].kind≤5)))=true
      ·rw [hnk,yE];simp only [yb,yd] at hnk;rw [if_neg (by simp [hnk.1];omega)];by_cases hrg:rangedP tables[i]=true
       ·rw [hrg,yE];unfold rangedP at hrg;rw [if_neg (by
         split at hrg
         ·simp only [yb,yd] at hrg;simp only [yw,yd];omega
         ·simp only [yd] at hrg;rw [hrg];decide),if_neg (by
         split at hrg
         ·rename_i hk;simp only [yw,beq_iff_eq] at hk;simp only [yb,yw,beq_iff_eq];omega
         ·simp only [yd] at hrg;rw [hrg];simp)]
        unfold zaG;by_cases hk:(tables[i].kind==0||tables[i].kind==1)=true
        ·rw [if_pos hk,if_pos hk];by_cases hf:tables[i].first=a
         ·rw [if_neg (by simp [hf]),← hK];simp only [zb (i:=i) (by omega)];have:=hr (add64 a (zaa sizes tables[i].columns 1),b) trivial;simp only [] at this;rw [this,htk];simp [hf]
         ·rw [if_pos (by simp [hf])];simp [hf]
        ·rw [if_neg hk,if_neg hk];by_cases hf:tables[i].first=b
         ·rw [if_neg (by simp [hf]),← hK];simp only [zb (i:=i) (by omega)];have:=hr (a,add64 b (zaa sizes tables[i].columns 1)) trivial;simp only [] at this;rw [this,htk];simp [hf]
         ·rw [if_pos (by simp [hf])];simp [hf]
       ·simp only [yC] at hrg;rw [hrg,yX];unfold rangedP at hrg;split at hrg
        ·rename_i hk;rw [if_pos (by
          simp only [uj,yF] at hrg;simp only [yw,yd];omega)]
        ·rename_i hk;simp only [yw,beq_iff_eq,not_or] at hk;have hr01:¬ (tables[i].range.lo=0∧tables[i].range.hi=1):=by
          rintro ⟨q1,q2⟩;simp only [yF] at hrg;apply hrg;cases hrr:tables[i].range;rw [hrr] at q1 q2;simp only [] at q1 q2;rw [q1,q2]
         split
         ·rfl
         ·rw [if_pos (by
           simp only [yb,yw,beq_iff_eq,bne_iff_ne,ne_eq];omega)]
      ·simp only [yC] at hnk;rw [hnk,yX,yX];rw [if_pos (by
        simp only [uj,yF] at hnk;simp only [yw,yz,yd];rcases hnk with h | h | h
        ·exact .inl (.inl h)
        ·exact .inl (.inr (by omega))
        ·exact .inr (by omega))]
     ·simp only [yC] at hcol;simp only [hcol,Bool.and_false,yX,ye,if_false];rw [if_pos (by simp)]
   ·have hk':k<tables.length:=by omega
    simp only [zaK.l2,zcK hk,if_true,za hk',ya,zb (i:=k) (by omega),hr'];have hk2:k<(tables.take i).length:=by simp;omega
    rw [zh hk2];simp only [List.getElem_take,yP,yM];by_cases hnm:tables[k].name=tables[i].name
    ·rw [if_pos (by simpa using hnm),if_pos (by simp [hnm])]
    ·rw [if_neg (by simpa using hnm)];have hnm':¬ tables[i].name=tables[k].name:=λe=>hnm e.symm
     simp only [hnm',false_or]
   ·rw [if_neg (by simp)];simp only [zaK.l2,zck (yn i),ye,if_false]
  ·simp [zaK.l1,layP]
 ·simp only [yC] at h;rw [h,yX];rw [if_pos (by
   simp only [uj] at h;simp only [yw,yz];rcases h with (h | h) | h
   ·exact .inl (.inl h)
   ·exact .inr h
   ·exact .inl (.inr h))]
def zA (sizes:List Int) (s:Bool):List Table→List Range
 | []=>[]
 | t::l=>if (zaG t.kind==s)=true then List.replicate (zaa sizes t.columns 1).toNat t.range++zA sizes s l else zA sizes s l
theorem zdP {sizes}:∀ {l:List Table} {seen:List (List UInt8)} {a b:Int},layP sizes seen a b l=true→∀ t∈l,tabP sizes t=true
 | [],_,_,_,_,_,ht=>by simp at ht
 | x::l,seen,a,b,h,t,ht=>by
  simp only [layP,yb] at h;simp only [yM] at ht;rcases ht with rfl | ht
  ·exact h.1.1
  ·have h2:=h.2;split at h2
   ·simp only [yb] at h2;exact zdP h2.2 t ht
   ·simp only [yb] at h2;exact zdP h2.2 t ht
theorem zbi {sizes tables} (h:zaV sizes tables=true):sizes.length≤4∧tables.length≤12∧sizes.all zbJ=true∧∀ t∈tables,nameP t.name=true∧(0≤t.kind∧t.kind≤5)∧t.columns.length≤3∧t.columns.all (colOK sizes)=true∧1≤zaa sizes t.columns 1∧zaa sizes t.columns 1≤216:=by
 simp only [zaV,yb,yd] at h;obtain ⟨⟨⟨h1,h2⟩,h3⟩,h4⟩:=h;refine ⟨h1,h2,h3,λt ht=>?_⟩;have:=zdP h4 t ht;simp only [tabP,yb,yd] at this;obtain ⟨⟨⟨p1,p2⟩,p3⟩,-⟩:=this;exact ⟨p1,p2,p3.1,p3.2,zft h3 p3.2 p3.1⟩
theorem zcv {sizes s}:∀ {l:List Table},(∀ t∈l,1≤zaa sizes t.columns 1∧zaa sizes t.columns 1≤216)→(zA sizes s l).length≤l.length*216
 | [],_=>by simp [zA]
 | t::l,h=>by
  have ih:=zcv (s:=s) (l:=l) λx hx=>h x (by simp [hx])
  have ht:=h t (by simp);simp only [zA,yO];split
  ·simp only [yI,yW];omega
  ·omega
theorem Mul_eq {n}:∀ w:Fin 217,zeF n 1 ((w.1:Nat):Int)=some (0,((w.1:Nat):Int)):=by
 intro w;unfold zeF zeT;revert w;decide +kernel
theorem wk_small:∀ w:Fin 217,wk .u64 ((w.1:Nat):Int)=((w.1:Nat):Int)∧wk .i64 ((w.1:Nat):Int)=((w.1:Nat):Int):=by decide +kernel
theorem Repeat_eq {n x w} (h1:1≤w) (h2:w≤216) (hn:1000000≤n):zJ n [x] w=some (List.replicate w.toNat x):=by
 obtain ⟨W,rfl⟩:=yR (show 0≤w by omega);have hW:W<217:=by omega
 have hwk:=wk_small ⟨W,hW⟩;simp only [] at hwk;have h1k:wk .u64 (([x]:List Range).length:Int)=1:=(wk_small ⟨1,by decide⟩).1;unfold zJ;rw [if_neg (by simp),h1k,hwk.1,Mul_eq ⟨W,hW⟩];simp only [ya];rw [if_neg (by simp;omega),hwk.2];have hm:mkl 16 (W:Int) (⟨0,0⟩:Range)=some (List.replicate W ⟨0,0⟩):=by
  unfold mkl;rw [if_pos (by omega)];simp
 rw [hm,ya];simp only [yW,uI,Nat.sub_zero,yt];rw [show min W 1=1 by omega];refine zew (body:=zJ.l1 n) (λs=>W - s.2.toNat) (λs=>∃ k:Nat,s.2=(k:Int)∧1≤k∧k≤W∧s.1.length=W∧s.1.take k=List.replicate k x) (λ_ o=>o=some (List.replicate W x)) (λrec s hI hr=>?_) n _ ⟨1,rfl,by omega,by omega,?_,?_⟩ (by simp;omega)
 ·obtain ⟨b,kk⟩:=s;obtain ⟨k,rfl,k1,k2,hb,hk⟩:=hI;simp only [] at hb hk;simp only [zJ.l1];by_cases hlt:k<W
  ·have hcE:cut b (k:Int) (W:Int)=some (b.drop k):=by rw [← hb];exact cut_end (by omega)
   have hc:=zgV (l:=b) (a:=0) (b:=k) (by omega) (by omega)
   simp only [Int.natCast_zero] at hc;simp only [hb,zcK hlt,if_true,hcE,hc,ya,yt,List.drop_zero,Nat.sub_zero,hk,yW];rw [zcL (by omega)];refine hr (_,((k+min (W - k) k:Nat):Int)) ⟨k+min (W - k) k,rfl,by omega,by omega,?_,?_⟩ (by simp only [yt];omega)
   ·simp only [];rw [zc3 (by omega) (by omega),hb]
   ·simp only [zdb,hk,List.take_replicate,yW];rw [show min (W - k) k=min (W - k) k from rfl,← yL,List.replicate_append_replicate];rw [List.take_append_of_le_length (by simp)];simp
  ·have:k=W:=by omega
   subst this;have hd:decide ((k:Int)<(b.length:Int))=false:=by rw [hb];exact zck (yn _)
   simp only [hd,ye,if_false];rw [← hk,List.take_of_length_le (by omega)]
 ·rw [zc3 (by omega) (by simp)];simp
 ·simp [zdb,List.take_append];rw [List.take_of_length_le (l:=[x]) (by simp;omega),show min W 1=1 by omega];simp
theorem rangesP_append (sizes s):∀ (l m:List Table),zA sizes s (l++m)=zA sizes s l++zA sizes s m
 | [],_=>rfl
 | t::l,m=>by
  simp only [ud,zA,rangesP_append sizes s l m];split <;> simp
theorem zfl {sizes:List Int} {s:Bool} {l:List Table} {i:Nat} (hi:i<l.length):zA sizes s (l.take (i+1))=if (zaG l[i].kind==s)=true then zA sizes s (l.take i)++List.replicate (zaa sizes l[i].columns 1).toNat l[i].range else zA sizes s (l.take i):=by
 rw [yv hi,rangesP_append];simp only [zA];split <;> simp
theorem zgN {n:Nat} {sizes:List Int} {tables:List Table} {s:Bool} (hF:Fuel n) (hs:sizes.length≤1000) (ht:tables.length≤1000) (hc:∀ t∈tables,t.columns.length≤1000) :
  zbM n sizes tables s=some (if zaV sizes tables=true then zA sizes s tables else []):=by
 have hn:=hF.big;unfold zbM;rw [zfv hF hs ht hc,ya];cases hL:zaV sizes tables with
 | false=>simp
 | true=>
  obtain ⟨l1,l2,l3,l4⟩:=zbi hL;have:=zE (body:=zbM.l1 n sizes tables s) (len:=tables.length) (st:=λi=>(zA sizes s (tables.take i),(i:Int))) (g:=λ_=>some (zA sizes s tables)) (λrec i hi hr=>?_) (λrec=>?_) n 0 (yp _) (by omega)
  ·simpa [zA] using this
  ·obtain ⟨-,-,c1,c2,c3,c4⟩:=l4 _ (yg hi);have hlen:=zcv (sizes:=sizes) (s:=s) (l:=tables.take i) λx hx=>(l4 x (List.mem_of_mem_take hx)).2.2.2.2
   simp only [yQ] at hlen;rw [zfl hi] at hr;simp only [zbM.l1,jn,zk hi,if_true,za hi,ya,zca,zb (i:=i) (by omega)];unfold zaG at hr;by_cases hk:((tables[i].kind==0||tables[i].kind==1)==s)=true
   ·rw [if_pos hk] at hr ⊢;rw [zfx c2 (by omega) (by omega),ya,Repeat_eq c3 c4 (by omega),ya,zr (by simp only [yW];omega),ya,hr]
   ·rw [if_neg hk] at hr ⊢;rw [hr]
  ·simp [zbM.l1]
theorem zeZ {n:Nat} {sizes:List Int} {tables:List Table} {s:Bool} (hn:1000000≤n) (hs:sizes.length≤1000) (ht:tables.length≤1000) (hc:∀ t∈tables,t.columns.length≤1000∧t.name.length≤4096) :
  zaP n sizes tables s=some (if zaV sizes tables=true then zA sizes s tables else []):=by
 unfold zaP;rw [zfB hn hs ht hc,ya];cases hL:zaV sizes tables with
 | false=>simp
 | true=>
  obtain ⟨l1,l2,l3,l4⟩:=zbi hL;have:=zE (body:=zaP.l1 n sizes tables s) (len:=tables.length) (st:=λi=>(zA sizes s (tables.take i),(i:Int))) (g:=λ_=>some (zA sizes s tables)) (λrec i hi hr=>?_) (λrec=>?_) n 0 (yp _) (by omega)
  ·simpa [zA] using this
  ·obtain ⟨-,-,c1,c2,c3,c4⟩:=l4 _ (yg hi);have hlen:=zcv (sizes:=sizes) (s:=s) (l:=tables.take i) λx hx=>(l4 x (List.mem_of_mem_take hx)).2.2.2.2
   simp only [yQ] at hlen;rw [zfl hi] at hr;simp only [zaP.l1,zk hi,if_true];obtain ⟨W,hW⟩:=yR (show 0≤zaa sizes tables[i].columns 1 by omega);have hnum:=ze0 (n:=n) (sizes:=sizes) (cols:=tables[i].columns) (by omega) (by omega) (by omega) (by omega);simp only [l3,c2,c1,decide_true,ug,if_true] at hnum;have inner:=zE (body:=zaP.l2 n sizes tables s i rec) (len:=if (zaG tables[i].kind==s)=true then W else 0) (st:=λk=>(zA sizes s (tables.take i)++List.replicate k tables[i].range,(k:Int))) (g:=λ_=>some (zA sizes s tables)) (λrec' k hk hr'=>?_) (λrec'=>?_) n 0 (yp _) (by split <;> omega)
   ·simpa using inner
   ·split at hk
    ·rename_i hst;simp only [zaG] at hst;simp only [zaP.l2,za hi,ya,zb6,hst,yj,yr,grd,if_true,yf,hnum,yE,hW,zcK hk,zb (i:=k) (by omega)];rw [zr (by simp only [yI,yW,uI];omega),ya,yL,← List.replicate_succ',hr']
    ·omega
   ·by_cases hst:((tables[i].kind==0||tables[i].kind==1)==s)=true
    ·have hst':(zaG tables[i].kind==s)=true:=hst;rw [if_pos hst'] at hr ⊢;simp only [zaP.l2,za hi,ya,zb6,hst,yj,yr,grd,if_true,yf,hnum,yE,hW,zck (yn W),ye,if_false,zb (i:=i) (by omega)];rw [hW] at hr;simpa using hr
    ·have hst':¬ (zaG tables[i].kind==s)=true:=hst;rw [if_neg hst'] at hr ⊢;simp only [yC] at hst;simp only [zaP.l2,za hi,ya,zb6,hst,uB,uH,grd,if_true,yX,ye,if_false,zb (i:=i) (by omega)];simpa using hr
  ·simp [zaP.l1]
def zcm (p:Int→Bool) (i:Nat):Nat→List Int
 | 0=>[]
 | m+1=>if p (i:Int)=true then (i:Int)::zcm p (i+1) m else zcm p (i+1) m
theorem raisedP_len (p):∀ (m i:Nat),(zcm p i m).length≤m
 | 0,_=>yn _
 | m+1,i=>by
  simp only [zcm];split
  ·simp only [yO];exact Nat.succ_le_succ (raisedP_len p m (i+1))
  ·exact Nat.le_succ_of_le (raisedP_len p m (i+1))
theorem raisedP_snoc (p):∀ (m i:Nat),zcm p i (m+1)=if p ((i+m:Nat):Int)=true then zcm p i m++[((i+m:Nat):Int)] else zcm p i m
 | 0,i=>by simp [zcm]
 | m+1,i=>by
  have ih:=raisedP_snoc p m (i+1);have e:i+1+m=i+(m+1):=by omega
  rw [e] at ih;rw [zcm,ih]
  conv=>rhs;simp only [zcm]
  split <;> split <;> simp
def zeC (l:List Change) (c:Constraint) (k:Int):Bool:=decide (0<zg l (add64 c.first k))
theorem zdu {n:Nat} {a c} {K:Nat} (hK:mul64 c.size c.size=(K:Int)) (h1:a.effect.delta.length<4611686018427387904) (h2:a.effect.delta.length<n) (h3:K<17592186044416) (h4:K<n) :
  zi n a c=some (zcm (zeC a.effect.delta c) 0 K):=by
 have:=zE (body:=zi.l1 n a c) (len:=K) (st:=λi=>(zcm (zeC a.effect.delta c) 0 i,(i:Int))) (g:=λ_=>some (zcm (zeC a.effect.delta c) 0 K)) (λrec i hi hr=>?_) (λrec=>?_) n 0 (yp _) (by omega)
 ·simpa [zi,zcm] using this
 ·rw [raisedP_snoc] at hr;have hlen:=raisedP_len (zeC a.effect.delta c) i 0;have hd:decide ((i:Int)<mul64 c.size c.size)=true:=by rw [hK];simp;omega
  have happ:Go.Proofs.YtcagdmegicijlaaGreatDoor.app 8 (zcm (zeC a.effect.delta c) 0 i) [(i:Int)]=some (zcm (zeC a.effect.delta c) 0 i++[(i:Int)]):=by
   unfold Go.Proofs.YtcagdmegicijlaaGreatDoor.app;rw [if_pos (by simp only [uI];omega)]
  simp only [zi.l1,hd,if_true,jn,zal _ h1 h2,ya,zb (i:=i) (by omega),happ];simp only [uz] at hr;by_cases hp:zeC a.effect.delta c (i:Int)=true
  ·rw [if_pos hp] at hr;unfold zeC at hp;rw [if_pos hp,hr]
  ·rw [if_neg hp] at hr;unfold zeC at hp;rw [if_neg hp,hr]
 ·have hd:decide ((K:Int)<mul64 c.size c.size)=false:=by rw [hK];simp
  simp [zi.l1,hd]
structure Good (n:Nat) (m:Model):Prop where
 acts:∀ a∈m.actions,a.effect.delta.length<4611686018427387904∧a.effect.delta.length<n∧(∀ k,addP k a.effect.delta 0=zg a.effect.delta k)∧∀ r∈a.effect.hold,r.terms.length<4611686018427387904∧r.terms.length<n
 cons:∀ c∈m.constraints,(c.kind=0∨c.kind=1)∧c.row.terms.length<4611686018427387904∧c.row.terms.length<n∧∃ K:Nat,mul64 c.size c.size=(K:Int)∧K<17592186044416∧K<n
theorem zaf {α:Type} {l:List α} {i:Int} {x:α} (h:idx l i=some x):x∈l:=by
 obtain ⟨n,rfl,hn,rfl⟩:=idxS h;exact yg hn
theorem zbc {α:Type} {l:List α} {i:Int} (h0:0≤i) (h1:i<(l.length:Int)):∃ x,idx l i=some x:=by
 obtain ⟨n,rfl⟩:=yR h0;exact ⟨_,za (by omega)⟩
def allR (p:Nat→Bool) (i:Nat):Nat→Bool
 | 0=>true
 | k+1=>p i&&allR p (i+1) k
theorem allR_iff {p}:∀ {k i:Nat},allR p i k=true↔∀ j,i≤j→j<i+k→p j=true
 | 0,i=>by simp [allR];omega
 | k+1,i=>by
  simp only [allR,yb,allR_iff (k:=k) (i:=i+1)];constructor
  ·rintro ⟨h1,h2⟩ j hj hk;by_cases e:j=i
   ·rw [e];exact h1
   ·exact h2 j (by omega) (by omega)
  ·intro h;exact ⟨h i (yn _) (by omega),λj hj hk=>h j (by omega) (by omega)⟩
theorem zgM {p k}:allR p 0 k=true↔∀ j,j<k→p j=true:=by
 rw [allR_iff];simp
theorem zfW {S R:Type} {body:(S→Option R)→S→Option R} {len n:Nat} {st:Nat→S} (p:Nat→Bool) (F T:Option R)
  (hb:∀ rec i,i<len→body rec (st i)=if p i=true then rec (st (i+1)) else F) (he:∀ rec,body rec (st len)=T) (hn:len<n):loopF body n (st 0)=if allR p 0 len=true then T else F:=by
 have:=zE (body:=body) (len:=len) (st:=st) (g:=λi=>if allR p i (len - i)=true then T else F) (λrec i hi hr=>?_) (λrec=>?_) n 0 (yp _) (by omega)
 ·simpa using this
 ·rw [hb rec i hi,show len - i=(len - (i+1))+1 by omega,allR,hr];cases p i <;> simp
 ·rw [he];simp [allR]
theorem zeu {n l f p} (hf:∀ x∈l,f x=some (p x)) (hl:l.length<1000000) (hn:1000000≤n):zx n l f=some (ixP p l 0):=by
 have:=zE (body:=zx.l1 n l f) (len:=l.length) (st:=λi=>(i:Int)) (g:=λi=>some (ixP p (l.drop i) i)) (λrec i hi hr=>?_) (λrec=>?_) n 0 (yp _) (by omega)
 ·simpa [zx] using this
 ·simp only [zx.l1,zk hi,if_true,za hi,ya,hf _ (yg hi),zb (i:=i) (by omega),hr];rw [zh hi];simp only [ixP];split <;> rfl
 ·simp [zx.l1,ixP]
theorem zd0 {n l f p} (hf:∀ x∈l,f x=some (p x)) (hl:l.length<1000000) (hn:1000000≤n):zN n l f=some (l.any p):=by
 unfold zN;rw [zeu hf hl hn,ya,zgY]
theorem zfu {n l f p} (hf:∀ x∈l,f x=some (p x)) (hl:l.length<1000000) (hn:1000000≤n):zH n l f=some (ixP p l 0):=by
 have:=zE (body:=zH.l1 n l f) (len:=l.length) (st:=λi=>(i:Int)) (g:=λi=>some (ixP p (l.drop i) i)) (λrec i hi hr=>?_) (λrec=>?_) n 0 (yp _) (by omega)
 ·simpa [zH] using this
 ·simp only [zH.l1,zk hi,if_true,za hi,ya,hf _ (yg hi),zb (i:=i) (by omega),hr];rw [zh hi];simp only [ixP];split <;> rfl
 ·simp [zH.l1,ixP]
theorem zcJ {n l f p} (hf:∀ x∈l,f x=some (p x)) (hl:l.length<1000000) (hn:1000000≤n):zo n l f=some (l.any p):=by
 unfold zo;rw [zfu hf hl hn,ya,zgY]
theorem zeO {n l f p} (hf:∀ x∈l,f x=some (p x)) (hl:l.length<1000000) (hn:1000000≤n):zB n l f=some (ixP p l 0):=by
 have:=zE (body:=zB.l1 n l f) (len:=l.length) (st:=λi=>(i:Int)) (g:=λi=>some (ixP p (l.drop i) i)) (λrec i hi hr=>?_) (λrec=>?_) n 0 (yp _) (by omega)
 ·simpa [zB] using this
 ·simp only [zB.l1,zk hi,if_true,za hi,ya,hf _ (yg hi),zb (i:=i) (by omega),hr];rw [zh hi];simp only [ixP];split <;> rfl
 ·simp [zB.l1,ixP]
theorem zek {n l f p} (hf:∀ x∈l,f x=some (p x)) (hl:l.length<1000000) (hn:1000000≤n):zaH n l f=some (l.any p):=by
 unfold zaH;rw [zeO hf hl hn,ya,zgY]
def zar (x most:Int):Bool:=decide (-most≤x)&&decide (x≤most)
theorem around3 {n x}:zaJ n x 1000=some (zar x 1000):=rfl
theorem around9 {n x}:zaJ n x 1000000000=some (zar x 1000000000):=rfl
theorem around4 {n x}:zaJ n x 9999=some (zar x 9999):=rfl
theorem between3 {n x}:zan n x 1000=some (zar x 1000):=rfl
theorem between9 {n x}:zan n x 1000000000=some (zar x 1000000000):=rfl
theorem between4 {n x}:zan n x 9999=some (zar x 9999):=rfl
def rowP (K:Nat):Int→List Term→Bool
 | _,[]=>true
 | last,t::l=>(decide (last<t.cell)&&decide (t.cell<(K:Int))&&(t.factor != 0)&&zar t.factor 1000)&&rowP K t.cell l
def rowOK (K:Nat) (r:Row):Bool:=rowP K (-1) r.terms&&zar r.bound 1000000000
theorem sub64_1 {i:Nat} (h0:0<i) (h:i<4611686018427387904):sub64 (i:Int) 1=((i - 1:Nat):Int):=by
 unfold sub64;rw [zbK (by omega) (by omega)];omega
theorem model_row_eq {n} {j:Judge} {r} (hl:r.terms.length<1000000) (hn:1000000≤n):zaF n j r=some (rowOK j.strict.length r):=by
 have:=zbo (body:=zaF.l1 n j r) (len:=r.terms.length) (st:=λ(s:Int) i=>(s,(i:Int))) (g:=λi s=>some (rowP j.strict.length s (r.terms.drop i)&&zar r.bound 1000000000)) (λ_ _=>True) (λrec i s hi _ hr=>?_) (λrec s _=>?_) n 0 (-1) (yp _) (by omega) trivial
 ·simpa [zaF,rowOK] using this
 ·simp only [zaF.l1,zk hi,if_true,za hi,ya,around3,yj,yr,grd,yf,zb (i:=i) (by omega),hr r.terms[i].cell trivial];rw [zh hi,rowP];by_cases h:(decide (s<r.terms[i].cell)&&decide (r.terms[i].cell<(j.strict.length:Int))&&(r.terms[i].factor != 0)&&zar r.terms[i].factor 1000)=true
  ·rw [h,yE];simp only [yb,yd,bne_iff_ne] at h;rw [if_neg (by simp [h.2,h.1.2];omega)]
  ·rw [if_pos (by
    simp only [yb,yd,bne_iff_ne,ne_eq] at h;simp only [yw,yd,beq_iff_eq,yz,← yC];by_cases ha:zar r.terms[i].factor 1000=true
    ·left;simp only [ha,and_true] at h;omega
    ·exact .inr ha)]
   simp only [yC] at h;rw [h];rfl
 ·simp [zaF.l1,around9,rowP]
theorem ref_row_eq {n K:Nat} {r} (hl:r.terms.length<1000000) (hn:1000000≤n):zcn n r (K:Int)=some (rowOK K r):=by
 have:=zbo (body:=zcn.l1 n r (K:Int)) (len:=r.terms.length) (st:=λ(_:Int) i=>(i:Int)) (g:=λi s=>some (rowP K s (r.terms.drop i)&&zar r.bound 1000000000)) (λi s=>-1≤s∧((i=0∧s = -1)∨(0<i∧∃ x,idx r.terms (sub64 (i:Int) 1)=some x∧x.cell=s))) (λrec i s hi hI hr=>?_) (λrec s _=>?_) n 0 (-1) (yp _) (by omega) ⟨by omega,.inl ⟨rfl,rfl⟩⟩
 ·simpa [zcn,rowOK] using this
 ·obtain ⟨h1,h2⟩:=hI;have hprev:(decide (0<(i:Int))&&decide (r.terms[i].cell≤((idx r.terms (sub64 (i:Int) 1)).getD default).cell))=(decide (0<i)&&decide (r.terms[i].cell≤s))∧(!(decide (0<(i:Int)))||(idx r.terms (sub64 (i:Int) 1)).isSome)=true:=by
   rcases h2 with ⟨h2,h3⟩ | ⟨h2,x,h3,h4⟩
   ·subst h2;simp
   ·rw [h3];simp [h4,h2]
  simp only [zcn.l1,zk hi,if_true,za hi,ya,between3,yj,yr,grd,yf,hprev.1,hprev.2,zb (i:=i) (by omega)];rw [zh hi,rowP];by_cases h:(decide (s<r.terms[i].cell)&&decide (r.terms[i].cell<(K:Int))&&(r.terms[i].factor != 0)&&zar r.terms[i].factor 1000)=true
  ·rw [h,yE];simp only [yb,yd,bne_iff_ne] at h;rw [if_neg (by simp [h.2,h.1.2];omega),hr r.terms[i].cell ⟨by omega,.inr ⟨by omega,r.terms[i],by
    rw [sub64_1 (by omega) (by omega),show i+1 - 1=i by omega,za hi],rfl⟩⟩]
  ·rw [if_pos (by
    simp only [yb,yd,bne_iff_ne,ne_eq] at h;simp only [yw,yb,yd,beq_iff_eq,yz,← yC];by_cases ha:zar r.terms[i].factor 1000=true
    ·left;simp only [ha,and_true] at h;rcases h2 with ⟨h2,h3⟩ | ⟨h2,-⟩ <;> omega
    ·exact .inr ha)]
   simp only [yC] at h;rw [h];rfl
 ·simp [zcn.l1,between9,rowP]
def graphT (sorts:List Int) (c:Constraint) (t:Table):Bool:=(t.kind==0&&((t.columns.length:Int)==2))&&(((idx t.columns 0).getD default==(idx t.columns 1).getD default)&&t.first==c.first&&((idx sorts ((idx t.columns 0).getD default)).getD default==c.size))
def zgB (m:Model) (c:Constraint):Bool:=(((c.row.terms.length:Int)==0)&&(c.row.bound==0))&&m.tables.any (graphT m.sorts c)
theorem graph_cols {sorts:List Int} {t:Table} (hc:t.columns.all (colOK sorts)=true) (h2:(t.columns.length:Int)=2):(∃ x,idx t.columns 0=some x)∧(∃ x,idx t.columns 1=some x)∧∃ x,idx sorts ((idx t.columns 0).getD default)=some x:=by
 obtain ⟨x,hx⟩:=zbc (l:=t.columns) (i:=0) (by omega) (by omega);obtain ⟨y,hy⟩:=zbc (l:=t.columns) (i:=1) (by omega) (by omega);refine ⟨⟨x,hx⟩,⟨y,hy⟩,?_⟩;rw [hx];exact ⟨_,zd7 (yi.1 hc x (zaf hx))⟩
theorem graph_1_eq {n} {j:Judge} {c t} (hc:t.columns.all (colOK j.model.sorts)=true):zbr n t c j=some (graphT j.model.sorts c t):=by
 unfold zbr graphT;by_cases h2:(t.kind==0&&((t.columns.length:Int)==2))=true
 ·have h2':=h2;simp only [yb,beq_iff_eq] at h2';obtain ⟨⟨x,hx⟩,⟨y,hy⟩,z,hz⟩:=graph_cols hc h2'.2;rw [hx] at hz;simp only [yf] at hz;simp [h2,hx,hy,hz,grd,Bool.and_assoc]
 ·simp only [yC] at h2;simp [h2,grd]
theorem model_graph_eq {n} {j:Judge} {c} (hc:∀ t∈j.model.tables,t.columns.all (colOK j.model.sorts)=true) (hl:j.model.tables.length<1000000) (hn:1000000≤n):zbQ n j c=some (zgB j.model c):=by
 unfold zbQ zgB;rw [zd0 (p:=graphT j.model.sorts c) (λt ht=>graph_1_eq (hc t ht)) hl hn];simp [grd]
theorem ref_graph_eq {n m c} (hc:∀ t∈m.tables,t.columns.all (colOK m.sorts)=true) (hl:m.tables.length<1000000) (hn:1000000≤n):zbG n m c=some (zgB m c):=by
 unfold zbG zgB;by_cases h:(((c.row.terms.length:Int)==0)&&(c.row.bound==0))=true
 ·rw [h,yE];simp only [yb,beq_iff_eq] at h;rw [if_neg (by rw [h.1,h.2];decide)];have:=zE (body:=zbG.l1 n m c) (len:=m.tables.length) (st:=λi=>(i:Int)) (g:=λi=>some ((m.tables.drop i).any (graphT m.sorts c))) (λrec i hi hr=>?_) (λrec=>?_) n 0 (yp _) (by omega)
  ·simpa using this
  ·simp only [zbG.l1,zk hi,if_true,za hi,ya,zb (i:=i) (by omega),hr];rw [zh hi,uQ];have hcol:=hc _ (yg hi);by_cases h2:(m.tables[i].kind==0&&((m.tables[i].columns.length:Int)==2))=true
   ·have h2':=h2;simp only [yb,beq_iff_eq] at h2';obtain ⟨⟨x,hx⟩,⟨y,hy⟩,z,hz⟩:=graph_cols hcol h2'.2;rw [hx] at hz;simp only [yf] at hz;simp only [h2,hx,hy,hz,grd,yj,yr,if_true,yf,yE,graphT];cases (x==y&&m.tables[i].first==c.first&&z==c.size) <;> simp
   ·simp only [yC] at h2;simp [h2,grd,graphT]
  ·simp [zbG.l1]
 ·simp only [yC] at h;rw [h,yX,if_pos (by
   simp only [uj,um] at h;simp only [yw,yd,bne_iff_ne];omega)]
theorem EqualTerm_eq {n a b} (hl:a.length<1000000) (hn:1000000≤n):zM n a b=some (decide (a=b)):=by
 unfold zM;by_cases h:a.length=b.length
 ·rw [if_neg (by simp [h])];have:=zE (body:=zM.l1 n a b) (len:=a.length) (st:=λi=>(i:Int)) (g:=λi=>some (decide (a.drop i=b.drop i))) (λrec i hi hr=>?_) (λrec=>?_) n 0 (yp _) (by omega)
  ·simpa using this
  ·have hib:i<b.length:=by omega
   simp only [zM.l1,zk hi,if_true,za hi,za hib,ya,zb (i:=i) (by omega),hr];rw [zh hi,zh hib];by_cases e:a[i]=b[i]
   ·simp only [e,decide_true,y6,ye,if_false,List.cons.injEq,true_and]
   ·simp only [e,decide_false,uB,if_true,List.cons.injEq,false_and]
  ·simp [zM.l1,h]
 ·rw [if_pos (by simp;omega)];have:¬ a=b:=λe=>h (by rw [e])
  simp [this]
theorem SameTerms_eq {n a b} (hl:a.length<1000000) (hn:1000000≤n):zaQ n a b=some (decide (a=b)):=by
 unfold zaQ;by_cases h:a.length=b.length
 ·rw [if_neg (by simp [h])];have:=zE (body:=zaQ.l1 n a b) (len:=a.length) (st:=λi=>(i:Int)) (g:=λi=>some (decide (a.drop i=b.drop i))) (λrec i hi hr=>?_) (λrec=>?_) n 0 (yp _) (by omega)
  ·simpa using this
  ·have hib:i<b.length:=by omega
   simp only [zaQ.l1,zk hi,if_true,za hi,za hib,ya,zb (i:=i) (by omega),hr];rw [zh hi,zh hib];by_cases e:a[i]=b[i]
   ·simp only [e,decide_true,y6,ye,if_false,List.cons.injEq,true_and]
   ·simp only [e,decide_false,uB,if_true,List.cons.injEq,false_and]
  ·simp [zaQ.l1,h]
 ·rw [if_pos (by simp;omega)];have:¬ a=b:=λe=>h (by rw [e])
  simp [this]
theorem single_eq {n r c f b} (hl:r.terms.length<1000000) (hn:1000000≤n):zdD n r c f b=some (decide (r=(⟨[⟨c,f⟩],b⟩:Row))):=by
 unfold zdD;rw [EqualTerm_eq hl hn,ya];congr 1;rw [Bool.eq_iff_iff];cases r;simp
theorem SameRow_eq {n a b} (hl:a.terms.length<1000000) (hn:1000000≤n):zcx n a b=some (decide (a=b)):=by
 unfold zcx;rw [SameTerms_eq hl hn];simp only [yj,yr,grd,if_true,yf];congr 1;rw [Bool.eq_iff_iff];cases a;cases b;simp [and_comm]
structure SmallM (m:Model):Prop where
 sorts:m.sorts.length≤8
 tables:m.tables.length≤6
 tab:∀ t∈m.tables,t.name.length≤40∧t.columns.length≤12
 families:m.families.length≤20
 fam:∀ s∈m.families,s.length≤40
 constraints:m.constraints.length≤60
 con:∀ c∈m.constraints,c.row.terms.length≤20
 operations:m.operations.length≤8
 op:∀ o∈m.operations,o.name.length≤40∧o.sorts.length≤6
 actions:m.actions.length≤30
 act:∀ a∈m.actions,a.arguments.length≤6∧a.effect.delta.length≤20∧a.effect.hold.length≤10∧a.effect.updates.length≤40∧∀ r∈a.effect.hold,r.terms.length≤20
 hides:m.hides.length≤12
def zdm (l:List Range) (i:Nat):Row:=⟨[⟨((i / 2:Nat):Int),if i % 2=0 then -1 else 1⟩],if i % 2=0 then neg64 ((idx l ((i / 2:Nat):Int)).getD default).lo else ((idx l ((i / 2:Nat):Int)).getD default).hi⟩
def famP (m:Model) (c:Constraint):Bool:=decide (0≤c.family)&&decide (c.family<(m.families.length:Int))
def zdi (K:Nat) (c:Constraint):Bool:=(((c.kind==0)&&(c.first==0))&&(c.size==0))&&rowOK K c.row
def acyP (m:Model) (c:Constraint):Bool:=c.kind==1&&zgB m c
def conP (m:Model) (l:List Range) (i:Nat) (c:Constraint):Bool:=famP m c&&(zdi l.length c||acyP m c)&&(!decide (i / 2<l.length)||(c.kind==0&&decide (c.row=zdm l i)))
def consP (m:Model) (l:List Range):Bool:=decide (m.constraints.length≤512)&&decide (2*l.length≤m.constraints.length)&&allR (λi=>conP m l i ((idx m.constraints (i:Int)).getD default)) 0 m.constraints.length
theorem quo2 {i:Nat} (h:i<1000000):quo64 (i:Int) 2=some ((i / 2:Nat):Int):=by
 unfold quo64;rw [if_neg (by decide),Int.tdiv_eq_ediv_of_nonneg (by omega),zbK (by omega) (by omega)];congr 1
theorem rem2 {i:Nat}:rem64 (i:Int) 2=some ((i % 2:Nat):Int):=by
 unfold rem64;rw [if_neg (by decide),Int.tmod_eq_emod_of_nonneg (by omega)];congr 1
theorem mul2 {i:Nat} (h:i<1000000):mul64 2 (i:Int)=((2*i:Nat):Int):=by
 unfold mul64;rw [zbK (by omega) (by omega)];omega
theorem model_constraints_eq {n:Nat} {m} {l:List Range} (hS:SmallM m) (hc:∀ t∈m.tables,t.columns.all (colOK m.sorts)=true) (hK:l.length<100000) (hn:1000000≤n):zab n ⟨m,l⟩=some (consP m l):=by
 have hcl:=hS.constraints;have htl:=hS.tables;unfold zab consP;simp only [mul2 (show l.length<1000000 by omega)];by_cases h0:(decide (m.constraints.length≤512)&&decide (2*l.length≤m.constraints.length))=true
 ·rw [h0,yE];simp only [yb,yd] at h0;rw [if_neg (by simp;omega)];have:=zfW (body:=zab.l1 n ⟨m,l⟩) (len:=m.constraints.length) (n:=n) (st:=λi=>(i:Int)) (λi=>conP m l i ((idx m.constraints (i:Int)).getD default)) (some false) (some true) (λrec i hi=>?_) (λrec=>?_) (by omega)
  ·simp only [Int.natCast_zero] at this;rw [this];cases allR (λi=>conP m l i ((idx m.constraints (i:Int)).getD default)) 0 m.constraints.length <;> rfl
  ·have hterms:=hS.con _ (yg hi);simp only [zab.l1,jn,zk hi,if_true,za hi,ya,zas,yf,model_row_eq (j:=⟨m,l⟩) (r:=m.constraints[i].row) (show m.constraints[i].row.terms.length<1000000 by omega) hn,model_graph_eq (j:=⟨m,l⟩) (c:=m.constraints[i]) hc (show m.tables.length<1000000 by omega) hn,yj,yr,grd,quo2 (show i<1000000 by omega),rem2,single_eq (r:=m.constraints[i].row) (show m.constraints[i].row.terms.length<1000000 by omega) hn,zb (i:=i) (by omega)];have hfam:(decide (0≤m.constraints[i].family)&&decide (m.constraints[i].family<(m.families.length:Int)))=famP m m.constraints[i]:=rfl;rw [hfam];cases hf:famP m m.constraints[i] with
   | false=>simp [conP,hf]
   | true=>
    simp only [y6,ye,if_false];have hrest:∀ (X:Bool),X=(zdi l.length m.constraints[i]||acyP m m.constraints[i]) →
      (if X=true then (if decide (((i / 2:Nat):Int)<(l.length:Int))=true then (idx l ((i / 2:Nat):Int)).bind λx81=>(if (((i % 2:Nat):Int)==0)=true then (if (m.constraints[i].kind != 0||!decide (m.constraints[i].row=(⟨[⟨((i / 2:Nat):Int),-1⟩],neg64 x81.lo⟩:Row)))=true then some false else rec ((i+1:Nat):Int)) else (if (m.constraints[i].kind != 0||!decide (m.constraints[i].row=(⟨[⟨((i / 2:Nat):Int),1⟩],x81.hi⟩:Row)))=true then some false else rec ((i+1:Nat):Int))) else rec ((i+1:Nat):Int)) else some false)=if conP m l i m.constraints[i]=true then rec ((i+1:Nat):Int) else some false:=by
     intro X hX;unfold conP;rw [hf,← hX];cases X with
     | false=>simp
     | true=>
      simp only [if_true,yE];by_cases hlt:i / 2<l.length
      ·rw [if_pos (zcK hlt),za hlt,ya];simp only [hlt,decide_true,y6,uk,zdm,za hlt,yf];by_cases hm:i % 2=0
       ·rw [if_pos (by simp [hm])];simp only [hm,if_true];cases hkk:(m.constraints[i].kind==0) <;> simp [bne,hkk]
       ·rw [if_neg (by simp;omega)];simp only [hm,if_false];cases hkk:(m.constraints[i].kind==0) <;> simp [bne,hkk]
      ·rw [if_neg (by rw [zck (by omega)];simp)];simp [hlt]
    by_cases hk:m.constraints[i].kind=0
    ·rw [if_pos (by simp [hk])];have hX:(zdi l.length m.constraints[i]||acyP m m.constraints[i])=((m.constraints[i].first==0&&m.constraints[i].size==0)&&rowOK l.length m.constraints[i].row):=by
      simp [zdi,acyP,hk]
     rw [← hrest _ hX.symm];cases h1:(m.constraints[i].first==0) <;> cases h2:(m.constraints[i].size==0) <;> cases h3:rowOK l.length m.constraints[i].row <;> simp [bne,h1,h2]
    ·rw [if_neg (by simp [hk])];have hX:(zdi l.length m.constraints[i]||acyP m m.constraints[i])=(m.constraints[i].kind==1&&zgB m m.constraints[i]):=by
      simp [zdi,acyP,hk]
     rw [← hrest _ hX.symm];cases h1:(m.constraints[i].kind==1) <;> cases h3:zgB m m.constraints[i] <;> simp [bne,h1]
  ·simp [zab.l1]
 ·rw [if_pos (by
   simp only [yb,yd] at h0;simp only [yw,yd];omega)]
  simp only [yC] at h0;rw [h0,yX]
theorem consP_ref {m l} (h2:2*l.length≤m.constraints.length) :
  allR (λi=>conP m l i ((idx m.constraints (i:Int)).getD default)) 0 m.constraints.length=(allR (λi=>decide (((idx m.constraints ((2*i:Nat):Int)).getD default).row=zdm l (2*i))&&decide (((idx m.constraints ((2*i+1:Nat):Int)).getD default).row=zdm l (2*i+1))) 0 l.length
   && allR (λi=>famP m ((idx m.constraints (i:Int)).getD default)&&(zdi l.length ((idx m.constraints (i:Int)).getD default)||(decide (2*l.length≤i)&&acyP m ((idx m.constraints (i:Int)).getD default)))) 0 m.constraints.length):=by
 rw [Bool.eq_iff_iff,yb,zgM,zgM,zgM];constructor
 ·intro h;refine ⟨λj hj=>?_,λi hi=>?_⟩
  ·have ha:=h (2*j) (by omega);have hb:=h (2*j+1) (by omega);simp only [conP,yb,yw,yz,yF,yd] at ha hb ⊢;rcases ha.2 with e | e
   ·omega
   rcases hb.2 with f | f
   ·omega
   exact ⟨e.2,f.2⟩
  ·have ha:=h i hi;simp only [conP,yb,yw,yz,yF,yd] at ha ⊢;refine ⟨ha.1.1,?_⟩;rcases ha.1.2 with e | e
   ·exact .inl e
   ·refine .inr ⟨?_,e⟩;rcases ha.2 with f | f
    ·omega
    ·simp only [acyP,yb,beq_iff_eq] at e;have:=f.1;simp only [beq_iff_eq] at this;omega
 ·rintro ⟨ha,hb⟩ i hi;have hb:=hb i hi;simp only [conP,yb,yw,yz,yF,yd] at hb ⊢;refine ⟨⟨hb.1,hb.2.imp id (·.2)⟩,?_⟩;by_cases hlt:i / 2<l.length
  ·right;have ha:=ha (i / 2) hlt;simp only [yb,yd] at ha;rcases hb.2 with e | e
   ·refine ⟨?_,?_⟩
    ·simp only [zdi,yb] at e;exact e.1.1.1
    ·by_cases hm:i % 2=0
     ·have:=ha.1
      rwa [show 2*(i / 2)=i by omega] at this
     ·have:=ha.2
      rwa [show 2*(i / 2)+1=i by omega] at this
   ·omega
  ·exact .inl hlt
theorem ref13_constraints_eq {n:Nat} {m} (hS:SmallM m) (hL:zaV m.sorts m.tables=true) (hn:1000000≤n):zR n m=some (consP m (zA m.sorts true m.tables)):=by
 have hcl:=hS.constraints;have htl:=hS.tables;have hsl:=hS.sorts;obtain ⟨l1,l2,l3,l4⟩:=zbi hL;have hlen:=zcv (sizes:=m.sorts) (s:=true) (l:=m.tables) λx hx=>(l4 x hx).2.2.2.2
 unfold zR zcr consP;rw [zeZ hn (by omega) (by omega) (λt ht=>by have:=hS.tab t ht;omega),hL,if_pos rfl];generalize zA m.sorts true m.tables=l at hlen;simp only [ya,mul2 (show l.length<1000000 by omega)];by_cases h0:(decide (m.constraints.length≤512)&&decide (2*l.length≤m.constraints.length))=true
 ·rw [h0,yE];simp only [yb,yd] at h0;rw [if_neg (by simp;omega),consP_ref h0.2];have first:=zfW (body:=zR.l1 n m l) (len:=l.length) (n:=n) (st:=λi=>(i:Int)) (λi=>decide (((idx m.constraints ((2*i:Nat):Int)).getD default).row=zdm l (2*i))&&decide (((idx m.constraints ((2*i+1:Nat):Int)).getD default).row=zdm l (2*i+1))) (some false) (loopF (zR.l2 n m l) n 0) (λrec i hi=>?_) (λrec=>?_) (by omega)
  ·simp only [Int.natCast_zero] at first
   rw [first];have second:=zfW (body:=zR.l2 n m l) (len:=m.constraints.length) (n:=n) (st:=λi=>(i:Int)) (λi=>famP m ((idx m.constraints (i:Int)).getD default)&&(zdi l.length ((idx m.constraints (i:Int)).getD default)||(decide (2*l.length≤i)&&acyP m ((idx m.constraints (i:Int)).getD default)))) (some false) (some true) (λrec i hi=>?_) (λrec=>?_) (by omega)
   ·simp only [Int.natCast_zero] at second;rw [second];cases allR (λi=>decide (((idx m.constraints ((2*i:Nat):Int)).getD default).row=zdm l (2*i))&&decide (((idx m.constraints ((2*i+1:Nat):Int)).getD default).row=zdm l (2*i+1))) 0 l.length <;> cases allR (λi=>famP m ((idx m.constraints (i:Int)).getD default)&&(zdi l.length ((idx m.constraints (i:Int)).getD default)||(decide (2*l.length≤i)&&acyP m ((idx m.constraints (i:Int)).getD default)))) 0 m.constraints.length <;> rfl
   ·have hterms:=hS.con _ (yg hi);have hd:decide (mul64 2 (l.length:Int)≤(i:Int))=decide (2*l.length≤i):=by rw [mul2 (by omega)];exact decide_eq_decide.2 (by omega)
    simp only [zR.l2,zk hi,if_true,za hi,ya,yf,ref_row_eq (r:=m.constraints[i].row) (show m.constraints[i].row.terms.length<1000000 by omega) hn,ref_graph_eq (m:=m) (c:=m.constraints[i]) (λt ht=>(l4 t ht).2.2.2.1) (show m.tables.length<1000000 by omega) hn,yj,yr,grd,zb (i:=i) (by omega),hd];have hfam:(decide (m.constraints[i].family<0)||decide ((m.families.length:Int)≤m.constraints[i].family)) = !famP m m.constraints[i]:=by
     unfold famP;rw [Bool.not_and,← decide_not,← decide_not];congr 1
     ·exact decide_eq_decide.2 (by omega)
     ·exact decide_eq_decide.2 (by omega)
    rw [hfam];cases famP m m.constraints[i] with
    | false=>simp
    | true=>
     have hp:((((m.constraints[i].kind==0)&&(m.constraints[i].first==0))&&(m.constraints[i].size==0))&&rowOK l.length m.constraints[i].row)=zdi l.length m.constraints[i]:=rfl;rw [hp];unfold acyP;cases zdi l.length m.constraints[i] <;> cases decide (2*l.length≤i) <;> cases (m.constraints[i].kind==1) <;> cases zgB m m.constraints[i] <;> simp
   ·simp [zR.l2]
  ·have h2i:2*i<m.constraints.length:=by omega
   have h2j:2*i+1<m.constraints.length:=by omega
   have t1:=hS.con _ (yg h2i);have t2:=hS.con _ (yg h2j);have e1:zdm l (2*i)=⟨[⟨(i:Int),-1⟩],neg64 l[i].lo⟩:=by
    unfold zdm;rw [show 2*i / 2=i by omega,if_pos (by omega),if_pos (by omega),za hi];rfl
   have e2:zdm l (2*i+1)=⟨[⟨(i:Int),1⟩],l[i].hi⟩:=by
    unfold zdm;rw [show (2*i+1) / 2=i by omega,if_neg (by omega),if_neg (by omega),za hi];rfl
   have hadd:add64 ((2*i:Nat):Int) 1=((2*i+1:Nat):Int):=zb (by omega);simp only [zR.l1,zk hi,if_true,za hi,mul2 (show i<1000000 by omega),za h2i,hadd,za h2j,ya,yf,SameRow_eq (show m.constraints[2*i].row.terms.length<1000000 by omega) hn,SameRow_eq (show m.constraints[2*i+1].row.terms.length<1000000 by omega) hn,yj,yr,grd,zb (i:=i) (by omega),e1,e2];cases decide (m.constraints[2*i].row=⟨[⟨(i:Int),-1⟩],neg64 l[i].lo⟩) <;> cases decide (m.constraints[2*i+1].row=⟨[⟨(i:Int),1⟩],l[i].hi⟩) <;> simp
  ·simp [zR.l1]
 ·rw [if_pos (by
   simp only [yb,yd] at h0;simp only [yw,yd];omega)]
  simp only [yC] at h0;rw [h0,yX]
theorem zaj {α S R:Type} {body:(S→Option R)→S→Option R} {l:List α} {n:Nat} {st:Nat→S} (p:α→Bool) (F T:Option R)
  (hb:∀ rec i (hi:i<l.length),body rec (st i)=if p l[i]=true then rec (st (i+1)) else F) (he:∀ rec,body rec (st l.length)=T) (hn:l.length<n):loopF body n (st 0)=if l.all p=true then T else F:=by
 have:=zE (body:=body) (len:=l.length) (st:=st) (g:=λi=>if (l.drop i).all p=true then T else F) (λrec i hi hr=>?_) (λrec=>?_) n 0 (yp _) (by omega)
 ·simpa using this
 ·rw [hb rec i hi,zh hi,y7,hr];cases p l[i] <;> simp
 ·rw [he];simp
def zcY (sizes:List Int) (c:Int):Int:=sizes.getD c.toNat 0
def digR (sizes:List Int):List Int→Int→List Int
 | [],_=>[]
 | c::l,k=>k.tmod (zcY sizes c)::digR sizes l (w64 (k.tdiv (zcY sizes c)))
def tupleP (sizes cols:List Int) (k:Int):List Int:=(digR sizes cols.reverse k).reverse
theorem sizeAt_ne {sizes:List Int} (hs:sizes.all zbJ=true) {c:Int} (hc:colOK sizes c=true):1≤zcY sizes c∧zcY sizes c≤6:=by
 simp only [colOK,yb,yd] at hc;obtain ⟨k,rfl⟩:=yR hc.1;have hk:k<sizes.length:=by omega
 have hz:=yi.1 hs _ (yg hk);simp only [zbJ,yb,yd] at hz;have hg:zcY sizes (k:Int)=sizes[k]:=by simp [zcY,List.getD,hk]
 rw [hg];exact hz
theorem sto_mid {r:Nat} {done:List Int} {x:Int}:sto (List.replicate (r+1) 0++done) (r:Int) x=some (List.replicate r 0++x::done):=by
 unfold sto;rw [if_pos (by simp;omega)];simp only [yt,yk];rw [List.replicate_succ',yL,List.set_append_right _ _ (by simp)];simp
theorem idx_mid {r:Nat} {done:List Int}:∃ x,idx (List.replicate (r+1) 0++done) (r:Int)=some x:=⟨_,za (by simp;omega)⟩
theorem take_rev {α:Type} {l:List α} {r:Nat} (h:r<l.length):(l.take (r+1)).reverse=l[r]::(l.take r).reverse:=by
 rw [yv h];simp
theorem cells_digits {n:Nat} {sizes:List Int} {t:Table} {i:Int} (hs:sizes.all zbJ=true) (hc:t.columns.all (colOK sizes)=true) (hl:t.columns.length<1000000):∀ (m r:Nat) (done:List Int) (k:Int),r<m→r≤t.columns.length →
  loopF (zbg.l2 n sizes i t) m (List.replicate r 0++done,k,(r:Int) - 1)=some (i,(digR sizes (t.columns.take r).reverse k).reverse++done,true)
 | 0,_,_,_,h,_=>by omega
 | m+1,0,done,k,_,_=>by simp [loopF,zbg.l2,digR]
 | m+1,r+1,done,k,h,hr=>by
  have hrl:r<t.columns.length:=by omega
  have hcol:=yi.1 hc _ (yg hrl);have hsz:=sizeAt_ne hs hcol;have e:(((r+1:Nat):Int)) - 1=(r:Int):=by omega
  obtain ⟨x,hx⟩:=idx_mid (r:=r) (done:=done);have hrem:rem64 k (zcY sizes t.columns[r])=some (k.tmod (zcY sizes t.columns[r])):=by unfold rem64;rw [if_neg (by omega)]
  have hquo:quo64 k (zcY sizes t.columns[r])=some (w64 (k.tdiv (zcY sizes t.columns[r]))):=by unfold quo64;rw [if_neg (by omega)]
  have hcs:=zd7 hcol;have hsub:sub64 (r:Int) 1=(r:Int) - 1:=by unfold sub64;rw [zbK (by omega) (by omega)]
  have hd:decide (0≤(r:Int))=true:=by simp
  unfold zcY at hrem hquo;simp only [loopF,zbg.l2,e,hd,if_true,za hrl,hcs,hrem,hquo,hx,sto_mid,ya,hsub];rw [cells_digits hs hc hl m r _ _ (by omega) (by omega),take_rev hrl];simp only [digR,zcY,List.reverse_cons,yL,List.singleton_append]
theorem ref_digits {n:Nat} {sizes cols:List Int} (hs:sizes.all zbJ=true) (hc:cols.all (colOK sizes)=true) (hl:cols.length<1000000):∀ (m r:Nat) (done:List Int) (k:Int),r<m→r≤cols.length →
  loopF (zdU.l1 n sizes cols) m (List.replicate r 0++done,k,(r:Int) - 1)=some ((digR sizes (cols.take r).reverse k).reverse++done)
 | 0,_,_,_,h,_=>by omega
 | m+1,0,done,k,_,_=>by simp [loopF,zdU.l1,digR]
 | m+1,r+1,done,k,h,hr=>by
  have hrl:r<cols.length:=by omega
  have hcol:=yi.1 hc _ (yg hrl);have hsz:=sizeAt_ne hs hcol;have e:(((r+1:Nat):Int)) - 1=(r:Int):=by omega
  obtain ⟨x,hx⟩:=idx_mid (r:=r) (done:=done);have hrem:rem64 k (zcY sizes cols[r])=some (k.tmod (zcY sizes cols[r])):=by unfold rem64;rw [if_neg (by omega)]
  have hquo:quo64 k (zcY sizes cols[r])=some (w64 (k.tdiv (zcY sizes cols[r]))):=by unfold quo64;rw [if_neg (by omega)]
  have hcs:=zd7 hcol;have hsub:sub64 (r:Int) 1=(r:Int) - 1:=by unfold sub64;rw [zbK (by omega) (by omega)]
  have hd:decide (0≤(r:Int))=true:=by simp
  unfold zcY at hrem hquo;simp only [loopF,zdU.l1,e,hd,if_true,za hrl,hcs,hrem,hquo,hx,sto_mid,ya,hsub];rw [ref_digits hs hc hl m r _ _ (by omega) (by omega),take_rev hrl];simp only [digR,zcY,List.reverse_cons,yL,List.singleton_append]
theorem mkl_0 {b k:Nat} (h:k*b≤140737488355328):mkl b (k:Int) (0:Int)=some (List.replicate k 0):=by
 have e:((k*b:Nat):Int)=(k:Int)*(b:Int):=yH k b;unfold mkl;rw [if_pos ⟨by omega,by omega⟩];simp
theorem sub64_len {k:Nat} (h:k<1000000):sub64 (k:Int) 1=(k:Int) - 1:=by
 unfold sub64;rw [zbK (by omega) (by omega)]
theorem ref09_nth_eq {n:Nat} {sizes cols:List Int} {k:Int} (hs:sizes.all zbJ=true) (hc:cols.all (colOK sizes)=true) (hl:cols.length≤1000) (hn:1000000≤n):zdU n sizes cols k=some (tupleP sizes cols k):=by
 unfold zdU;rw [mkl_0 (by omega),ya,sub64_len (by omega)];have:=ref_digits (n:=n) hs hc (by omega) n cols.length [] k (by omega) (yn _);simpa [tupleP] using this
def hitP (sizes:List Int) (s:Bool) (cell:Int) (t:Table):Bool:=(zaG t.kind==s)&&(decide (0≤sub64 cell t.first)&&decide (sub64 cell t.first<zaa sizes t.columns 1))
def resT (sizes:List Int) (s:Bool) (cell:Int):List Table→Nat→Int×List Int×Bool
 | [],_=>(0,[],false)
 | t::l,i=>if hitP sizes s cell t=true then ((i:Int),tupleP sizes t.columns (sub64 cell t.first),true) else resT sizes s cell l (i+1)
def cellP (sizes:List Int) (tables:List Table) (s:Bool) (cell:Int):Int×List Int×Bool:=if (zaV sizes tables&&decide (0≤cell))=true then resT sizes s cell tables 0 else (0,[],false)
theorem cells_Tuple_eq {n:Nat} {sizes:List Int} {tables:List Table} {s:Bool} {cell:Int} (hF:Fuel n) (hs:sizes.length≤1000) (ht:tables.length≤1000) (hc:∀ t∈tables,t.columns.length≤1000):zbg n sizes tables s cell=some (cellP sizes tables s cell):=by
 have hn:=hF.big;unfold zbg cellP;rw [zfv hF hs ht hc,ya];cases hL:zaV sizes tables with
 | false=>simp
 | true=>
  obtain ⟨l1,l2,l3,l4⟩:=zbi hL;by_cases h0:0≤cell
  ·rw [if_neg (by simp;omega),if_pos (by simp [h0])];have:=zE (body:=zbg.l1 n sizes tables s cell) (len:=tables.length) (st:=λi=>(i:Int)) (g:=λi=>some (resT sizes s cell (tables.drop i) i)) (λrec i hi hr=>?_) (λrec=>?_) n 0 (yp _) (by omega)
   ·simpa using this
   ·obtain ⟨-,-,c1,c2,c3,c4⟩:=l4 _ (yg hi);simp only [zbg.l1,zk hi,if_true,za hi,ya,zca,zfx c2 (show tables[i].columns.length<4611686018427387904 by omega) (show tables[i].columns.length<n by omega),yj,yr,grd,yf,zb (i:=i) (by omega),hr,mkl_0 (b:=8) (k:=tables[i].columns.length) (by omega),yW,sub64_len (show tables[i].columns.length<1000000 by omega)];have hdig:=cells_digits (n:=n) (i:=(i:Int)) l3 c2 (by omega) n tables[i].columns.length [] (sub64 cell tables[i].first) (by omega) (yn _);simp only [uh,List.take_length] at hdig;rw [hdig,zh hi,resT];have hh:(((tables[i].kind==0||tables[i].kind==1) != s||decide (sub64 cell tables[i].first<0))||decide (zaa sizes tables[i].columns 1≤sub64 cell tables[i].first)) = !hitP sizes s cell tables[i]:=by
     unfold hitP zaG;rw [Bool.not_and,Bool.not_and,← decide_not,← decide_not,Bool.or_assoc];congr 1;congr 1
     ·exact decide_eq_decide.2 (by omega)
     ·exact decide_eq_decide.2 (by omega)
    rw [hh];cases hitP sizes s cell tables[i] <;> simp [tupleP]
   ·simp [zbg.l1,resT]
  ·rw [if_pos (by simp;omega),if_neg (by simp;omega)]
theorem ref09_Tuple_eq {n:Nat} {sizes:List Int} {tables:List Table} {s:Bool} {cell:Int} (hn:1000000≤n) (hs:sizes.length≤1000) (ht:tables.length≤1000) (hc:∀ t∈tables,t.columns.length≤1000∧t.name.length≤4096):zcw n sizes tables s cell=some (cellP sizes tables s cell):=by
 unfold zcw cellP;rw [zfB hn hs ht hc,ya];cases hL:zaV sizes tables with
 | false=>simp
 | true=>
  obtain ⟨l1,l2,l3,l4⟩:=zbi hL;rw [if_neg (by simp)];have:=zE (body:=zcw.l1 n sizes tables s cell) (len:=tables.length) (st:=λi=>(i:Int)) (g:=λi=>some (if decide (0≤cell)=true then resT sizes s cell (tables.drop i) i else (0,[],false))) (λrec i hi hr=>?_) (λrec=>?_) n 0 (yp _) (by omega)
  ·simpa using this
  ·obtain ⟨-,-,c1,c2,c3,c4⟩:=l4 _ (yg hi);have hnum:=ze0 (n:=n) (sizes:=sizes) (cols:=tables[i].columns) (by omega) (by omega) (by omega) (by omega);simp only [l3,c2,c1,decide_true,ug,if_true] at hnum;simp only [zcw.l1,zk hi,if_true,za hi,ya,zb6,hnum,yj,yr,grd,yf,zb (i:=i) (by omega),hr,ref09_nth_eq l3 c2 (show tables[i].columns.length≤1000 by omega) hn];rw [zh hi,resT];unfold hitP zaG;cases decide (0≤cell) with
   | false=>simp
   | true=>
    simp only [if_true,ug];by_cases h1:((tables[i].kind==0||tables[i].kind==1)==s&&decide (0≤sub64 cell tables[i].first)&&decide (sub64 cell tables[i].first<zaa sizes tables[i].columns 1))=true
    ·rw [if_pos h1,if_pos (by rw [← Bool.and_assoc];exact h1)]
    ·rw [if_neg h1,if_neg (by rw [← Bool.and_assoc];exact h1)]
  ·simp [zcw.l1,resT]
theorem resT_lt {sizes:List Int} {s:Bool} {cell:Int}:∀ (l:List Table) (i:Nat),(resT sizes s cell l i).2.2=true→∃ k:Nat,(resT sizes s cell l i).1=(k:Int)∧i≤k∧k<i+l.length
 | [],_,h=>by simp [resT] at h
 | t::l,i,h=>by
  rw [resT] at h ⊢;split at h
  ·rename_i hh;rw [if_pos hh];exact ⟨i,rfl,yn _,by simp⟩
  ·rename_i hh;rw [if_neg hh];obtain ⟨k,e,k1,k2⟩:=resT_lt l (i+1) h;exact ⟨k,e,by omega,by simp only [yO];omega⟩
theorem cellP_idx {sizes:List Int} {tables:List Table} {s:Bool} {cell:Int} (h:(cellP sizes tables s cell).2.2=true):∃ t,idx tables (cellP sizes tables s cell).1=some t:=by
 unfold cellP at h ⊢;split at h
 ·rename_i hh;rw [if_pos hh];obtain ⟨k,e,-,k2⟩:=resT_lt tables 0 h;rw [e];exact ⟨_,za (by omega)⟩
 ·simp at h
theorem cellP_neg {sizes:List Int} {tables:List Table} {s:Bool} {cell:Int} (h:cell<0):(cellP sizes tables s cell).2.2=false:=by
 unfold cellP;rw [if_neg (by simp;omega)]
def updT (t:Table) (u:Update):Bool:=if (t.kind==2||t.kind==3)=true then ((u.kind==0)||(u.kind==1))&&(u.value==0) else ((u.kind==2)&&decide (t.range.lo≤u.value))&&decide (u.value≤t.range.hi)
def updP (m:Model) (u:Update):Bool:=(cellP m.sorts m.tables false u.cell).2.2&&updT ((idx m.tables (cellP m.sorts m.tables false u.cell).1).getD default) u
def updsP (m:Model):Int→List Update→Bool
 | _,[]=>true
 | last,u::l=>(decide (last<u.cell)&&updP m u)&&updsP m u.cell l
theorem model_update_eq {n:Nat} {m:Model} {l:List Range} {u:Update} (hF:Fuel n) (hS:SmallM m):zbD n ⟨m,l⟩ u=some (updP m u):=by
 unfold zbD updP;have hs:=hS.sorts;have ht:=hS.tables;simp only [];rw [cells_Tuple_eq hF (by omega) (by omega) (λt h=>by have:=hS.tab t h;omega),ya];cases hok:(cellP m.sorts m.tables false u.cell).2.2 with
 | false=>simp
 | true=>
  obtain ⟨t,ht⟩:=cellP_idx hok;simp only [ht,y6,ye,if_false,ya,yf,yE,jn,updT];by_cases h2:t.kind=2
  ·simp [h2]
  ·by_cases h3:t.kind=3
   ·simp [h3]
   ·simp [h2,h3]
def opP (m:Model) (o:Operation):Bool:=decide (o.sorts.length≤3)&&o.sorts.all λs=>decide (-1≤s)&&decide (s<(m.sorts.length:Int))
def opsP (m:Model):Bool:=m.operations.all (opP m)&&(decide (m.operations.length≤8)&&distP [] (m.operations.map (·.name)))
theorem zdR {α β:Type} {f:α→β} {l:List α} {i:Nat} (hi:i<l.length):(l.take i).map f++[f l[i]]=(l.take (i+1)).map f:=by
 rw [yv hi,ul];rfl
theorem model_operations_eq {n:Nat} {m:Model} {l:List Range} (hF:Fuel n) (hS:SmallM m):zF n ⟨m,l⟩=some (opsP m):=by
 have hn:=hF.big;have hol:=hS.operations;unfold zF opsP;have:=zaj (body:=zF.l1 n ⟨m,l⟩) (l:=m.operations) (n:=n) (st:=λi=>((m.operations.take i).map (·.name),(i:Int))) (opP m) (some false) (some (decide (m.operations.length≤8)&&distP [] (m.operations.map (·.name)))) (λrec i hi=>?_) (λrec=>?_) (by omega)
 ·simp only [List.take_zero,List.map_nil,Int.natCast_zero] at this;rw [this];cases m.operations.all (opP m) <;> rfl
 ·have hop:=hS.op _ (yg hi);simp only [zF.l1,zk hi,if_true,za hi,ya];rw [zr (by simp;omega),ya,zce (p:=λs=>!(decide (-1≤s)&&decide (s<(m.sorts.length:Int)))) (λx _=>by
   simp only [zba,yk,Bool.not_and,← decide_not];congr 1
   ·exact decide_eq_decide.2 (by omega)
   ·exact decide_eq_decide.2 (by omega)) (by omega) (by omega)]
  simp only [yj,yr,grd,if_true,yf,zb (i:=i) (by omega),zdR hi];have h3:decide (3<(m.operations[i].sorts.length:Int)) = !decide (m.operations[i].sorts.length≤3):=by rw [← decide_not];exact decide_eq_decide.2 (by omega)
  rw [h3,← Bool.not_not (m.operations[i].sorts.any _),any_not,← Bool.not_and];unfold opP;cases (decide (m.operations[i].sorts.length≤3)&&m.operations[i].sorts.all λs=>decide (-1≤s)&&decide (s<(m.sorts.length:Int))) <;> rfl
 ·simp only [zF.l1,zad,ye,if_false,List.take_length];rw [zfX hF (by simp;omega)];simp only [yj,yr,grd,if_true,yf,y9,yk];congr 1;exact decide_eq_decide.2 (by omega)
def deltaP (K:Nat):Int→List Change→Bool
 | _,[]=>true
 | last,d::l=>(decide (last<d.cell)&&decide (d.cell<(K:Int))&&(d.add != 0)&&zar d.add 1000000000)&&deltaP K d.cell l
def effP (m:Model) (K:Nat) (x:Effect):Bool:=deltaP K (-1) x.delta&&(updsP m (-1) x.updates&&(decide (x.hold.length≤8)&&decide (x.updates.length≤32)&&x.hold.all (rowOK K)))
theorem model_effect_eq {n m l x} (hF:Fuel n) (hS:SmallM m) (h1:x.delta.length≤1000) (h2:x.updates.length≤1000) (h3:x.hold.length≤1000) (h4:∀ r∈x.hold,r.terms.length≤1000):zK n ⟨m,l⟩ x=some (effP m l.length x):=by
 have hn:=hF.big;have T:loopF (zK.l2 n ⟨m,l⟩ x) n (-1,0)=some (updsP m (-1) x.updates&&(decide (x.hold.length≤8)&&decide (x.updates.length≤32)&&x.hold.all (rowOK l.length))):=by
  have:=zbo (body:=zK.l2 n ⟨m,l⟩ x) (len:=x.updates.length) (st:=λ(s:Int) i=>(s,(i:Int))) (g:=λi s=>some (updsP m s (x.updates.drop i)&&(decide (x.hold.length≤8)&&decide (x.updates.length≤32)&&x.hold.all (rowOK l.length)))) (λ_ _=>True) (λrec i s hi _ hr=>?_) (λrec s _=>?_) n 0 (-1) (yp _) (by omega) trivial
  ·simpa using this
  ·simp only [zK.l2,zk hi,if_true,za hi,ya,model_update_eq hF hS,yj,yr,grd,yf,zb (i:=i) (by omega),hr x.updates[i].cell trivial];rw [zh hi,updsP];by_cases hlt:s<x.updates[i].cell
   ·have hd:decide (x.updates[i].cell≤s)=false:=by simp;omega
    rw [hd];cases updP m x.updates[i] <;> simp [hlt]
   ·have hd:decide (x.updates[i].cell≤s)=true:=by simp;omega
    rw [hd];simp [hlt]
  ·have hc:zo n x.hold (λq0=>zbk n q0 ⟨m,l⟩)=some (x.hold.any λr=>!rowOK l.length r):=zcJ (λr hr=>by
    unfold zbk;rw [model_row_eq (by have:=h4 r hr;omega) (by omega)];rfl) (by omega) (by omega)
   simp only [zK.l2,zad,ye,if_false,hc,yj,yr,grd,if_true,yf,any_not,List.drop_length,updsP,yE,yk];congr 2
   ·exact decide_eq_decide.2 (by omega)
   ·exact decide_eq_decide.2 (by omega)
 have:=zbo (body:=zK.l1 n ⟨m,l⟩ x) (len:=x.delta.length) (st:=λ(s:Int) i=>(s,(i:Int))) (g:=λi s=>some (deltaP l.length s (x.delta.drop i)&&(updsP m (-1) x.updates&&(decide (x.hold.length≤8)&&decide (x.updates.length≤32)&&x.hold.all (rowOK l.length))))) (λ_ _=>True) (λrec i s hi _ hr=>?_) (λrec s _=>?_) n 0 (-1) (yp _) (by omega) trivial
 ·simpa [zK,effP] using this
 ·simp only [zK.l1,zk hi,if_true,za hi,ya,around9,yj,yr,grd,yf,zb (i:=i) (by omega),hr x.delta[i].cell trivial];rw [zh hi,deltaP];by_cases h:(decide (s<x.delta[i].cell)&&decide (x.delta[i].cell<(l.length:Int))&&(x.delta[i].add != 0)&&zar x.delta[i].add 1000000000)=true
  ·rw [h,yE];simp only [yb,yd,bne_iff_ne] at h;rw [if_neg (by simp [h.2,h.1.2];omega)]
  ·rw [if_pos (by
    simp only [yb,yd,bne_iff_ne,ne_eq] at h;simp only [yw,yd,beq_iff_eq,yz,← yC];by_cases ha:zar x.delta[i].add 1000000000=true
    ·left;simp only [ha,and_true] at h;omega
    ·exact .inr ha)]
   simp only [yC] at h;rw [h];rfl
 ·simp only [zK.l1,zad,ye,if_false,T,List.drop_length,deltaP,yE]
theorem ref_effect_eq {n m x} (hn:1000000≤n) (hS:SmallM m) (hL:zaV m.sorts m.tables=true) (h1:x.delta.length≤1000) (h2:x.updates.length≤1000) (h3:x.hold.length≤1000) (h4:∀ r∈x.hold,r.terms.length≤1000):z9 n m x=some (effP m (zA m.sorts true m.tables).length x):=by
 have htl:=hS.tables;have hsl:=hS.sorts;have hcs:∀ t∈m.tables,t.columns.length≤1000∧t.name.length≤4096:=λt ht=>by have:=hS.tab t ht;omega
 unfold z9 zcr;rw [zeZ hn (by omega) (by omega) hcs,hL,if_pos rfl];generalize zA m.sorts true m.tables=l;simp only [ya];have T3:loopF (z9.l3 n m x) n 0=some (updsP m (-1) x.updates&&(decide (x.hold.length≤8)&&decide (x.updates.length≤32))):=by
  have:=zbo (body:=z9.l3 n m x) (len:=x.updates.length) (st:=λ(_:Int) i=>(i:Int)) (g:=λi s=>some (updsP m s (x.updates.drop i)&&(decide (x.hold.length≤8)&&decide (x.updates.length≤32)))) (λi s=>-1≤s∧((i=0∧s = -1)∨(0<i∧∃ y,idx x.updates (sub64 (i:Int) 1)=some y∧y.cell=s))) (λrec i s hi hI hr=>?_) (λrec s _=>?_) n 0 (-1) (yp _) (by omega) ⟨by omega,.inl ⟨rfl,rfl⟩⟩
  ·simpa using this
  ·obtain ⟨h1,h2⟩:=hI;have hprev:(decide (0<(i:Int))&&decide (x.updates[i].cell≤((idx x.updates (sub64 (i:Int) 1)).getD default).cell))=(decide (0<i)&&decide (x.updates[i].cell≤s))∧(!(decide (0<(i:Int)))||(idx x.updates (sub64 (i:Int) 1)).isSome)=true:=by
    rcases h2 with ⟨h2,h3⟩ | ⟨h2,y,h3,h4⟩
    ·subst h2;simp
    ·rw [h3];simp [h4,h2]
   have hnext:(-1≤x.updates[i].cell)→rec ((i+1:Nat):Int)=some (updsP m x.updates[i].cell (x.updates.drop (i+1))&&(decide (x.hold.length≤8)&&decide (x.updates.length≤32))):=λh=>hr x.updates[i].cell ⟨h,.inr ⟨by omega,x.updates[i],by
     rw [sub64_1 (by omega) (by omega),show i+1 - 1=i by omega,za hi],rfl⟩⟩
   simp only [z9.l3,zk hi,if_true,za hi,ya,ref09_Tuple_eq (cell:=x.updates[i].cell) (s:=false) hn (show m.sorts.length≤1000 by omega) (show m.tables.length≤1000 by omega) hcs,hprev.1,hprev.2,yr,grd,ref13_set,zb (i:=i) (by omega)];rw [zh hi,updsP];unfold updP;cases hok:(cellP m.sorts m.tables false x.updates[i].cell).2.2 with
   | false=>simp
   | true=>
    obtain ⟨t,ht⟩:=cellP_idx hok;have hge:0≤x.updates[i].cell:=by
     by_cases h:x.updates[i].cell<0
     ·rw [cellP_neg h] at hok;cases hok
     ·omega
    have hasc:(decide (0<i)&&decide (x.updates[i].cell≤s)) = !decide (s<x.updates[i].cell):=by
     rw [← decide_not,← Bool.decide_and];refine decide_eq_decide.2 ?_;rcases h2 with ⟨h2,h3⟩ | ⟨h2,-⟩ <;> omega
    rw [hasc,hnext (by omega)];simp only [ht,y6,uk,ya,yf,yE];cases decide (s<x.updates[i].cell) with
    | false=>simp
    | true=>
     simp only [y6,ye,if_false,yE];unfold updT;by_cases hset:(t.kind==2||t.kind==3)=true
     ·rw [hset];simp only [if_true,yE,y6,yX,ye,if_false];cases hk0:(x.updates[i].kind==0) <;> cases hk1:(x.updates[i].kind==1) <;> cases hv:(x.updates[i].value==0) <;> simp [bne,hk0,hk1,hv]
     ·simp only [yC] at hset;rw [hset];simp only [yX,ye,if_false,uB,yE];have e1:decide (x.updates[i].value<t.range.lo) = !decide (t.range.lo≤x.updates[i].value):=by rw [← decide_not];exact decide_eq_decide.2 (by omega)
      have e2:decide (t.range.hi<x.updates[i].value) = !decide (x.updates[i].value≤t.range.hi):=by rw [← decide_not];exact decide_eq_decide.2 (by omega)
      rw [e1,e2];cases hk0:(x.updates[i].kind==2) <;> cases decide (t.range.lo≤x.updates[i].value) <;> cases decide (x.updates[i].value≤t.range.hi) <;> simp [bne,hk0]
  ·simp only [z9.l3,zad,ye,if_false,List.drop_length,updsP,yE,yk];congr 1
   ·exact decide_eq_decide.2 (by omega)
   ·exact decide_eq_decide.2 (by omega)
 have T2:loopF (z9.l2 n m x l) n 0=if x.hold.all (rowOK l.length)=true then some (updsP m (-1) x.updates&&(decide (x.hold.length≤8)&&decide (x.updates.length≤32))) else some false:=by
  have:=zaj (body:=z9.l2 n m x l) (l:=x.hold) (n:=n) (st:=λi=>(i:Int)) (rowOK l.length) (some false) (some (updsP m (-1) x.updates&&(decide (x.hold.length≤8)&&decide (x.updates.length≤32)))) (λrec i hi=>?_) (λrec=>?_) (by omega)
  ·simpa using this
  ·simp only [z9.l2,zk hi,if_true,za hi,ya,ref_row_eq (show x.hold[i].terms.length<1000000 by have:=h4 _ (yg hi);omega) hn,zb (i:=i) (by omega)];cases rowOK l.length x.hold[i] <;> simp
  ·simp only [z9.l2,zad,ye,if_false,T3]
 have:=zbo (body:=z9.l1 n m x l) (len:=x.delta.length) (st:=λ(_:Int) i=>(i:Int)) (g:=λi s=>some (deltaP l.length s (x.delta.drop i)&&(updsP m (-1) x.updates&&(decide (x.hold.length≤8)&&decide (x.updates.length≤32)&&x.hold.all (rowOK l.length))))) (λi s=>-1≤s∧((i=0∧s = -1)∨(0<i∧∃ y,idx x.delta (sub64 (i:Int) 1)=some y∧y.cell=s))) (λrec i s hi hI hr=>?_) (λrec s _=>?_) n 0 (-1) (yp _) (by omega) ⟨by omega,.inl ⟨rfl,rfl⟩⟩
 ·simpa [effP] using this
 ·obtain ⟨h1,h2⟩:=hI;have hprev:(decide (0<(i:Int))&&decide (x.delta[i].cell≤((idx x.delta (sub64 (i:Int) 1)).getD default).cell))=(decide (0<i)&&decide (x.delta[i].cell≤s))∧(!(decide (0<(i:Int)))||(idx x.delta (sub64 (i:Int) 1)).isSome)=true:=by
   rcases h2 with ⟨h2,h3⟩ | ⟨h2,y,h3,h4⟩
   ·subst h2;simp
   ·rw [h3];simp [h4,h2]
  simp only [z9.l1,zk hi,if_true,za hi,ya,between9,yj,yr,grd,yf,hprev.1,hprev.2,zb (i:=i) (by omega)];rw [zh hi,deltaP];by_cases h:(decide (s<x.delta[i].cell)&&decide (x.delta[i].cell<(l.length:Int))&&(x.delta[i].add != 0)&&zar x.delta[i].add 1000000000)=true
  ·rw [h,yE];simp only [yb,yd,bne_iff_ne] at h;rw [if_neg (by simp [h.2,h.1.2];omega),hr x.delta[i].cell ⟨by omega,.inr ⟨by omega,x.delta[i],by
    rw [sub64_1 (by omega) (by omega),show i+1 - 1=i by omega,za hi],rfl⟩⟩]
  ·rw [if_pos (by
    simp only [yb,yd,bne_iff_ne,ne_eq] at h;simp only [yw,yb,yd,beq_iff_eq,yz,← yC];by_cases ha:zar x.delta[i].add 1000000000=true
    ·left;simp only [ha,and_true] at h;rcases h2 with ⟨h2,h3⟩ | ⟨h2,-⟩ <;> omega
    ·exact .inr ha)]
   simp only [yC] at h;rw [h];rfl
 ·simp only [z9.l1,zad,ye,if_false,T2,List.drop_length,deltaP,yE];cases x.hold.all (rowOK l.length) <;> simp
def cmpP:List Int→List Int→Int
 | [],[]=>0
 | [],_::_=>-1
 | _::_,[]=>1
 | x::l,y::k=>if x<y then -1 else if y<x then 1 else cmpP l k
def lessP:List Int→List Int→Bool
 | [],[]=>false
 | [],_::_=>true
 | _::_,[]=>false
 | x::l,y::k=>if x=y then lessP l k else decide (x<y)
theorem cmp_less:∀ a b:List Int,decide (0≤cmpP a b) = !lessP a b
 | [],[]=>rfl
 | [],_::_=>rfl
 | _::_,[]=>rfl
 | x::l,y::k=>by
  simp only [cmpP,lessP];by_cases h:x=y
  ·subst h;simp [cmp_less l k]
  ·by_cases h2:x<y
   ·simp [h,h2]
   ·have:y<x:=by omega
    simp [h,h2,this]
theorem Compare_eq {n a b} (hl:a.length<1000000) (hn:1000000≤n):zl n a b=some (cmpP a b):=by
 have:=zE (body:=zl.l1 n a b) (len:=a.length) (st:=λi=>(i:Int)) (g:=λi=>some (cmpP (a.drop i) (b.drop i))) (λrec i hi hr=>?_) (λrec=>?_) n 0 (yp _) (by omega)
 ·simpa [zl] using this
 ·simp only [zl.l1,zk hi,if_true,za hi,ya,zb (i:=i) (by omega),hr];rw [zh hi];by_cases hb:i<b.length
  ·rw [if_neg (by simp;omega),za hb,zh hb];simp only [ya,zci,zdJ,bne_self_eq_false,ye,if_false,cmpP,yd];by_cases h1:a[i]<b[i]
   ·simp [h1]
   ·by_cases h2:b[i]<a[i]
    ·simp [h1,h2]
    ·simp [h1,h2]
  ·rw [if_pos (by simp;omega),show b.drop i=[] from List.drop_eq_nil_of_le (by omega)];rfl
 ·simp only [zl.l1,zad,ye,if_false,List.drop_length];by_cases hb:a.length<b.length
  ·rw [if_pos (by simpa using hb),zh hb];rfl
  ·rw [if_neg (by simpa using hb),List.drop_eq_nil_of_le (by omega)];rfl
theorem ref_less_eq {n a b} (hl:a.length<1000000) (hn:1000000≤n):zb3 n a b=some (lessP a b):=by
 have:=zE (body:=zb3.l1 n a b) (len:=min a.length b.length) (st:=λi=>(i:Int)) (g:=λi=>some (lessP (a.drop i) (b.drop i))) (λrec i hi hr=>?_) (λrec=>?_) n 0 (yp _) (by omega)
 ·simpa [zb3] using this
 ·have ha:i<a.length:=by omega
  have hb:i<b.length:=by omega
  simp only [zb3.l1,zk ha,zk hb,uN,if_true,za ha,za hb,ya,zb (i:=i) (by omega),hr];rw [zh ha,zh hb];by_cases h:a[i]=b[i]
  ·simp [h,lessP]
  ·simp [h,lessP]
 ·simp only [zb3.l1];rw [if_neg (by simp;omega)];by_cases ha:a.length≤b.length
  ·rw [Nat.min_eq_left ha,List.drop_length];by_cases hb:a.length<b.length
   ·rw [zh hb];simp [lessP,hb]
   ·rw [List.drop_eq_nil_of_le (by omega)];simp [lessP];omega
  ·rw [Nat.min_eq_right (by omega),List.drop_length,zh (by omega)];simp [lessP];omega
def argP (m:Model) (s x:Int):Bool:=(!decide (s<0)||zar x 9999)&&(!decide (0≤s)||(decide (0≤x)&&decide (x<(idx m.sorts s).getD default)))
def argsP (m:Model):List Int→List Int→Bool
 | s::l,x::k=>argP m s x&&argsP m l k
 | _,_=>true
def opAt (m:Model) (a:Action):Operation:=(idx m.operations a.operation).getD default
def ordP (b a:Action):Bool:=!decide (a.operation<b.operation)&&(!(b.operation==a.operation)||lessP b.arguments a.arguments)
def actP (m:Model) (K:Nat) (i:Nat) (a:Action):Bool:=
 (decide (0≤a.operation)&&decide (a.operation<(m.operations.length:Int)))&&(a.arguments.length==(opAt m a).sorts.length)&&argsP m (opAt m a).sorts a.arguments&&(decide (i=0)||ordP ((idx m.actions ((i - 1:Nat):Int)).getD default) a)&&effP m K a.effect
def actsP (m:Model) (K:Nat):Bool:=decide (m.actions.length≤256)&&allR (λi=>actP m K i ((idx m.actions (i:Int)).getD default)) 0 m.actions.length
theorem argsP_drop {m} {s x:List Int} {k:Nat} (h1:k<s.length) (h2:k<x.length):argsP m (s.drop k) (x.drop k)=(argP m s[k] x[k]&&argsP m (s.drop (k+1)) (x.drop (k+1))):=by
 rw [zh h1,zh h2];rfl
theorem opAt_idx {m a} (h:(decide (0≤a.operation)&&decide (a.operation<(m.operations.length:Int)))=true):idx m.operations a.operation=some (opAt m a)∧opAt m a∈m.operations:=by
 simp only [yb,yd] at h;obtain ⟨o,ho⟩:=zbc h.1 h.2;refine ⟨by rw [ho,opAt,ho];rfl,?_⟩;rw [opAt,ho];exact zaf ho
theorem idx_sort {m:Model} {s:Int} (h0:0≤s) (h:s<(m.sorts.length:Int)):idx m.sorts s=some ((idx m.sorts s).getD default):=by
 obtain ⟨x,hx⟩:=zbc h0 h;rw [hx];rfl
theorem opsP_sorts {m} (h:opsP m=true):∀ o∈m.operations,o.sorts.length≤3∧∀ s∈o.sorts,-1≤s∧s<(m.sorts.length:Int):=by
 simp only [opsP,yb,yi] at h;intro o ho;have:=h.1 o ho;simp only [opP,yb,yd,yi] at this;exact this
theorem ord_model {b a}:((decide (a.operation<b.operation))||((b.operation==a.operation)&&(decide (0≤cmpP b.arguments a.arguments)))) = !ordP b a:=by
 rw [cmp_less];unfold ordP;cases decide (a.operation<b.operation) <;> cases (b.operation==a.operation) <;> cases lessP b.arguments a.arguments <;> rfl
theorem ord_ref {b a}:((decide (a.operation<b.operation))||((b.operation==a.operation)&&(!lessP b.arguments a.arguments))) = !ordP b a:=by
 unfold ordP;cases decide (a.operation<b.operation) <;> cases (b.operation==a.operation) <;> cases lessP b.arguments a.arguments <;> rfl
theorem model_actions_eq {n:Nat} {m} {l:List Range} (hF:Fuel n) (hS:SmallM m) (hO:opsP m=true):zy n ⟨m,l⟩=some (actsP m l.length):=by
 have hn:=hF.big;have hal:=hS.actions;unfold zy actsP;by_cases h0:m.actions.length≤256
 ·rw [if_neg (by simp;omega),decide_eq_true h0,yE];have:=zfW (body:=zy.l1 n ⟨m,l⟩) (len:=m.actions.length) (n:=n) (st:=λi=>(i:Int)) (λi=>actP m l.length i ((idx m.actions (i:Int)).getD default)) (some false) (some true) (λrec i hi=>?_) (λrec=>?_) (by omega)
  ·simp only [Int.natCast_zero] at this;rw [this];cases allR (λi=>actP m l.length i ((idx m.actions (i:Int)).getD default)) 0 m.actions.length <;> rfl
  ·have hmem:=yg hi;obtain ⟨a1,a2,a3,a4,a5⟩:=hS.act _ hmem;simp only [zy.l1,zk hi,if_true,za hi,ya,zas,yf];unfold actP;cases hop:(decide (0≤m.actions[i].operation)&&decide (m.actions[i].operation<(m.operations.length:Int))) with
   | false=>simp [grd]
   | true=>
    obtain ⟨ho,hom⟩:=opAt_idx hop;obtain ⟨o1,o2⟩:=opsP_sorts hO _ hom;simp only [ho,yj,yr,grd,if_true,yf,y6,uk,yE,ya];by_cases hlen:m.actions[i].arguments.length=(opAt m m.actions[i]).sorts.length
    ·rw [if_neg (by simp [hlen])];have hle:(m.actions[i].arguments.length==(opAt m m.actions[i]).sorts.length)=true:=by simp [hlen]
     rw [hle,yE];have inner:=zE (body:=zy.l2 n ⟨m,l⟩ i rec m.actions[i] (opAt m m.actions[i])) (len:=(opAt m m.actions[i]).sorts.length) (st:=λk=>(k:Int)) (g:=λk=>if argsP m ((opAt m m.actions[i]).sorts.drop k) (m.actions[i].arguments.drop k)=true then (if ((decide (i=0)||ordP ((idx m.actions ((i - 1:Nat):Int)).getD default) m.actions[i])&&effP m l.length m.actions[i].effect)=true then rec ((i+1:Nat):Int) else some false) else some false) (λrec' k hk hr'=>?_) (λrec'=>?_) n 0 (yp _) (by omega)
     ·simp only [Int.natCast_zero,List.drop_zero] at inner;rw [inner];cases argsP m (opAt m m.actions[i]).sorts m.actions[i].arguments <;> simp
     ·have hk2:k<m.actions[i].arguments.length:=by omega
      have hs2:=o2 _ (yg hk);simp only [zy.l2,zk hk,if_true,za hk,za hk2,ya,around4,yj,yr,grd,yf,zb (i:=k) (by omega),hr',zas];rw [argsP_drop hk hk2];unfold argP;by_cases hneg:(opAt m m.actions[i]).sorts[k]<0
      ·have hd1:decide ((opAt m m.actions[i]).sorts[k]<0)=true:=by simp [hneg]
       have hd2:decide (0≤(opAt m m.actions[i]).sorts[k])=false:=by simp;omega
       rw [hd1,hd2];cases zar m.actions[i].arguments[k] 9999 <;> simp
      ·have hd1:decide ((opAt m m.actions[i]).sorts[k]<0)=false:=by simp;omega
       have hd2:decide (0≤(opAt m m.actions[i]).sorts[k])=true:=by simp;omega
       obtain ⟨z,hz⟩:=zbc (l:=m.sorts) (i:=(opAt m m.actions[i]).sorts[k]) (by omega) hs2.2;rw [hz,hd1,hd2];by_cases h1:0≤m.actions[i].arguments[k]
       ·by_cases h2:m.actions[i].arguments[k]<z
        ·have h2':¬ z≤m.actions[i].arguments[k]:=by omega
         simp [h1,h2,h2']
        ·have h2':z≤m.actions[i].arguments[k]:=by omega
         simp [h1,h2,h2']
       ·simp [h1]
     ·simp only [zy.l2,zad,ye,if_false,jn,List.drop_length];rw [model_effect_eq hF hS (by omega) (by omega) (by omega) (λr hr=>by have:=a5 r hr;omega)];simp only [ya,zb (i:=i) (by omega)];have hargs:argsP m [] (m.actions[i].arguments.drop (opAt m m.actions[i]).sorts.length)=true:=rfl;rw [hargs,if_pos rfl];by_cases h0i:i=0
      ·subst h0i;rw [if_neg (by simp)];cases effP m l.length m.actions[0].effect <;> simp
      ·rw [if_pos (by simp;omega),sub64_1 (by omega) (by omega)];have hi1:i - 1<m.actions.length:=by omega
       have b1:=(hS.act _ (yg hi1)).1;simp only [za hi1,ya,ord_model,yf,Compare_eq (a:=m.actions[i - 1].arguments) (b:=m.actions[i].arguments) (show m.actions[i - 1].arguments.length<1000000 by omega) (show 1000000≤n by omega),yj,yr,if_true,h0i,decide_false,uk];cases ordP m.actions[i - 1] m.actions[i] <;> cases effP m l.length m.actions[i].effect <;> simp [grd]
    ·rw [if_pos (by simp;omega)];have hle:(m.actions[i].arguments.length==(opAt m m.actions[i]).sorts.length)=false:=by simp [hlen]
     rw [hle];simp
  ·simp [zy.l1]
 ·rw [if_pos (by simp;omega),decide_eq_false h0,yX]
theorem ref13_actions_eq {n:Nat} {m:Model} (hn:1000000≤n) (hS:SmallM m) (hL:zaV m.sorts m.tables=true):zu n m=some (opsP m&&actsP m (zA m.sorts true m.tables).length):=by
 have hal:=hS.actions;have hol:=hS.operations;have hef:∀ a∈m.actions,z9 n m a.effect=some (effP m (zA m.sorts true m.tables).length a.effect):=λa ha=>by
  obtain ⟨a1,a2,a3,a4,a5⟩:=hS.act _ ha;exact ref_effect_eq hn hS hL (by omega) (by omega) (by omega) (λr hr=>by have:=a5 r hr;omega)
 generalize (zA m.sorts true m.tables).length=K at hef;have T:opsP m=true→loopF (zu.l3 n m) n 0=some (allR (λi=>actP m K i ((idx m.actions (i:Int)).getD default)) 0 m.actions.length):=λhO=>by
  have:=zfW (body:=zu.l3 n m) (len:=m.actions.length) (n:=n) (st:=λi=>(i:Int)) (λi=>actP m K i ((idx m.actions (i:Int)).getD default)) (some false) (some true) (λrec i hi=>?_) (λrec=>?_) (by omega)
  ·simp only [Int.natCast_zero] at this;rw [this];cases allR (λi=>actP m K i ((idx m.actions (i:Int)).getD default)) 0 m.actions.length <;> rfl
  ·have hmem:=yg hi;obtain ⟨a1,a2,a3,a4,a5⟩:=hS.act _ hmem;simp only [zu.l3,zk hi,if_true,za hi,ya,yf];have hneg:(decide (m.actions[i].operation<0)||decide ((m.operations.length:Int)≤m.actions[i].operation)) = !(decide (0≤m.actions[i].operation)&&decide (m.actions[i].operation<(m.operations.length:Int))):=by
    rw [Bool.not_and,← decide_not,← decide_not];congr 1
    ·exact decide_eq_decide.2 (by omega)
    ·exact decide_eq_decide.2 (by omega)
   rw [hneg];unfold actP;cases hop:(decide (0≤m.actions[i].operation)&&decide (m.actions[i].operation<(m.operations.length:Int))) with
   | false=>simp [grd]
   | true=>
    obtain ⟨ho,hom⟩:=opAt_idx hop;obtain ⟨o1,o2⟩:=opsP_sorts hO _ hom;simp only [ho,yj,yr,grd,if_true,yf,y6,uk,yE];by_cases hlen:m.actions[i].arguments.length=(opAt m m.actions[i]).sorts.length
    ·rw [if_neg (by simp [hlen])];have hle:(m.actions[i].arguments.length==(opAt m m.actions[i]).sorts.length)=true:=by simp [hlen]
     rw [hle,yE];have inner:=zE (body:=zu.l4 n m i rec m.actions[i]) (len:=m.actions[i].arguments.length) (st:=λk=>(k:Int)) (g:=λk=>if argsP m ((opAt m m.actions[i]).sorts.drop k) (m.actions[i].arguments.drop k)=true then (if ((decide (i=0)||ordP ((idx m.actions ((i - 1:Nat):Int)).getD default) m.actions[i])&&effP m K m.actions[i].effect)=true then rec ((i+1:Nat):Int) else some false) else some false) (λrec' k hk2 hr'=>?_) (λrec'=>?_) n 0 (yp _) (by omega)
     ·simp only [Int.natCast_zero,List.drop_zero] at inner;rw [inner];cases argsP m (opAt m m.actions[i]).sorts m.actions[i].arguments <;> simp
     ·have hk:k<(opAt m m.actions[i]).sorts.length:=by omega
      have hs2:=o2 _ (yg hk);simp only [zu.l4,zk hk2,if_true,ho,za hk,za hk2,ya,between4,yj,yr,grd,yf,zb (i:=k) (by omega),hr'];rw [argsP_drop hk hk2];unfold argP;by_cases hneg:(opAt m m.actions[i]).sorts[k]<0
      ·have hd1:decide ((opAt m m.actions[i]).sorts[k]<0)=true:=by simp [hneg]
       have hd2:decide (0≤(opAt m m.actions[i]).sorts[k])=false:=by simp;omega
       rw [hd1,hd2];cases zar m.actions[i].arguments[k] 9999 <;> simp
      ·have hd1:decide ((opAt m m.actions[i]).sorts[k]<0)=false:=by simp;omega
       have hd2:decide (0≤(opAt m m.actions[i]).sorts[k])=true:=by simp;omega
       rw [idx_sort (m:=m) (s:=(opAt m m.actions[i]).sorts[k]) (by omega) hs2.2,hd1,hd2];simp only [yf];generalize (idx m.sorts (opAt m m.actions[i]).sorts[k]).getD default=z;by_cases h1:m.actions[i].arguments[k]<0
       ·have h1':¬ 0≤m.actions[i].arguments[k]:=by omega
        simp [h1,h1']
       ·have h1':0≤m.actions[i].arguments[k]:=by omega
        by_cases h2:z≤m.actions[i].arguments[k]
        ·have h2':¬ m.actions[i].arguments[k]<z:=by omega
         simp [h1,h1',h2,h2']
        ·have h2':m.actions[i].arguments[k]<z:=by omega
         simp [h1,h1',h2,h2']
     ·simp only [zu.l4,zad,ye,if_false,jn,List.drop_length,hef _ hmem];simp only [ya,zb (i:=i) (by omega)];have hargs:argsP m ((opAt m m.actions[i]).sorts.drop m.actions[i].arguments.length) []=true:=by cases (opAt m m.actions[i]).sorts.drop m.actions[i].arguments.length <;> rfl
      rw [hargs,if_pos rfl];by_cases h0i:i=0
      ·subst h0i;rw [if_neg (by simp)];cases effP m K m.actions[0].effect <;> simp
      ·rw [if_pos (by simp;omega),sub64_1 (by omega) (by omega)];have hi1:i - 1<m.actions.length:=by omega
       have b1:=(hS.act _ (yg hi1)).1;simp only [za hi1,ya,ord_ref,yf,ref_less_eq (a:=m.actions[i - 1].arguments) (b:=m.actions[i].arguments) (show m.actions[i - 1].arguments.length<1000000 by omega) (show 1000000≤n by omega),yj,yr,if_true,h0i,decide_false,uk];cases ordP m.actions[i - 1] m.actions[i] <;> cases effP m K m.actions[i].effect <;> simp [grd]
    ·rw [if_pos (by simp;omega)];have hle:(m.actions[i].arguments.length==(opAt m m.actions[i]).sorts.length)=false:=by simp [hlen]
     rw [hle];simp
  ·simp [zu.l3]
 unfold zu;have:=zaj (body:=zu.l1 n m) (l:=m.operations) (n:=n) (st:=λi=>((m.operations.take i).map (·.name),(i:Int))) (opP m) (some false) (if (decide (m.operations.length≤8)&&distP [] (m.operations.map (·.name))&&decide (m.actions.length≤256))=true then loopF (zu.l3 n m) n 0 else some false) (λrec i hi=>?_) (λrec=>?_) (by omega)
 ·simp only [List.take_zero,List.map_nil,Int.natCast_zero] at this;rw [this];unfold actsP;cases hO:opsP m with
  | true=>
   have hO':=hO;simp only [opsP,yb] at hO';rw [hO'.1,hO'.2.1,hO'.2.2,T hO];cases decide (m.actions.length≤256) <;> rfl
  | false=>
   unfold opsP at hO;cases h1:m.operations.all (opP m) with
   | false=>simp
   | true=>
    rw [h1,yE] at hO;rw [hO];simp
 ·have hop:=hS.op _ (yg hi);simp only [zu.l1,zk hi,if_true,za hi,ya];rw [zr (by simp;omega),ya,zdR hi];generalize hX:(m.operations.take (i+1)).map (·.name)=X;have inner:=zaj (body:=zu.l2 n m i rec m.operations[i] X) (l:=m.operations[i].sorts) (n:=n) (st:=λk=>(k:Int)) (λs=>decide (-1≤s)&&decide (s<(m.sorts.length:Int))) (some false) (if decide (m.operations[i].sorts.length≤3)=true then rec (X,((i+1:Nat):Int)) else some false) (λrec' k hk=>?_) (λrec'=>?_) (by omega)
  ·simp only [Int.natCast_zero] at inner;rw [inner];unfold opP;cases decide (m.operations[i].sorts.length≤3) <;> cases (m.operations[i].sorts.all λs=>decide (-1≤s)&&decide (s<(m.sorts.length:Int))) <;> simp
  ·simp only [zu.l2,zk hk,if_true,za hk,ya,yj,yr,grd,yf,zb (i:=k) (by omega)];have e1:decide (m.operations[i].sorts[k] < -1) = !decide (-1≤m.operations[i].sorts[k]):=by rw [← decide_not];exact decide_eq_decide.2 (by omega)
   have e2:decide ((m.sorts.length:Int)≤m.operations[i].sorts[k]) = !decide (m.operations[i].sorts[k]<(m.sorts.length:Int)):=by rw [← decide_not];exact decide_eq_decide.2 (by omega)
   rw [e1,e2];cases decide (-1≤m.operations[i].sorts[k]) <;> cases decide (m.operations[i].sorts[k]<(m.sorts.length:Int)) <;> simp
  ·simp only [zu.l2,zad,ye,if_false,zb (i:=i) (by omega)];by_cases h3:m.operations[i].sorts.length≤3
   ·rw [if_neg (by simp;omega),if_pos (by simp [h3])]
   ·rw [if_pos (by simp;omega),if_neg (by simp [h3])]
 ·simp only [zu.l1,zad,ye,if_false,List.take_length];rw [zf2 hn (by simp;omega) (λw hw=>by
   simp only [yN] at hw;obtain ⟨o,ho,rfl⟩:=hw;have:=(hS.op o ho).1;omega)]
  simp only [yj,yr,grd,if_true,yf];have e1:decide (8<(m.operations.length:Int)) = !decide (m.operations.length≤8):=by rw [← decide_not];exact decide_eq_decide.2 (by omega)
  have e2:decide (256<(m.actions.length:Int)) = !decide (m.actions.length≤256):=by rw [← decide_not];exact decide_eq_decide.2 (by omega)
  rw [e1,e2];cases decide (m.operations.length≤8) <;> cases distP [] (m.operations.map (·.name)) <;> cases decide (m.actions.length≤256) <;> simp
def zaT (hs:List Hide):Nat→Int→Int→Bool
 | 0,a,b=>a==b
 | k+1,a,b=>a==b||hs.any λh=>h.table==a&&zaT hs k h.to b
def hideP (m:Model) (h:Hide):Bool:=
 (((decide (0≤h.table)&&decide (h.table<(m.tables.length:Int)))&&(decide (0≤h.to)&&decide (h.to<(m.tables.length:Int))))&&(h.table != h.to)) &&
 (((((idx m.tables h.table).getD default).kind==0)&&(((idx m.tables h.to).getD default).kind==0))&&((decide (0≤h.column)&&decide (h.column<(((idx m.tables h.table).getD default).columns.length:Int)))&&(((((idx m.tables h.to).getD default).columns.length:Int)==1)&&((idx ((idx m.tables h.to).getD default).columns 0).getD default==(idx ((idx m.tables h.table).getD default).columns h.column).getD default))))
def hidesP (m:Model):Bool:=decide (m.hides.length≤12)&&(m.hides.all (hideP m)&&m.hides.all λh=>!zaT m.hides m.tables.length h.to h.table)
theorem leads_loop {m n self a b k} (hl:m.hides.length<n) (hl2:m.hides.length<1000000) (hk:k+1<1000000) (hself:∀ x,self m x b (k:Int)=some (zaT m.hides k x b)) :
  loopF (zaD.l1 n self m a b ((k+1:Nat):Int)) n 0=some (m.hides.any λh=>h.table==a&&zaT m.hides k h.to b):=by
 have:=zE (body:=zaD.l1 n self m a b ((k+1:Nat):Int)) (len:=m.hides.length) (st:=λi=>(i:Int)) (g:=λi=>some ((m.hides.drop i).any λh=>h.table==a&&zaT m.hides k h.to b)) (λrec i hi hr=>?_) (λrec=>?_) n 0 (yp _) (by omega)
 ·simpa using this
 ·have h0:decide (0<((k+1:Nat):Int))=true:=by simp
  have hsub:sub64 ((k+1:Nat):Int) 1=(k:Int):=by rw [sub64_1 (by omega) (by omega)];simp
  simp only [zaD.l1,zk hi,h0,uN,if_true,za hi,ya,yj,yr,grd,yf,hsub,hself,zb (i:=i) (by omega),hr];rw [zh hi,uQ];cases (m.hides[i].table==a&&zaT m.hides k m.hides[i].to b) <;> simp
 ·simp [zaD.l1]
theorem ref_leads {m} (hl:m.hides.length<1000000):∀ (k n:Nat) (a b:Int),k<1000000→1000000+k<n→zaD n m a b (k:Int)=some (zaT m.hides k a b)
 | 0,0,_,_,_,h=>by omega
 | 0,n+1,a,b,_,h=>by
  simp only [zaD,zaD.body,zaT];by_cases e:a=b
  ·simp [e]
  ·rw [if_neg (by simpa using e)];have hh:(a==b)=false:=by simpa using e
   rw [zg3 (by omega),hh];simp [zaD.l1]
 | k+1,0,_,_,_,h=>by omega
 | k+1,n+1,a,b,hk,h=>by
  simp only [zaD,zaD.body,zaT];by_cases e:a=b
  ·simp [e]
  ·rw [if_neg (by simpa using e),leads_loop (by omega) hl hk λx=>ref_leads hl k n x b (by omega) (by omega)];have hh:(a==b)=false:=by simpa using e
   rw [hh,uk]
theorem hide_idx {m:Model} {h:Hide} (h0:0≤h.table∧h.table<(m.tables.length:Int)) (h1:0≤h.to∧h.to<(m.tables.length:Int)):∃ t u,idx m.tables h.table=some t∧idx m.tables h.to=some u:=by
 obtain ⟨t,ht⟩:=zbc h0.1 h0.2;obtain ⟨u,hu⟩:=zbc h1.1 h1.2;exact ⟨t,u,ht,hu⟩
theorem ref13_hidden_eq {n:Nat} {m:Model} (hn:4294967296≤n) (hS:SmallM m):zaA n m=some (hidesP m):=by
 have hhl:=hS.hides;have htl:=hS.tables;unfold zaA hidesP;rw [if_neg (by simp;omega),decide_eq_true hhl,yE];have T:loopF (zaA.l2 n m) n 0=some (m.hides.all λh=>!zaT m.hides m.tables.length h.to h.table):=by
  have:=zaj (body:=zaA.l2 n m) (l:=m.hides) (n:=n) (st:=λi=>(i:Int)) (λh=>!zaT m.hides m.tables.length h.to h.table) (some false) (some true) (λrec i hi=>?_) (λrec=>?_) (by omega)
  ·simp only [Int.natCast_zero] at this;rw [this];cases (m.hides.all λh=>!zaT m.hides m.tables.length h.to h.table) <;> rfl
  ·simp only [zaA.l2,zk hi,if_true,za hi,ya,ref_leads (m:=m) (by omega) m.tables.length n m.hides[i].to m.hides[i].table (by omega) (by omega),zb (i:=i) (by omega)];cases zaT m.hides m.tables.length m.hides[i].to m.hides[i].table <;> simp
  ·simp [zaA.l2]
 have:=zaj (body:=zaA.l1 n m) (l:=m.hides) (n:=n) (st:=λi=>(i:Int)) (hideP m) (some false) (some (m.hides.all λh=>!zaT m.hides m.tables.length h.to h.table)) (λrec i hi=>?_) (λrec=>?_) (by omega)
 ·simp only [Int.natCast_zero] at this;rw [this];cases m.hides.all (hideP m) <;> simp
 ·simp only [zaA.l1,zk hi,if_true,za hi,ya,zb (i:=i) (by omega)];generalize m.hides[i]=h;by_cases hb:(((0≤h.table∧h.table<(m.tables.length:Int))∧(0≤h.to∧h.to<(m.tables.length:Int)))∧h.table≠h.to)
  ·rw [if_neg (by simp;omega)];obtain ⟨t,u,ht,hu⟩:=hide_idx hb.1.1 hb.1.2;have hhp:hideP m h=(((t.kind==0)&&(u.kind==0))&&((decide (0≤h.column)&&decide (h.column<(t.columns.length:Int)))&&(((u.columns.length:Int)==1)&&((idx u.columns 0).getD default==(idx t.columns h.column).getD default)))):=by
    unfold hideP;rw [ht,hu];simp [hb]
   simp only [ht,hu,ya];rw [hhp];by_cases hk:(((t.kind==0)&&(u.kind==0))&&((decide (0≤h.column)&&decide (h.column<(t.columns.length:Int)))&&((u.columns.length:Int)==1)))=true
   ·have hk':=hk;simp only [yb,yd,beq_iff_eq] at hk';obtain ⟨⟨k1,k2⟩,⟨k3,k4⟩,k5⟩:=hk';obtain ⟨x,hx⟩:=zbc (l:=u.columns) (i:=0) (by omega) (by omega);obtain ⟨y,hy⟩:=zbc k3 k4;have n1:¬ h.column<0:=by omega
    have n2:¬ (t.columns.length:Int)≤h.column:=by omega
    simp only [k1,k2,k3,k4,k5,n1,n2,hx,hy,yf,decide_true,decide_false,beq_self_eq_true,bne_self_eq_false,yj,yr,uS,yE,grd,if_true];by_cases hxy:x=y
    ·simp [hxy]
    ·simp [hxy]
   ·have hf:(((((t.kind != 0)||(u.kind != 0))||(decide (h.column<0)))||(decide ((t.columns.length:Int)≤h.column)))||((u.columns.length:Int) != 1))=true:=by
     simp only [yb,yd,beq_iff_eq] at hk;simp only [yw,bne_iff_ne,yd];omega
    simp only [hf,uH,grd,if_true];rw [← Bool.and_assoc (decide (0≤h.column)&&decide (h.column<(t.columns.length:Int))),← Bool.and_assoc];simp only [yC] at hk;rw [hk];rfl
  ·rw [if_pos (by simp;omega)];have hhp:hideP m h=false:=by
    unfold hideP;cases hx:(((decide (0≤h.table)&&decide (h.table<(m.tables.length:Int)))&&(decide (0≤h.to)&&decide (h.to<(m.tables.length:Int))))&&(h.table != h.to)) with
    | false=>rfl
    | true=>
     simp only [yb,yd,bne_iff_ne] at hx;exact absurd hx hb
   rw [hhp];rfl
 ·simp only [zaA.l1,zad,ye,if_false,T]
theorem nodup_len:∀ (T:Nat) (l:List Int),l.Nodup→(∀ x∈l,0≤x∧x<(T:Int))→l.length≤T
 | 0,l,_,h=>by
  cases l with
  | nil=>simp
  | cons x l=>have:=h x (by simp);omega
 | T+1,l,hn,h=>by
  by_cases hm:(T:Int)∈l
  ·have h1:=nodup_len T (l.erase (T:Int)) (hn.erase _) (λx hx=>by
    have:=(hn.mem_erase_iff).1 hx;have:=h x this.2;omega)
   rw [List.length_erase_of_mem hm] at h1;omega
  ·have:=nodup_len T l hn (λx hx=>by
    have:=h x hx;have:x≠(T:Int):=λe=>hm (e▸hx)
    omega)
   omega
theorem leadsP_mono {hs}:∀ {k:Nat} {a b:Int},zaT hs k a b=true→zaT hs (k+1) a b=true
 | 0,a,b,h=>by
  simp only [zaT] at h;simp only [zaT,h,uH]
 | k+1,a,b,h=>by
  rw [zaT] at h ⊢;simp only [yw,uq,yb] at h ⊢;rcases h with h | ⟨x,hx,h1,h2⟩
  ·exact .inl h
  ·exact .inr ⟨x,hx,h1,leadsP_mono h2⟩
theorem leadsP_le {hs k j a b} (h:zaT hs k a b=true) (hkj:k≤j):zaT hs j a b=true:=by
 obtain ⟨d,rfl⟩:=Nat.exists_eq_add_of_le hkj;clear hkj
 induction d with
 | zero=>exact h
 | succ d ih=>exact leadsP_mono ih
theorem zgl {hs k a}:zaT hs k a a=true:=by cases k <;> simp [zaT]
theorem leadsP_snoc {hs h} (hh:h∈hs):∀ {k:Nat} {a:Int},zaT hs k a h.table=true→zaT hs (k+1) a h.to=true
 | 0,a,e=>by
  simp only [zaT,beq_iff_eq] at e;simp only [zaT,yw,uq,yb,beq_iff_eq];exact .inr ⟨h,hh,e.symm,rfl⟩
 | k+1,a,e=>by
  rw [zaT] at e ⊢;simp only [yw,uq,yb,beq_iff_eq] at e ⊢;rcases e with e | ⟨x,hx,h1,h2⟩
  ·exact .inr ⟨h,hh,e.symm,zgl⟩
  ·exact .inr ⟨x,hx,h1,leadsP_snoc hh h2⟩
def walkP (f:Int→Hide) (s:Int):Nat→Int
 | 0=>s
 | k+1=>(f (walkP f s k)).to
theorem sink_ex {hs:List Hide} {T:Nat} {S:List Int} (hS:S≠[]) (hb:∀ t∈S,0≤t∧t<(T:Int)) (hac:∀ h∈hs,zaT hs T h.to h.table=false):∃ t∈S,∀ h∈hs,¬ (h.table=t∧h.to∈S):=by
 apply Classical.byContradiction;intro hno;have hedge:∀ t,t∈S→∃ h,h∈hs∧h.table=t∧h.to∈S:=λt ht=>by
  apply Classical.byContradiction;intro hn;exact hno ⟨t,ht,λh hh he=>hn ⟨h,hh,he.1,he.2⟩⟩
 obtain ⟨s,hs0⟩:∃ s,s∈S:=by
  cases S with
  | nil=>exact absurd rfl hS
  | cons x l=>exact ⟨x,by simp⟩
 obtain ⟨f,hf⟩:∃ f:Int→Hide,∀ t,t∈S→f t∈hs∧(f t).table=t∧(f t).to∈S:=by
  refine ⟨λt=>if ht:t∈S then Classical.choose (hedge t ht) else default,λt ht=>?_⟩;simp only [ht,dite_true];exact Classical.choose_spec (hedge t ht)
 have hw:∀ k,walkP f s k∈S:=λk=>by
  induction k with
  | zero=>exact hs0
  | succ k ih=>exact (hf _ ih).2.2
 have hlead:∀ d i,zaT hs d (walkP f s i) (walkP f s (i+d))=true:=λd=>by
  induction d with
  | zero=>intro i;exact zgl
  | succ d ih=>
   intro i;simp only [zaT,yw,uq,yb,beq_iff_eq];refine .inr ⟨f (walkP f s i),(hf _ (hw i)).1,(hf _ (hw i)).2.1,?_⟩;have:=ih (i+1);rw [show i+1+d=i+(d+1) by omega] at this;exact this
 have hne:∀ i j,i<j→j≤T→walkP f s i≠walkP f s j:=λi j hij hj e=>by
  have h1:=hlead (j - i - 1) (i+1);rw [show i+1+(j - i - 1)=j by omega,← e] at h1;have h2:=hac _ (hf _ (hw i)).1;rw [(hf _ (hw i)).2.1] at h2;have h3:zaT hs T (f (walkP f s i)).to (walkP f s i)=true:=leadsP_le h1 (by omega);rw [h3] at h2;cases h2
 have hlen:=nodup_len T ((List.range (T+1)).map (walkP f s)) (by
  rw [List.Nodup,List.pairwise_map];exact List.Pairwise.imp_of_mem (λ{a b} _ hb hab=>hne a b hab (by have:=yJ.1 hb;omega)) List.pairwise_lt_range) (λx hx=>by
  simp only [yN] at hx;obtain ⟨k,-,rfl⟩:=hx;exact hb _ (hw k))
 simp at hlen;omega
def zcl (m:GMap Int Bool):List Int:=m.es.map λe=>e.2.1
structure WfM (m:GMap Int Bool):Prop where
 tru:∀ e∈m.es,e.2.2=true
 nd:(m.es.map (·.1)).Nodup
 lt:∀ e∈m.es,e.1<m.clock
theorem WfM.get {m} (h:WfM m) (k):(m.get? k).getD false=decide (k∈zcl m):=by
 unfold GMap.get?;rw [findK_get k m.es h.tru];rfl
theorem WfM.empty:WfM (GMap.empty:GMap Int Bool):=⟨λe he=>(by simp [GMap.empty] at he),by simp [GMap.empty],λe he=>(by simp [GMap.empty] at he)⟩
theorem findK_at (k):∀ (es:List (Nat×Int×Bool)) (p:Nat×Bool),findK k es=some p→∃ h:p.1<es.length,es[p.1].2.1=k
 | [],_,h=>by simp [findK] at h
 | e::es,p,h=>by
  simp only [findK] at h;split at h
  ·rename_i hk;cases h;exact ⟨by simp,hk.symm⟩
  ·simp only [Option.map_eq_some_iff] at h;obtain ⟨q,h1,rfl⟩:=h;obtain ⟨h2,h3⟩:=findK_at k es q h1;exact ⟨by simp only [yO];omega,by simpa using h3⟩
theorem modify_births (f) (hf:∀ e,(f e).1=e.1):∀ (es:List (Nat×Int×Bool)) (i:Nat),(es.modify i f).map (·.1)=es.map (·.1)
 | [],_=>by simp
 | e::es,0=>by simp [hf]
 | e::es,i+1=>by simp [modify_births f hf es i]
theorem WfM.put {m} (h:WfM m) (k):WfM (m.put k true)∧(m.put k true).es.length≤m.es.length+1∧∀ t,t∈zcl (m.put k true)↔t∈zcl m∨t=k:=by
 unfold GMap.put zcl;cases hk:findK k m.es with
 | none=>
  simp only [];refine ⟨⟨λe he=>?_,?_,λe he=>?_⟩,by simp,λt=>by simp⟩
  ·simp only [yK,yS] at he;rcases he with he | rfl
   ·exact h.tru e he
   ·rfl
  ·simp only [ul,yP,List.map_nil];rw [List.nodup_append];refine ⟨h.nd,by simp,λa ha b hb=>?_⟩;simp only [yS] at hb;subst hb;simp only [yN] at ha;obtain ⟨e,he,rfl⟩:=ha;have:=h.lt e he;omega
  ·simp only [yK,yS] at he;rcases he with he | rfl
   ·have:=h.lt e he;simp only [];omega
   ·simp
 | some p=>
  obtain ⟨i,b⟩:=p;simp only [];have hb:=modify_births (λe:Nat×Int×Bool=>(e.1,e.2.1,true)) (λe=>rfl) m.es i;refine ⟨⟨modify_all (p:=λe=>e.2.2=true) _ (λe=>rfl) m.es i h.tru,by rw [hb];exact h.nd,λe he=>?_⟩,by simp,λt=>?_⟩
  ·have:e.1∈m.es.map (·.1):=by rw [← hb];exact List.mem_map_of_mem he
   simp only [yN] at this;obtain ⟨x,hx,e1⟩:=this;have:=h.lt x hx;simp only [];omega
  ·rw [modify_keys (λe:Nat×Int×Bool=>(e.1,e.2.1,true)) (λe=>rfl) m.es i];constructor
   ·exact .inl
   ·rintro (h1 | rfl)
    ·exact h1
    ·exact findK_yes _ m.es _ hk
theorem WfM.del {m} (h:WfM m) {e} (he:e∈m.es):WfM (m.del e.2.1)∧(m.del e.2.1).clock=m.clock∧(m.del e.2.1).es.length+1=m.es.length∧(m.del e.2.1).es.Sublist m.es∧∀ t,t∈zcl m→t≠e.2.1→t∈zcl (m.del e.2.1):=by
 unfold GMap.del zcl;cases hk:findK e.2.1 m.es with
 | none=>exact absurd (List.mem_map_of_mem (f:=λe:Nat×Int×Bool=>e.2.1) he) (findK_no _ m.es hk)
 | some p=>
  obtain ⟨i,b⟩:=p;obtain ⟨hi,hik⟩:=findK_at _ m.es _ hk;simp only [] at hi hik ⊢;have hsub:=List.eraseIdx_sublist m.es i;refine ⟨⟨λx hx=>h.tru x (hsub.subset hx),(hsub.map _).nodup h.nd,λx hx=>h.lt x (hsub.subset hx)⟩,trivial,?_,hsub,λt ht hne=>?_⟩
  ·rw [List.length_eraseIdx_of_lt hi];omega
  ·simp only [yN] at ht ⊢;obtain ⟨x,hx,rfl⟩:=ht;obtain ⟨j,hj,rfl⟩:=List.mem_iff_getElem.1 hx;refine ⟨_,?_,rfl⟩;rw [List.mem_eraseIdx_iff_getElem];refine ⟨j,hj,λe1=>hne ?_,rfl⟩;subst e1;exact hik
theorem left_less {m m':GMap Int Bool} {seen:List Nat} {e:Nat×Int×Bool} (he:e∈m.left seen) (hs:m'.es.Sublist m.es):(m'.left (seen++[e.1])).length<(m.left seen).length:=by
 unfold GMap.left at he ⊢;have h1:(m'.es.filter λx=>!(seen++[e.1]).contains x.1).length≤(m.es.filter λx=>!(seen++[e.1]).contains x.1).length:=(hs.filter _).length_le;have h2:(m.es.filter λx=>!(seen++[e.1]).contains x.1)=(m.es.filter λx=>!seen.contains x.1).filter λx=>!(x.1==e.1):=by
  rw [List.filter_filter];congr 1;funext x;rw [Bool.eq_iff_iff];simp;constructor
  ·rintro ⟨a,b⟩;exact ⟨b,a⟩
  ·rintro ⟨a,b⟩;exact ⟨b,a⟩
 have h3:((m.es.filter λx=>!seen.contains x.1).filter λx=>!(x.1==e.1)).length<(m.es.filter λx=>!seen.contains x.1).length:=
  List.length_filter_lt_length_iff_exists.2 ⟨e,he,by simp⟩
 rw [h2] at h1;omega
theorem hidden_round {n:Nat} {j:Judge} {m0:GMap Int Bool} {i:Int} {rec:(GMap Int Bool×Int)→Option Bool} {r:Bool} (hn:1000000≤n) (hh:j.model.hides.length<1000000) (J:GMap Int Bool→List Nat→Prop)
  (hwf:∀ m seen,J m seen→WfM m∧m.clock=m0.clock) (hover:∀ m seen,J m seen→m.left seen=[]→rec (m,add64 i 1)=some r)
  (hstep:∀ m seen e,J m seen→e∈m.left seen→J (if (j.model.hides.any λh=>h.table==e.2.1&&decide (h.to∈zcl m))=true then m else m.del e.2.1) (seen++[e.1]))
  (h0:J m0 []) (hl:m0.es.length<1000000):loopF (ze.l4 n j m0 i rec) n (m0,[],m0.clock)=some r:=by
 refine zew (body:=ze.l4 n j m0 i rec) (λs=>(s.1.left s.2.1).length) (λs=>J s.1 s.2.1∧s.2.2=m0.clock) (λ_ o=>o=some r) (λrec' s hI hr=>?_) n _ ⟨h0,rfl⟩ ?_
 ·obtain ⟨m,seen,last⟩:=s;obtain ⟨hJ,hlast⟩:=hI;simp only [] at hJ hlast hr;subst hlast;obtain ⟨hw,hc⟩:=hwf m seen hJ;simp only [ze.l4,stepM];have hold:m.old m0.clock m0.clock=true:=by
   simp only [GMap.old,yb,yi,yd];exact ⟨λe he=>by have:=hw.lt e he;omega,yn _⟩
  rw [hold];unfold grd;rw [if_pos rfl];cases hleft:m.left seen with
  | nil=>
   simp only [List.isEmpty_nil,if_true];exact hover m seen hJ hleft
  | cons x l=>
   rw [← hleft,if_neg (by rw [hleft];simp)];refine chooseAll_all (by rw [hleft];simp) (λe he=>?_);have hem:e∈m.es:=(List.mem_filter.1 he).1;rw [if_pos (by simpa using hw.nd),zek (p:=λh=>h.table==e.2.1&&decide (h.to∈zcl m)) (λh _=>by
    unfold zde;rw [hw.get]) hh hn,ya]
   have hst:=hstep m seen e hJ he;cases hb:(j.model.hides.any λh=>h.table==e.2.1&&decide (h.to∈zcl m)) with
   | true=>
    rw [hb] at hst;rw [if_neg (by simp)];exact hr (m,seen++[e.1],m.clock) ⟨hst,hc⟩ (left_less he (List.Sublist.refl _))
   | false=>
    rw [hb] at hst;rw [if_pos (by simp)];exact hr (m.del e.2.1,seen++[e.1],m.clock) ⟨hst,hc⟩ (left_less he (hw.del hem).2.2.2.1)
 ·have:(m0.left []).length≤m0.es.length:=List.length_filter_le _ _;simp only [];omega
theorem nodup_map_inj {α β:Type} {f:α→β}:∀ {l:List α},(l.map f).Nodup→∀ x∈l,∀ y∈l,f x=f y→x=y
 | [],_,x,hx,_,_,_=>by simp at hx
 | a::l,h,x,hx,y,hy,e=>by
  simp only [yP,List.nodup_cons,yN,not_exists,not_and] at h;simp only [yM] at hx hy;rcases hx with rfl | hx <;> rcases hy with rfl | hy
  ·rfl
  ·exact absurd e.symm (h.1 y hy)
  ·exact absurd e (h.1 x hx)
  ·exact nodup_map_inj h.2 x hx y hy e
theorem hidden_rounds {n:Nat} {j:Judge} {m:GMap Int Bool} (hn:1000000≤n) (hh:j.model.hides.length≤1000) (hok:∀ h∈j.model.hides,(0≤h.table∧h.table<(j.model.tables.length:Int)))
  (hw:WfM m) (hlen:m.es.length≤j.model.hides.length) (hk:∀ t,t∈zcl m↔∃ h∈j.model.hides,h.table=t) :
  loopF (ze.l3 n j) n (m,0)=some (j.model.hides.all λh=>!zaT j.model.hides j.model.tables.length h.to h.table):=by
 cases hac:(j.model.hides.all λh=>!zaT j.model.hides j.model.tables.length h.to h.table) with
 | true=>
  have hac':∀ h∈j.model.hides,zaT j.model.hides j.model.tables.length h.to h.table=false:=λh hm=>by
   have:=yi.1 hac h hm;simpa using this
  have hrange:∀ m':GMap Int Bool,(∀ t∈zcl m',∃ h∈j.model.hides,h.table=t)→m'.es≠[]→∃ e∈m'.es,∀ h∈j.model.hides,¬ (h.table=e.2.1∧h.to∈zcl m'):=λm' hm' hne=>by
   obtain ⟨t,ht,hs⟩:=sink_ex (hs:=j.model.hides) (T:=j.model.tables.length) (S:=zcl m') (by simpa [zcl] using hne) (λt ht=>by
    obtain ⟨h,hh,rfl⟩:=hm' t ht;exact hok h hh) hac'
   simp only [zcl,yN] at ht;obtain ⟨e,he,rfl⟩:=ht;exact ⟨e,he,hs⟩
  refine zbo (body:=ze.l3 n j) (len:=j.model.hides.length) (st:=λm i=>(m,(i:Int))) (g:=λ_ _=>some true) (λi m=>WfM m∧m.es.length+i≤j.model.hides.length∧∀ t∈zcl m,∃ h∈j.model.hides,h.table=t) (λrec i m hi hI hr=>?_) (λrec m hI=>?_) n 0 m (yp _) (by omega) ⟨hw,by omega,λt ht=>(hk t).1 ht⟩
  ·obtain ⟨h1,h2,h3⟩:=hI;simp only [ze.l3,zk hi,if_true];refine hidden_round (r:=true) (by omega) (by omega) (λm' seen=>(WfM m'∧m'.clock=m.clock∧∀ t∈zcl m',∃ h∈j.model.hides,h.table=t)∧(m'.es.length+i+1≤j.model.hides.length∨(m'.es.length+i≤j.model.hides.length∧∃ e∈m'.left seen,∀ h∈j.model.hides,¬ (h.table=e.2.1∧h.to∈zcl m')))) (λm' seen hJ=>⟨hJ.1.1,hJ.1.2.1⟩) (λm' seen hJ hl=>?_) (λm' seen e hJ he=>?_) ⟨⟨h1,rfl,h3⟩,?_⟩ (by omega)
   ·rw [zb (by omega)];refine hr m' ⟨hJ.1.1,?_,hJ.1.2.2⟩;rcases hJ.2 with h | ⟨-,e,he,-⟩
    ·omega
    ·rw [hl] at he;cases he
   ·obtain ⟨⟨w1,w2,w3⟩,hd⟩:=hJ;have hem:e∈m'.es:=(List.mem_filter.1 he).1;obtain ⟨d1,d2,d3,d4,-⟩:=w1.del hem;cases hb:(j.model.hides.any λh=>h.table==e.2.1&&decide (h.to∈zcl m')) with
    | true=>
     rw [if_pos rfl];refine ⟨⟨w1,w2,w3⟩,?_⟩;rcases hd with hd | ⟨hd,x,hx,hs⟩
     ·exact .inl hd
     ·refine .inr ⟨hd,x,?_,hs⟩;simp only [GMap.left,List.mem_filter] at hx ⊢;refine ⟨hx.1,?_⟩;have hne:x.1≠e.1:=λe1=>by
       have:x=e:=nodup_map_inj w1.nd x hx.1 e hem e1;subst this;simp only [uq,yb,beq_iff_eq,yd] at hb;obtain ⟨h,hh,q⟩:=hb;exact hs h hh q
      simp only [yz,List.contains_eq_mem,yF,yK,yS,not_or] at hx ⊢;exact ⟨hx.2,hne⟩
    | false=>
     rw [if_neg (by simp)];refine ⟨⟨d1,by omega,λt ht=>?_⟩,.inl ?_⟩
     ·refine w3 t ?_;simp only [zcl,yN] at ht ⊢;obtain ⟨x,hx,rfl⟩:=ht;exact ⟨x,d4.subset hx,rfl⟩
     ·rcases hd with hd | ⟨hd,-⟩ <;> omega
   ·by_cases hne:m.es=[]
    ·left;rw [hne];simp;omega
    ·right;refine ⟨h2,?_⟩;obtain ⟨e,he,hs⟩:=hrange m h3 hne;exact ⟨e,by simp [GMap.left,he],hs⟩
  ·have:m.es.length=0:=by omega
   simp [ze.l3,this]
 | false=>
  obtain ⟨h0,hm0,hl0⟩:∃ h∈j.model.hides,zaT j.model.hides j.model.tables.length h.to h.table=true:=by
   simp only [List.all_eq_false] at hac;obtain ⟨h,hm,hx⟩:=hac;exact ⟨h,hm,by simpa using hx⟩
  have hclosed:∀ t,((∃ k,zaT j.model.hides k h0.to t=true)∧∃ k,zaT j.model.hides k t h0.table=true)→∃ h∈j.model.hides,h.table=t∧((∃ k,zaT j.model.hides k h0.to h.to=true)∧∃ k,zaT j.model.hides k h.to h0.table=true):=by
   rintro t ⟨⟨a,ha⟩,b,hb⟩;have hcase:t=h0.table∨∃ h∈j.model.hides,h.table=t∧∃ k,zaT j.model.hides k h.to h0.table=true:=by
    cases b with
    | zero=>left;simpa [zaT] using hb
    | succ b=>
     simp only [zaT,yw,beq_iff_eq,uq,yb] at hb;rcases hb with hb | ⟨h,hm,e,hx⟩
     ·exact .inl hb
     ·exact .inr ⟨h,hm,e,b,hx⟩
   rcases hcase with rfl | ⟨h,hm,rfl,k,hx⟩
   ·exact ⟨h0,hm0,rfl,⟨0,zgl⟩,_,hl0⟩
   ·exact ⟨h,hm,rfl,⟨_,leadsP_snoc hm ha⟩,k,hx⟩
  generalize hC:(λt=>(∃ k,zaT j.model.hides k h0.to t=true)∧∃ k,zaT j.model.hides k t h0.table=true)=C at *;have hC':∀ t,C t→∃ h∈j.model.hides,h.table=t∧C h.to:=by
   intro t ht;rw [← hC] at ht ⊢;exact hclosed t ht
  have hCs:C h0.to:=by rw [← hC];exact ⟨⟨0,zgl⟩,_,hl0⟩
  refine zbo (body:=ze.l3 n j) (len:=j.model.hides.length) (st:=λm i=>(m,(i:Int))) (g:=λ_ _=>some false) (λi m=>WfM m∧m.es.length≤1000∧∀ t,C t→t∈zcl m) (λrec i m hi hI hr=>?_) (λrec m hI=>?_) n 0 m (yp _) (by omega) ⟨hw,by omega,λt ht=>(hk t).2 (by
   obtain ⟨h,hh,e,-⟩:=hC' t ht;exact ⟨h,hh,e⟩)⟩
  ·obtain ⟨h1,h2,h3⟩:=hI;simp only [ze.l3,zk hi,if_true];refine hidden_round (r:=false) (by omega) (by omega) (λm' seen=>WfM m'∧m'.clock=m.clock∧m'.es.length≤1000∧∀ t,C t→t∈zcl m') (λm' seen hJ=>⟨hJ.1,hJ.2.1⟩) (λm' seen hJ hl=>?_) (λm' seen e hJ he=>?_) ⟨h1,rfl,h2,h3⟩ (by omega)
   ·rw [zb (by omega)];exact hr m' ⟨hJ.1,hJ.2.2⟩
   ·obtain ⟨w1,w2,w3,w4⟩:=hJ;have hem:e∈m'.es:=(List.mem_filter.1 he).1;obtain ⟨d1,d2,d3,-,d5⟩:=w1.del hem;cases hb:(j.model.hides.any λh=>h.table==e.2.1&&decide (h.to∈zcl m')) with
    | true=>
     rw [if_pos rfl];exact ⟨w1,w2,w3,w4⟩
    | false=>
     rw [if_neg (by simp)];refine ⟨d1,by omega,by omega,λt ht=>d5 t (w4 t ht) λe1=>?_⟩;obtain ⟨h,hh,hht,hto⟩:=hC' t ht;have:=List.any_eq_false.1 hb h hh;apply this;simp only [yb,beq_iff_eq,yd];exact ⟨by omega,w4 _ hto⟩
  ·obtain ⟨-,-,h3⟩:=hI;have:=h3 _ hCs;have hne:m.es.length≠0:=λe=>by
    simp only [zcl,List.length_eq_zero_iff.1 e,List.map_nil,List.not_mem_nil] at this
   simp only [ze.l3,zad,ye,if_false,yk,um];omega
theorem model_hidden_eq {n m l} (hn:1000000≤n) (hS:SmallM m):ze n ⟨m,l⟩=some (hidesP m):=by
 have hhl:=hS.hides;have htl:=hS.tables;unfold ze hidesP;rw [if_neg (by simp;omega),decide_eq_true hhl,yE];have:=zaj (body:=ze.l1 n ⟨m,l⟩) (l:=m.hides) (n:=n) (st:=λi=>(i:Int)) (hideP m) (some false) (loopF (ze.l2 n ⟨m,l⟩) n (GMap.empty,0)) (λrec i hi=>?_) (λrec=>?_) (by omega)
 ·simp only [Int.natCast_zero] at this;rw [this];cases hall:m.hides.all (hideP m) with
  | false=>simp
  | true=>
   rw [if_pos rfl,yE];have hok:∀ h∈m.hides,(0≤h.table∧h.table<(m.tables.length:Int)):=λh hm=>by
    have:=yi.1 hall h hm;simp only [hideP,yb,yd] at this;exact this.1.1.1
   refine zbo (body:=ze.l2 n ⟨m,l⟩) (len:=m.hides.length) (st:=λg i=>(g,(i:Int))) (g:=λ_ _=>some (m.hides.all λh=>!zaT m.hides m.tables.length h.to h.table)) (λi g=>WfM g∧g.es.length≤i∧∀ t,t∈zcl g↔∃ h∈m.hides.take i,h.table=t) (λrec i g hi hI hr=>?_) (λrec g hI=>?_) n 0 GMap.empty (yp _) (by omega) ⟨WfM.empty,by simp [GMap.empty],λt=>by simp [zcl,GMap.empty]⟩
   ·obtain ⟨h1,h2,h3⟩:=hI;obtain ⟨p1,p2,p3⟩:=h1.put m.hides[i].table;simp only [ze.l2,zk hi,if_true,za hi,ya,zb (i:=i) (by omega)];refine hr _ ⟨p1,by omega,λt=>?_⟩;rw [p3,h3,yv hi];simp only [yK,yS];constructor
    ·rintro (⟨h,hm,e⟩ | e)
     ·exact ⟨h,.inl hm,e⟩
     ·exact ⟨_,.inr rfl,e.symm⟩
    ·rintro ⟨h,hm | rfl,e⟩
     ·exact .inl ⟨h,hm,e⟩
     ·exact .inr e.symm
   ·obtain ⟨h1,h2,h3⟩:=hI;simp only [ze.l2,zad,ye,if_false];exact hidden_rounds (j:=⟨m,l⟩) hn (by simp only [];omega) hok h1 h2 (λt=>by rw [h3,List.take_length])
 ·simp only [ze.l1,zas,zk hi,if_true,za hi,ya,yj,yr,yf,zb (i:=i) (by omega)];generalize m.hides[i]=h;by_cases hb:(((0≤h.table∧h.table<(m.tables.length:Int))∧(0≤h.to∧h.to<(m.tables.length:Int)))∧h.table≠h.to)
  ·simp only [grd,if_true];rw [if_neg (by simp [hb])];obtain ⟨t,u,ht,hu⟩:=hide_idx hb.1.1 hb.1.2;have hhp:hideP m h=(((t.kind==0)&&(u.kind==0))&&((decide (0≤h.column)&&decide (h.column<(t.columns.length:Int)))&&(((u.columns.length:Int)==1)&&((idx u.columns 0).getD default==(idx t.columns h.column).getD default)))):=by
    unfold hideP;rw [ht,hu];simp [hb]
   simp only [ht,hu,ya];rw [hhp];by_cases hk:(((t.kind==0)&&(u.kind==0))&&((decide (0≤h.column)&&decide (h.column<(t.columns.length:Int)))&&((u.columns.length:Int)==1)))=true
   ·have hk':=hk;simp only [yb,yd,beq_iff_eq] at hk';obtain ⟨⟨k1,k2⟩,⟨k3,k4⟩,k5⟩:=hk';obtain ⟨x,hx⟩:=zbc (l:=u.columns) (i:=0) (by omega) (by omega);obtain ⟨y,hy⟩:=zbc k3 k4;simp only [k1,k2,k3,k4,k5,hx,hy,yf,decide_true,beq_self_eq_true,bne_self_eq_false,yj,yr,uS,yE,uN,y6,if_true];by_cases hxy:x=y
    ·simp [hxy]
    ·simp [hxy]
   ·have hf:(((((t.kind != 0)||(u.kind != 0))||(!(decide (0≤h.column)&&decide (h.column<(t.columns.length:Int)))))||((u.columns.length:Int) != 1)))=true:=by
     simp only [yb,yd,beq_iff_eq] at hk;simp only [yw,bne_iff_ne,yz,uj,yF];omega
    simp only [hf,uH,if_true];rw [← Bool.and_assoc (decide (0≤h.column)&&decide (h.column<(t.columns.length:Int))),← Bool.and_assoc];simp only [yC] at hk;rw [hk];rfl
  ·have hhp:hideP m h=false:=by
    unfold hideP;cases hx:(((decide (0≤h.table)&&decide (h.table<(m.tables.length:Int)))&&(decide (0≤h.to)&&decide (h.to<(m.tables.length:Int))))&&(h.table != h.to)) with
    | false=>rfl
    | true=>
     simp only [yb,yd,bne_iff_ne] at hx;exact absurd hx hb
   rw [hhp];simp only [grd,if_true];rw [if_pos (by
    simp only [yw,yz,uj,yF,beq_iff_eq];omega)]
   rfl
 ·simp [ze.l1]
def zdY (m:Model):Bool:=(zaV m.sorts m.tables&&(decide (m.families.length≤24)&&distP [] m.families))&&(consP m (zA m.sorts true m.tables)&&(opsP m&&(actsP m (zA m.sorts true m.tables).length&&hidesP m)))
theorem model_Valid_eq {n m} (hF:Fuel n) (hS:SmallM m):zdw n m=some (zdY m):=by
 have hn:=hF.big;have hs:=hS.sorts;have ht:=hS.tables;have hf:=hS.families;have hcs:∀ t∈m.tables,t.columns.length≤1000:=λt h=>by have:=hS.tab t h;omega
 unfold zdw zdY;rw [zfv hF (by omega) (by omega) hcs,zfX hF (by omega)];simp only [ya,yj,yr,grd,if_true,yf];have e1:decide (24<(m.families.length:Int)) = !decide (m.families.length≤24):=by rw [← decide_not];exact decide_eq_decide.2 (by omega)
 rw [e1];cases hL:zaV m.sorts m.tables with
 | false=>simp
 | true=>
  by_cases hd:(decide (m.families.length≤24)&&distP [] m.families)=true
  ·rw [hd];simp only [yb] at hd;rw [hd.1,hd.2,if_neg (by simp),zgN hF (by omega) (by omega) hcs,hL];simp only [if_true,ya];obtain ⟨l1,l2,l3,l4⟩:=zbi hL;have hlen:=zcv (sizes:=m.sorts) (s:=true) (l:=m.tables) λx hx=>(l4 x hx).2.2.2.2
   rw [model_constraints_eq hS (λt ht=>(l4 t ht).2.2.2.1) (by omega) (by omega),model_operations_eq hF hS,model_hidden_eq (by omega) hS];simp only [ya,yj,yf,yr,if_true];cases consP m (zA m.sorts true m.tables) with
   | false=>simp
   | true=>
    cases hO:opsP m with
    | false=>simp
    | true=>
     rw [model_actions_eq hF hS hO];simp
  ·have h2:(!true||!decide (m.families.length≤24)||!distP [] m.families)=true:=by
    simp only [yb,not_and,yC] at hd;cases h1:decide (m.families.length≤24) with
    | false=>rfl
    | true=>rw [hd h1];rfl
   rw [if_pos h2];simp only [yC] at hd;rw [hd];rfl
theorem ref13_Valid_eq {n m} (hn:4294967296≤n) (hS:SmallM m):ze3 n m=some (zdY m):=by
 have hs:=hS.sorts;have ht:=hS.tables;have hf:=hS.families;have hcs:∀ t∈m.tables,t.columns.length≤1000∧t.name.length≤4096:=λt h=>by have:=hS.tab t h;omega
 unfold ze3 zdY;rw [zfB (by omega) (by omega) (by omega) hcs,zf2 (by omega) (by omega) (λw hw=>by have:=hS.fam w hw;omega)];simp only [ya,yj,yr,grd,if_true,yf];have e1:decide (24<(m.families.length:Int)) = !decide (m.families.length≤24):=by rw [← decide_not];exact decide_eq_decide.2 (by omega)
 rw [e1];cases hL:zaV m.sorts m.tables with
 | false=>simp
 | true=>
  by_cases hd:(decide (m.families.length≤24)&&distP [] m.families)=true
  ·rw [hd];simp only [yb] at hd;rw [hd.1,hd.2,if_neg (by simp),ref13_constraints_eq hS hL (by omega),ref13_actions_eq (by omega) hS hL,ref13_hidden_eq hn hS];simp only [ya,yj,yf,yr,if_true,yE];simp only [Bool.and_assoc]
  ·have h2:(!true||!decide (m.families.length≤24)||!distP [] m.families)=true:=by
    simp only [yb,not_and,yC] at hd;cases h1:decide (m.families.length≤24) with
    | false=>rfl
    | true=>rw [hd h1];rfl
   rw [if_pos h2];simp only [yC] at hd;rw [hd];rfl
def lensP (m:Model):Bool:=(((((((decide (8<(m.sorts.length:Int)))||(decide (6<(m.tables.length:Int))))||(decide (20<(m.families.length:Int))))||(decide (60<(m.constraints.length:Int))))||(decide (8<(m.operations.length:Int))))||(decide (30<(m.actions.length:Int))))||(decide (12<(m.hides.length:Int))))
def tabF (t:Table):Bool:=decide (t.name.length≤40)&&decide (t.columns.length≤12)
def opF (o:Operation):Bool:=decide (o.name.length≤40)&&decide (o.sorts.length≤6)
def actF (a:Action):Bool:=((decide (a.arguments.length≤6)&&decide (a.effect.delta.length≤20))&&(decide (a.effect.hold.length≤10)&&decide (a.effect.updates.length≤40)))&&a.effect.hold.all λr=>decide (r.terms.length≤20)
def boundedP (m:Model):Bool:=!lensP m&&(m.tables.all tabF&&(m.families.all (λs=>decide (s.length≤40))&&(m.constraints.all (λc=>decide (c.row.terms.length≤20))&&(m.operations.all opF&&m.actions.all actF))))
theorem not_lt_le {a b:Nat}:decide ((a:Int)<(b:Int)) = !decide (b≤a):=by rw [← decide_not];exact decide_eq_decide.2 (by omega)
theorem ref13_Bounded_eq {n:Nat} {m:Model} (hn:1000000≤n):zt n m=some (boundedP m):=by
 unfold zt boundedP;have hl:(((((((decide (8<(m.sorts.length:Int)))||(decide (6<(m.tables.length:Int))))||(decide (20<(m.families.length:Int))))||(decide (60<(m.constraints.length:Int))))||(decide (8<(m.operations.length:Int))))||(decide (30<(m.actions.length:Int))))||(decide (12<(m.hides.length:Int))))=lensP m:=rfl;rw [hl];cases hlen:lensP m with
 | true=>simp [grd]
 | false=>
  simp only [lensP,uf,yF] at hlen;obtain ⟨⟨⟨⟨⟨⟨b1,b2⟩,b3⟩,b4⟩,b5⟩,b6⟩,b7⟩:=hlen;have hfew:zcU n m.sorts m.tables=some (m.tables.all tabF):=by
   have:=zaj (body:=zcU.l1 n m.sorts m.tables) (l:=m.tables) (n:=n) (st:=λi=>(i:Int)) tabF (some false) (some true) (λrec i hi=>?_) (λrec=>?_) (by omega)
   ·simp only [Int.natCast_zero] at this;unfold zcU;rw [this];cases m.tables.all tabF <;> rfl
   ·simp only [zcU.l1,zk hi,if_true,za hi,ya,yj,yr,grd,yf,zb (i:=i) (by omega)];unfold tabF;by_cases h1:m.tables[i].name.length≤40
    ·by_cases h2:m.tables[i].columns.length≤12
     ·rw [if_neg (by simp;omega),if_pos (by simp [h1,h2])]
     ·rw [if_pos (by simp;omega),if_neg (by simp [h2])]
    ·rw [if_pos (by simp;omega),if_neg (by simp [h1])]
   ·simp [zcU.l1];omega
  rw [hfew];simp only [yj,yr,grd,if_true,yf,uk,uB,yE];cases m.tables.all tabF with
  | false=>simp
  | true=>
   rw [if_neg (by simp),yE];have h4:loopF (zt.l4 n m) n 0=some (m.actions.all actF):=by
    have:=zaj (body:=zt.l4 n m) (l:=m.actions) (n:=n) (st:=λi=>(i:Int)) actF (some false) (some true) (λrec i hi=>?_) (λrec=>?_) (by omega)
    ·simp only [Int.natCast_zero] at this;rw [this];cases m.actions.all actF <;> rfl
    ·simp only [zt.l4,zk hi,if_true,za hi,ya];unfold actF;by_cases hx:((decide (m.actions[i].arguments.length≤6)&&decide (m.actions[i].effect.delta.length≤20))&&(decide (m.actions[i].effect.hold.length≤10)&&decide (m.actions[i].effect.updates.length≤40)))=true
     ·rw [hx,yE];simp only [yb,yd] at hx;rw [if_neg (by simp;omega)];have:=zaj (body:=zt.l5 n i rec m.actions[i]) (l:=m.actions[i].effect.hold) (n:=n) (st:=λk=>(k:Int)) (λr=>decide (r.terms.length≤20)) (some false) (rec ((i+1:Nat):Int)) (λrec' k hk=>?_) (λrec'=>?_) (by omega)
      ·simpa using this
      ·simp only [zt.l5,zk hk,if_true,za hk,ya,zb (i:=k) (by omega)];by_cases h:m.actions[i].effect.hold[k].terms.length≤20
       ·rw [if_neg (by simp;omega),if_pos (by simp [h])]
       ·rw [if_pos (by simp;omega),if_neg (by simp [h])]
      ·simp only [zt.l5,zad,ye,if_false,zb (i:=i) (by omega)]
     ·rw [if_pos (by
       simp only [yb,yd] at hx;simp only [yw,yd];omega)]
      simp only [yC] at hx;rw [hx,yX,if_neg (by simp)]
    ·simp [zt.l4]
   have h3:loopF (zt.l3 n m) n 0=some (m.operations.all opF&&m.actions.all actF):=by
    have:=zaj (body:=zt.l3 n m) (l:=m.operations) (n:=n) (st:=λi=>(i:Int)) opF (some false) (some (m.actions.all actF)) (λrec i hi=>?_) (λrec=>?_) (by omega)
    ·simp only [Int.natCast_zero] at this;rw [this];cases m.operations.all opF <;> rfl
    ·simp only [zt.l3,zk hi,if_true,za hi,ya,yj,yr,grd,yf,zb (i:=i) (by omega)];unfold opF;by_cases h1:m.operations[i].name.length≤40
     ·by_cases h2:m.operations[i].sorts.length≤6
      ·rw [if_neg (by simp;omega),if_pos (by simp [h1,h2])]
      ·rw [if_pos (by simp;omega),if_neg (by simp [h2])]
     ·rw [if_pos (by simp;omega),if_neg (by simp [h1])]
    ·simp only [zt.l3,zad,ye,if_false,h4]
   have h2:loopF (zt.l2 n m) n 0=some (m.constraints.all (λc=>decide (c.row.terms.length≤20))&&(m.operations.all opF&&m.actions.all actF)):=by
    have:=zaj (body:=zt.l2 n m) (l:=m.constraints) (n:=n) (st:=λi=>(i:Int)) (λc=>decide (c.row.terms.length≤20)) (some false) (some (m.operations.all opF&&m.actions.all actF)) (λrec i hi=>?_) (λrec=>?_) (by omega)
    ·simp only [Int.natCast_zero] at this;rw [this];cases m.constraints.all (λc=>decide (c.row.terms.length≤20)) <;> rfl
    ·simp only [zt.l2,zk hi,if_true,za hi,ya,zb (i:=i) (by omega)];by_cases h:m.constraints[i].row.terms.length≤20
     ·rw [if_neg (by simp;omega),if_pos (by simp [h])]
     ·rw [if_pos (by simp;omega),if_neg (by simp [h])]
    ·simp only [zt.l2,zad,ye,if_false,h3]
   have:=zaj (body:=zt.l1 n m) (l:=m.families) (n:=n) (st:=λi=>(i:Int)) (λs=>decide (s.length≤40)) (some false) (some (m.constraints.all (λc=>decide (c.row.terms.length≤20))&&(m.operations.all opF&&m.actions.all actF))) (λrec i hi=>?_) (λrec=>?_) (by omega)
   ·simp only [Int.natCast_zero] at this;rw [this];cases m.families.all (λs=>decide (s.length≤40)) <;> rfl
   ·simp only [zt.l1,zk hi,if_true,za hi,ya,zb (i:=i) (by omega)];by_cases h:m.families[i].length≤40
    ·rw [if_neg (by simp;omega),if_pos (by simp [h])]
    ·rw [if_pos (by simp;omega),if_neg (by simp [h])]
   ·simp only [zt.l1,zad,ye,if_false,h2]
theorem boundedP_small {m:Model} (h:boundedP m=true):SmallM m:=by
 simp only [boundedP,lensP,tabF,opF,actF,yb,yz,uf,yF,yi,yd] at h;obtain ⟨⟨⟨⟨⟨⟨⟨b1,b2⟩,b3⟩,b4⟩,b5⟩,b6⟩,b7⟩,c1,c2,c3,c4,c5⟩:=h;exact ⟨by omega,by omega,c1,by omega,c2,by omega,c3,by omega,c4,by omega,λa ha=>by
  obtain ⟨⟨⟨p1,p2⟩,p3,p4⟩,p5⟩:=c5 a ha;exact ⟨p1,p2,p3,p4,p5⟩,by omega⟩
def prodP:Int→List Range→Bool
 | _,[]=>true
 | p,r::l=>!decide (4096<mul64 p (add64 (sub64 r.hi r.lo) 1))&&prodP (mul64 p (add64 (sub64 r.hi r.lo) 1)) l
def zcI (m:Model):List Range:=if zaV m.sorts m.tables=true then zA m.sorts true m.tables else []
def fewP (m:Model):Bool:=((boundedP m&&decide (m.actions.length≤12))&&decide (m.constraints.length≤40))&&(m.actions.all (λa=>decide (a.effect.hold.length≤4))&&(decide ((zcI m).length≤12)&&prodP 1 (zcI m)))
theorem ref13_strict_eq {n:Nat} {m:Model} (hn:1000000≤n) (hS:SmallM m):zcr n m=some (zcI m):=by
 have hs:=hS.sorts;have ht:=hS.tables;unfold zcr;rw [zeZ hn (by omega) (by omega) (λt h=>by have:=hS.tab t h;omega)];rfl
theorem strictR_len {m:Model} (hS:SmallM m):(zcI m).length≤2592:=by
 have ht:=hS.tables;unfold zcI;split
 ·rename_i hL;obtain ⟨l1,l2,l3,l4⟩:=zbi hL;have:=zcv (sizes:=m.sorts) (s:=true) (l:=m.tables) λx hx=>(l4 x hx).2.2.2.2
  omega
 ·simp
theorem ref13_Few_eq {n:Nat} {m:Model} (hn:1000000≤n):zbU n m=some (fewP m):=by
 unfold zbU fewP;rw [ref13_Bounded_eq hn,ya];have e1:decide (12<(m.actions.length:Int)) = !decide (m.actions.length≤12):=not_lt_le (a:=12);have e2:decide (40<(m.constraints.length:Int)) = !decide (m.constraints.length≤40):=not_lt_le (a:=40);rw [e1,e2,← Bool.not_and,← Bool.not_and];cases hb:(boundedP m&&decide (m.actions.length≤12)&&decide (m.constraints.length≤40)) with
 | false=>simp
 | true=>
  simp only [yb,yd] at hb;have hS:=boundedP_small hb.1.1;have hsl:=strictR_len hS;have T:(if (decide (12<((zcI m).length:Int)))=true then some false else loopF (zbU.l2 n (zcI m)) n (1,0))=some (decide ((zcI m).length≤12)&&prodP 1 (zcI m)):=by
   by_cases h:(zcI m).length≤12
   ·rw [if_neg (by simp;omega),decide_eq_true h,yE];refine zbo (body:=zbU.l2 n (zcI m)) (len:=(zcI m).length) (st:=λ(p:Int) i=>(p,(i:Int))) (g:=λi p=>some (prodP p ((zcI m).drop i))) (λ_ _=>True) (λrec i p hi _ hr=>?_) (λrec p _=>?_) n 0 1 (yp _) (by omega) trivial
    ·simp only [zbU.l2,zk hi,if_true,za hi,ya,zb (i:=i) (by omega),hr _ trivial];rw [zh hi,prodP];cases decide (4096<mul64 p (add64 (sub64 (zcI m)[i].hi (zcI m)[i].lo) 1)) <;> simp
    ·simp [zbU.l2,prodP]
   ·rw [if_pos (by simp;omega),decide_eq_false h,yX]
  have:=zaj (body:=zbU.l1 n m) (l:=m.actions) (n:=n) (st:=λi=>(i:Int)) (λa=>decide (a.effect.hold.length≤4)) (some false) (some (decide ((zcI m).length≤12)&&prodP 1 (zcI m))) (λrec i hi=>?_) (λrec=>?_) (by omega)
  ·simp only [Int.natCast_zero] at this;rw [if_neg (by simp),this];cases m.actions.all (λa=>decide (a.effect.hold.length≤4)) <;> simp
  ·simp only [zbU.l1,zk hi,if_true,za hi,ya,zb (i:=i) (by omega)];by_cases h:m.actions[i].effect.hold.length≤4
   ·rw [if_neg (by simp;omega),if_pos (by simp [h])]
   ·rw [if_pos (by simp;omega),if_neg (by simp [h])]
  ·simp only [zbU.l1,zad,ye,if_false,ref13_strict_eq hn hS,ya,T]
theorem fewP_small {m:Model} (h:fewP m=true):SmallM m:=by
 simp only [fewP,yb] at h;exact boundedP_small h.1.1.1
structure ValidM (m:Model):Prop where
 lay:zaV m.sorts m.tables=true
 fams:m.families.length≤24∧distP [] m.families=true
 cons:consP m (zA m.sorts true m.tables)=true
 ops:opsP m=true
 acts:actsP m (zA m.sorts true m.tables).length=true
 hid:hidesP m=true
theorem zed {m}:zdY m=true↔ValidM m:=by
 simp only [zdY,yb,yd];exact ⟨λ⟨⟨a,b,c⟩,d,e,f,g⟩=>⟨a,⟨b,c⟩,d,e,f,g⟩,λ⟨a,⟨b,c⟩,d,e,f,g⟩=>⟨⟨a,b,c⟩,d,e,f,g⟩⟩
def stepT (s:Nat) (L:List (List Int)):List (List Int):=L.flatMap λl=>(List.range s).map λe:Nat=>l++[(e:Int)]
def ze8 (sizes:List Int):List Int→List (List Int)→List (List Int)
 | [],L=>L
 | c::cols,L=>ze8 sizes cols (stepT (zcY sizes c).toNat L)
def zec (sizes cols:List Int):List (List Int):=ze8 sizes cols [[]]
theorem tuplesF_append (sizes):∀ (a b:List Int) (L:List (List Int)),ze8 sizes (a++b) L=ze8 sizes b (ze8 sizes a L)
 | [],_,_=>rfl
 | _::a,b,L=>by simp only [ud,ze8];exact tuplesF_append sizes a b _
theorem stepT_append (s A B):stepT s (A++B)=stepT s A++stepT s B:=by simp [stepT]
theorem stepT_len {s L}:(stepT s L).length=L.length*s:=by
 induction L with
 | nil=>simp [stepT]
 | cons l L ih=>
  have:stepT s (l::L)=stepT s [l]++stepT s L:=stepT_append s [l] L;rw [this,yI,ih];simp [stepT,uo,Nat.add_comm]
theorem stepT_mem {s L k} (h:∀ l∈L,l.length=k):∀ l∈stepT s L,l.length=k+1:=λl hl=>by
 simp only [stepT,ue,yN] at hl;obtain ⟨x,hx,e,-,rfl⟩:=hl;simp [h x hx]
theorem stepT_snoc {s:Nat} {L:List (List Int)} {i:Nat} (hi:i<L.length):stepT s (L.take (i+1))=stepT s (L.take i)++(List.range s).map λe:Nat=>L[i]++[(e:Int)]:=by
 rw [yv hi,stepT_append];congr 1;simp [stepT]
def zeo (i:Nat) (L:List (List Int)):List Place:=L.map λl=>⟨(i:Int),l⟩
def zcT (sizes:List Int) (s:Bool):List Table→Nat→List Place
 | [],_=>[]
 | t::l,i=>(if decide (t.kind≤1)=s then zeo i (zec sizes t.columns) else [])++zcT sizes s l (i+1)
theorem placesP_append (sizes s):∀ (a b:List Table) (i:Nat),zcT sizes s (a++b) i=zcT sizes s a i++zcT sizes s b (i+a.length)
 | [],b,i=>by simp [zcT]
 | t::a,b,i=>by
  simp only [ud,zcT,placesP_append sizes s a b,yO,yL];rw [show i+1+a.length=i+(a.length+1) by omega]
theorem placesP_snoc {sizes:List Int} {s:Bool} {l:List Table} {i:Nat} (hi:i<l.length):zcT sizes s (l.take (i+1)) 0=zcT sizes s (l.take i) 0++(if decide (l[i].kind≤1)=s then zeo i (zec sizes l[i].columns) else []):=by
 rw [yv hi,placesP_append];congr 1;simp only [zcT,uh,yQ,uz];rw [show min i l.length=i by omega]
theorem open_l4 {n:Nat} {x40:Int} {rec:((List (List Int))×Int)→Option ((Option Layout)×Bool)} {l:List Int} {s:Nat} {b:List (List Int)} {k:Nat} (hk:add64 x40 1=(k:Int)) (hs:s≤6) (hl:l.length≤100) (hb:b.length≤100000) (hn:1000000≤n) :
  loopF (zn.l4 n x40 rec l (s:Int)) n (b,0)=rec (b++(List.range s).map λe:Nat=>l++[(e:Int)],(k:Int)):=by
 have:=zE (body:=zn.l4 n x40 rec l (s:Int)) (len:=s) (st:=λi=>(b++(List.range i).map λe:Nat=>l++[(e:Int)],(i:Int))) (g:=λ_=>rec (b++(List.range s).map λe:Nat=>l++[(e:Int)],(k:Int))) (λrec' i hi hr=>?_) (λrec'=>?_) n 0 (yp _) (by omega)
 ·simpa using this
 ·rw [uA,ul,← yL] at hr;simp only [zn.l4,zcK hi,if_true,zb (i:=i) (by omega)];rw [zr (by simp;omega),ya,zr (by simp;omega),ya,zr (by simp;omega),ya];exact hr
 ·simp only [zn.l4,zck (yn s),ye,if_false,hk]
theorem open_l3 {n:Nat} {m} {L:List (List Int)} {x34 x36:Int} {rec:((List (List Int))×Int)→Option ((Option Layout)×Bool)} {s k:Nat} (hk:add64 x34 1=(k:Int)) (hx:idx m.sorts x36=some (s:Int)) (hs:s≤6) (hl:∀ l∈L,l.length≤100) (hL:L.length≤1000) (hn:1000000≤n) :
  loopF (zn.l3 n m L x34 rec x36) n ([],0)=rec (stepT s L,(k:Int)):=by
 have:=zE (body:=zn.l3 n m L x34 rec x36) (len:=L.length) (st:=λi=>(stepT s (L.take i),(i:Int))) (g:=λ_=>rec (stepT s L,(k:Int))) (λrec' i hi hr=>?_) (λrec'=>?_) n 0 (yp _) (by omega)
 ·simpa [stepT] using this
 ·rw [stepT_snoc hi] at hr;simp only [zn.l3,zk hi,if_true,za hi,ya,hx];have hlen:(stepT s (L.take i)).length≤100000:=by
   rw [stepT_len,yQ];have:min i L.length*s≤1000*6:=y0 (by omega) hs;omega
  rw [open_l4 (k:=i+1) (zb (by omega)) hs (hl _ (yg hi)) hlen hn];exact hr
 ·simp only [zn.l3,zad,ye,if_false,hk,List.take_length]
theorem open_l5 {n:Nat} {i:Nat} {rec:((List Place)×(List Place)×Int)→Option ((Option Layout)×Bool)} {t:Table} {L:List (List Int)} {b1 b2:List Place} (hi:i<1000000) (hL:L.length≤1000) (h1:b1.length≤100000) (h2:b2.length≤100000) (hn:1000000≤n) :
  loopF (zn.l5 n (i:Int) rec t L) n (b1,b2,0)=rec (b1++(if decide (t.kind≤1)=true then zeo i L else []),b2++(if decide (t.kind≤1)=false then zeo i L else []),((i+1:Nat):Int)):=by
 cases hk:decide (t.kind≤1) with
 | true=>
  simp only [if_true,Bool.true_eq_false,if_false,uh];have:=zE (body:=zn.l5 n (i:Int) rec t L) (len:=L.length) (st:=λk=>(b1++zeo i (L.take k),b2,(k:Int))) (g:=λ_=>rec (b1++zeo i L,b2,((i+1:Nat):Int))) (λrec' k hk' hr=>?_) (λrec'=>?_) n 0 (yp _) (by omega)
  ·simpa [zeo] using this
  ·simp only [zeo] at hr ⊢;rw [← zdR hk',← yL] at hr;simp only [zn.l5,jn,zk hk',if_true,za hk',ya,hk,zb (i:=k) (by omega)];rw [zr (by simp;omega),ya];exact hr
  ·simp only [zn.l5,zad,ye,if_false,List.take_length,zb (i:=i) (by omega)]
 | false=>
  simp only [ye,if_true,if_false,uh];have:=zE (body:=zn.l5 n (i:Int) rec t L) (len:=L.length) (st:=λk=>(b1,b2++zeo i (L.take k),(k:Int))) (g:=λ_=>rec (b1,b2++zeo i L,((i+1:Nat):Int))) (λrec' k hk' hr=>?_) (λrec'=>?_) n 0 (yp _) (by omega)
  ·simpa [zeo] using this
  ·simp only [zeo] at hr ⊢;rw [← zdR hk',← yL] at hr;simp only [zn.l5,jn,zk hk',if_true,za hk',ya,hk,ye,if_false,zb (i:=k) (by omega)];rw [zr (by simp;omega),ya];exact hr
  ·simp only [zn.l5,zad,ye,if_false,List.take_length,zb (i:=i) (by omega)]
theorem tuplesF_bound {sizes} (hs:sizes.all zbJ=true):∀ (cols:List Int) (L:List (List Int)) (A k:Nat),cols.all (colOK sizes)=true→L.length≤A→(∀ l∈L,l.length=k)→(ze8 sizes cols L).length≤A*6 ^ cols.length∧∀ l∈ze8 sizes cols L,l.length=k+cols.length
 | [],L,A,k,_,h1,h2=>by simpa [ze8] using ⟨h1,h2⟩
 | c::cols,L,A,k,hc,h1,h2=>by
  simp only [y7,yb] at hc;have hz:=sizeAt_ne hs hc.1;have hlen:(stepT (zcY sizes c).toNat L).length≤A*6:=by
   rw [stepT_len];exact y0 h1 (by omega)
  obtain ⟨p1,p2⟩:=tuplesF_bound hs cols (stepT (zcY sizes c).toNat L) (A*6) (k+1) hc.2 hlen (stepT_mem h2);simp only [ze8,yO];refine ⟨?_,λl hl=>?_⟩
  ·rw [uM,Nat.mul_comm (6 ^ cols.length) 6,← Nat.mul_assoc];exact p1
  ·rw [p2 l hl];omega
theorem zgw {sizes cols} (hs:sizes.all zbJ=true) (hc:cols.all (colOK sizes)=true) (h3:cols.length≤3):(zec sizes cols).length≤216∧∀ l∈zec sizes cols,l.length=cols.length:=by
 obtain ⟨p1,p2⟩:=tuplesF_bound hs cols [[]] 1 0 hc (by simp) (by simp);refine ⟨ua p1 ?_,λl hl=>by simpa using p2 l hl⟩;have:6 ^ cols.length≤6 ^ 3:=uy (by decide) h3;omega
theorem open_l2 {n:Nat} {m} {b1 b2:List Place} {i:Nat} {rec:((List Place)×(List Place)×Int)→Option ((Option Layout)×Bool)} {t:Table} (hs:m.sorts.all zbJ=true) (hc:t.columns.all (colOK m.sorts)=true) (h3:t.columns.length≤3) (hi:i<1000000) (h1:b1.length≤100000) (h2:b2.length≤100000) (hn:1000000≤n) :
  loopF (zn.l2 n m b1 b2 (i:Int) rec t) n ([[]],0)=rec (b1++(if decide (t.kind≤1)=true then zeo i (zec m.sorts t.columns) else []),b2++(if decide (t.kind≤1)=false then zeo i (zec m.sorts t.columns) else []),((i+1:Nat):Int)):=by
 have hpre:∀ k,(t.columns.take k).all (colOK m.sorts)=true:=λk=>yi.2 λc hm=>yi.1 hc c (List.mem_of_mem_take hm)
 have:=zE (body:=zn.l2 n m b1 b2 (i:Int) rec t) (len:=t.columns.length) (st:=λk=>(zec m.sorts (t.columns.take k),(k:Int))) (g:=λ_=>rec (b1++(if decide (t.kind≤1)=true then zeo i (zec m.sorts t.columns) else []),b2++(if decide (t.kind≤1)=false then zeo i (zec m.sorts t.columns) else []),((i+1:Nat):Int))) (λrec' k hk hr=>?_) (λrec'=>?_) n 0 (yp _) (by omega)
 ·simpa [zec,ze8] using this
 ·have hcol:=yi.1 hc _ (yg hk);have hz:=sizeAt_ne hs hcol;obtain ⟨p1,p2⟩:=zgw hs (hpre k) (by simp;omega);have hsz:idx m.sorts t.columns[k]=some (((zcY m.sorts t.columns[k]).toNat:Nat):Int):=by
   rw [zd7 hcol];unfold zcY at hz ⊢;congr 1;omega
  simp only [zn.l2,zk hk,if_true,za hk,ya];rw [open_l3 (k:=k+1) (zb (by omega)) hsz (by omega) (λl hl=>by rw [p2 l hl];simp;omega) (by omega) hn,← hr];congr 2;unfold zec;rw [yv hk,tuplesF_append];rfl
 ·obtain ⟨p1,-⟩:=zgw hs hc h3;simp only [zn.l2,zad,ye,if_false,List.take_length];exact open_l5 hi (by omega) h1 h2 hn
theorem placesP_len {sizes s}:∀ {l:List Table} {i:Nat},(∀ t∈l,(zec sizes t.columns).length≤216)→(zcT sizes s l i).length≤l.length*216
 | [],_,_=>by simp [zcT]
 | t::l,i,h=>by
  have ih:=placesP_len (s:=s) (l:=l) (i:=i+1) λx hx=>h x (by simp [hx])
  have ht:=h t (by simp);simp only [zcT,yI,yO];split
  ·simp only [zeo,y9];omega
  ·simp only [ux];omega
def layoutM (m:Model):Layout:=⟨m,zcT m.sorts true m.tables 0,zcT m.sorts false m.tables 0⟩
theorem symmetry_open_eq {n:Nat} {m} (hF:Fuel n) (hS:SmallM m):zn n m=some (if zdY m=true then (some (layoutM m),true) else (none,false)):=by
 have hn:=hF.big;have htl:=hS.tables;unfold zn;rw [model_Valid_eq hF hS,ya];cases hv:zdY m with
 | false=>simp
 | true=>
  have hV:=zed.1 hv;obtain ⟨l1,l2,l3,l4⟩:=zbi hV.lay;have hb:∀ t∈m.tables,(zec m.sorts t.columns).length≤216:=λt ht=>(zgw l3 (l4 t ht).2.2.2.1 (l4 t ht).2.2.1).1
  rw [if_neg (by simp),if_pos rfl];have:=zE (body:=zn.l1 n m) (len:=m.tables.length) (st:=λi=>(zcT m.sorts true (m.tables.take i) 0,zcT m.sorts false (m.tables.take i) 0,(i:Int))) (g:=λ_=>some (some (layoutM m),true)) (λrec i hi hr=>?_) (λrec=>?_) n 0 (yp _) (by omega)
  ·simpa [zcT] using this
  ·have hmem:=yg hi;obtain ⟨-,-,c1,c2,-⟩:=l4 _ hmem;have hA:=placesP_len (s:=true) (l:=m.tables.take i) (i:=0) λt ht=>hb t (List.mem_of_mem_take ht)
   have hB:=placesP_len (s:=false) (l:=m.tables.take i) (i:=0) λt ht=>hb t (List.mem_of_mem_take ht)
   simp only [yQ] at hA hB;rw [placesP_snoc hi,placesP_snoc hi] at hr;simp only [zn.l1,zk hi,if_true,za hi,ya];rw [open_l2 l3 c2 c1 (by omega) (by omega) (by omega) (by omega)];exact hr
  ·simp [zn.l1,layoutM]
def zd3 (m:Model) (q:Question):Bool:=
 (((decide (0≤q.e)&&decide (q.e<(m.actions.length:Int)))&&(decide (0≤q.f)&&decide (q.f<(m.actions.length:Int))))&&decide (0≤q.target.index)) &&
 (if q.target.hold=true then decide (q.target.index<(((idx m.actions q.e).getD default).effect.hold.length:Int)) else decide (q.e≤q.f)&&decide (q.target.index<(m.constraints.length:Int)))
theorem quest_body {m q}:(if (((((decide (q.e<0))||(decide (q.f<0)))||(decide ((m.actions.length:Int)≤q.e)))||(decide ((m.actions.length:Int)≤q.f)))||(decide (q.target.index<0)))=true then some false
 else if q.target.hold=true then (idx m.actions q.e).bind λx=>some (decide (q.target.index<(x.effect.hold.length:Int))) else some ((decide (q.e≤q.f))&&(decide (q.target.index<(m.constraints.length:Int)))))=some (zd3 m q):=by
 unfold zd3;by_cases h:((0≤q.e∧q.e<(m.actions.length:Int))∧(0≤q.f∧q.f<(m.actions.length:Int)))∧0≤q.target.index
 ·rw [if_neg (by simp;omega)];obtain ⟨a,ha⟩:=zbc h.1.1.1 h.1.1.2;rw [ha];simp only [h,decide_true,uN,yE,ya,yf];split <;> rfl
 ·rw [if_pos (by simp;omega)];have:(((decide (0≤q.e)&&decide (q.e<(m.actions.length:Int)))&&(decide (0≤q.f)&&decide (q.f<(m.actions.length:Int))))&&decide (0≤q.target.index))=false:=by
   rw [← yC];simp only [yb,yd];exact h
  rw [this,yX]
theorem zga {n m q} (hF:Fuel n) (hS:SmallM m):zdl n m q=some (zdY m&&zd3 m q):=by
 unfold zdl;rw [symmetry_open_eq hF hS,ya];cases zdY m with
 | false=>simp [grd]
 | true=>
  have:zbz n (layoutM m) q=some (zd3 m q):=quest_body;simp [grd,this]
theorem ref16_Valid_eq {n m q} (hn:4294967296≤n) (hS:SmallM m):zeb n m q=some (zdY m&&zd3 m q):=by
 unfold zeb;rw [ref13_Valid_eq hn hS,ya];cases zdY m with
 | false=>simp
 | true=>
  simp only [y6,uk,yE];exact quest_body
theorem awake_spec:law22_awake 18446744073709551616=some true:=by decide +kernel
theorem keywords_spec:(zbP 18446744073709551616).map (λm=>m.es.map (λe=>e.2))=some (kwL.map λk=>(k,true)):=by decide +kernel
theorem fuel_N:Fuel 18446744073709551616:=by
 refine ⟨by decide,?_⟩;have h:=keywords_spec;cases hk:zbP 18446744073709551616 with
 | none=>rw [hk] at h;cases h
 | some m=>
  rw [hk] at h;simp only [yV,yk] at h;refine ⟨m,rfl,λe he=>?_,λk=>?_⟩
  ·have:e.2∈m.es.map (λe=>e.2):=List.mem_map_of_mem he;rw [h] at this;simp only [yN] at this;obtain ⟨x,-,hx⟩:=this;rw [← hx]
  ·have:m.es.map (λe=>e.2.1)=kwL:=by
    have e1:m.es.map (λe=>e.2.1)=(m.es.map (λe=>e.2)).map (·.1):=by rw [uK];rfl
    rw [e1,h,uK];exact List.map_id kwL
   rw [this]
theorem zgh {K}:∀ (l:List Change) (last:Int),deltaP K last l=true→(∀ d∈l,last<d.cell∧d.cell<(K:Int)∧d.add≠0∧-1000000000≤d.add∧d.add≤1000000000)∧(l.map (·.cell)).Nodup
 | [],_,_=>by simp
 | d::l,last,h=>by
  simp only [deltaP,zar,yb,yd,bne_iff_ne] at h;obtain ⟨⟨⟨⟨h1,h2⟩,h3⟩,h4,h5⟩,h6⟩:=h;obtain ⟨p1,p2⟩:=zgh l d.cell h6;refine ⟨λx hx=>?_,?_⟩
  ·simp only [yM] at hx;rcases hx with rfl | hx
   ·exact ⟨h1,h2,h3,h4,h5⟩
   ·obtain ⟨q1,q2⟩:=p1 x hx;exact ⟨by omega,q2⟩
  ·simp only [yP,List.nodup_cons,yN,not_exists,not_and];exact ⟨λx hx e=>by have:=(p1 x hx).1;omega,p2⟩
theorem valid_act {m} (hV:ValidM m) {a} (ha:a∈m.actions):effP m (zA m.sorts true m.tables).length a.effect=true∧(0≤a.operation∧a.operation<(m.operations.length:Int)):=by
 have h:=hV.acts;simp only [actsP,yb] at h;obtain ⟨i,hi,rfl⟩:=List.mem_iff_getElem.1 ha;have:=zgM.1 h.2 i hi;simp only [za hi,yf,actP,yb,yd] at this;exact ⟨this.2,this.1.1.1.1⟩
theorem zer {m} (hV:ValidM m) {c} (hc:c∈m.constraints):zdi (zA m.sorts true m.tables).length c=true∨acyP m c=true:=by
 have h:=hV.cons;simp only [consP,yb] at h;obtain ⟨i,hi,rfl⟩:=List.mem_iff_getElem.1 hc;have:=zgM.1 h.2 i hi;simp only [za hi,yf,conP,yb,yw] at this;exact this.1.2
theorem acy_size {m} (hV:ValidM m) {c} (h:acyP m c=true):c.kind=1∧1≤c.size∧c.size≤6:=by
 obtain ⟨l1,l2,l3,l4⟩:=zbi hV.lay;simp only [acyP,zgB,yb,uq,beq_iff_eq] at h;obtain ⟨h1,-,t,ht,hg⟩:=h;simp only [graphT,yb,beq_iff_eq] at hg;obtain ⟨⟨g1,g2⟩,⟨g3,g4⟩,g5⟩:=hg;obtain ⟨⟨x,hx⟩,-,z,hz⟩:=graph_cols (l4 t ht).2.2.2.1 g2;refine ⟨h1,?_⟩;rw [hz] at g5;simp only [yf] at g5;have:=yi.1 l3 z (zaf hz);simp only [zbJ,yb,yd] at this;omega
theorem good_of_valid {n m} (hn:4294967296≤n) (hS:SmallM m) (hV:ValidM m):Good n m:=by
 refine ⟨λa ha=>?_,λc hc=>?_⟩
 ·obtain ⟨a1,a2,a3,a4,a5⟩:=hS.act a ha;have he:=(valid_act hV ha).1;simp only [effP,yb] at he;obtain ⟨p1,p2⟩:=zgh _ _ he.1;exact ⟨by omega,by omega,λk=>addP_addedP k _ p2 λd hd=>by have:=p1 d hd;omega,λr hr=>by have:=a5 r hr;omega⟩
 ·have hl:=hS.con c hc;rcases zer hV hc with h | h
  ·simp only [zdi,yb,beq_iff_eq] at h;refine ⟨.inl h.1.1.1,by omega,by omega,0,?_,by decide,by omega⟩;rw [h.1.2];rfl
  ·obtain ⟨k1,s1,s2⟩:=acy_size hV h;refine ⟨.inr k1,by omega,by omega,c.size.toNat*c.size.toNat,?_,?_,?_⟩
   ·have:c.size*c.size≤6*6:=Int.mul_le_mul s2 s2 (by omega) (by omega);have h0:0≤c.size*c.size:=Int.mul_nonneg (by omega) (by omega);unfold mul64;rw [zbK (by omega) (by omega),yH,Int.toNat_of_nonneg (by omega)]
   ·have:c.size.toNat*c.size.toNat≤6*6:=y0 (by omega) (by omega);omega
   ·have:c.size.toNat*c.size.toNat≤6*6:=y0 (by omega) (by omega);omega
theorem zeX {m q} (h:zd3 m q=true):(0≤q.e∧q.e<(m.actions.length:Int))∧(0≤q.f∧q.f<(m.actions.length:Int))∧0≤q.target.index∧(q.target.hold=true→∀ a,idx m.actions q.e=some a→q.target.index<(a.effect.hold.length:Int))∧(q.target.hold=false→q.e≤q.f∧q.target.index<(m.constraints.length:Int)):=by
 simp only [zd3,yb,yd] at h;obtain ⟨⟨⟨h1,h2⟩,h3⟩,h4⟩:=h;refine ⟨h1,h2,h3,λhh a ha=>?_,λhh=>?_⟩
 ·rw [if_pos hh,ha] at h4;simpa using h4
 ·rw [if_neg (by simp [hh])] at h4;simpa using h4
def nextL:List Range→List Int→Option (List Int)
 | r::rs,x::xs=>match nextL rs xs with
  | some ys=>some (x::ys)
  | none=>if x<r.hi then some ((x+1)::rs.map (·.lo)) else none
 | _,_=>none
def inBox:List Range→List Int→Bool
 | r::rs,x::xs=>(decide (r.lo≤x)&&decide (x≤r.hi))&&inBox rs xs
 | [],[]=>true
 | _,_=>false
def zdh:List Range→Nat
 | []=>1
 | r::rs=>(r.hi - r.lo+1).toNat*zdh rs
def valB:List Range→List Int→Nat
 | r::rs,x::xs=>(x - r.lo).toNat*zdh rs+valB rs xs
 | _,_=>0
def leastB (box:List Range):List Int:=box.map (·.lo)
def goodB (box:List Range):Bool:=box.all λr=>decide (r.lo≤r.hi)&&(decide (-9999≤r.lo)&&decide (r.hi≤9999))
theorem zdM:∀ {box:List Range} {s:List Int},inBox box s=true→s.length=box.length
 | [],[],_=>rfl
 | [],_::_,h=>by simp [inBox] at h
 | _::_,[],h=>by simp [inBox] at h
 | _::rs,_::xs,h=>by
  simp only [inBox,yb] at h;simp [zdM h.2]
theorem zeQ:∀ {box:List Range} {s:List Int} (h:inBox box s=true) (i:Nat) (hi:i<box.length) (hs:i<s.length),box[i].lo≤s[i]∧s[i]≤box[i].hi
 | [],_,_,i,hi,_=>by simp at hi
 | _::_,[],h,_,_,_=>by simp [inBox] at h
 | r::rs,x::xs,h,0,_,_=>by
  simp only [inBox,yb,yd] at h;exact h.1
 | r::rs,x::xs,h,i+1,hi,hs=>by
  simp only [inBox,yb] at h;simpa using zeQ h.2 i (by simpa using hi) (by simpa using hs)
theorem least_in:∀ {box:List Range},goodB box=true→inBox box (leastB box)=true
 | [],_=>rfl
 | r::rs,h=>by
  simp only [goodB,y7,yb,yd] at h;simp only [leastB,yP,inBox,yb,yd];exact ⟨⟨Int.le_refl _,h.1.1⟩,least_in (by simpa only [goodB] using h.2)⟩
theorem val_lt:∀ {box:List Range} {s:List Int},inBox box s=true→goodB box=true→valB box s<zdh box
 | [],[],_,_=>by simp [valB,zdh]
 | [],_::_,h,_=>by simp [inBox] at h
 | _::_,[],h,_=>by simp [inBox] at h
 | r::rs,x::xs,h,hg=>by
  simp only [inBox,yb,yd] at h;simp only [goodB,y7,yb,yd] at hg;have ih:=val_lt h.2 (by simpa only [goodB] using hg.2);simp only [valB,zdh];have h1:(x - r.lo).toNat+1≤(r.hi - r.lo+1).toNat:=by omega
  have h2:=yU (zdh rs) h1;rw [uo] at h2;omega
theorem val_least:∀ (box:List Range),valB box (leastB box)=0
 | []=>rfl
 | r::rs=>by simp [leastB,valB];exact val_least rs
theorem next_none_val:∀ {box:List Range} {s:List Int},inBox box s=true→goodB box=true→nextL box s=none→valB box s+1=zdh box
 | [],[],_,_,_=>rfl
 | [],_::_,h,_,_=>by simp [inBox] at h
 | _::_,[],h,_,_=>by simp [inBox] at h
 | r::rs,x::xs,h,hg,hn=>by
  simp only [inBox,yb,yd] at h;simp only [goodB,y7,yb,yd] at hg;rw [nextL] at hn;split at hn
  ·cases hn
  ·rename_i hr;split at hn
   ·cases hn
   ·have ih:=next_none_val h.2 (by simpa only [goodB] using hg.2) hr;simp only [valB,zdh];have h1:(r.hi - r.lo+1).toNat=(x - r.lo).toNat+1:=by omega
    rw [h1,uo];omega
theorem next_some:∀ {box:List Range} {s t:List Int},inBox box s=true→goodB box=true→nextL box s=some t→inBox box t=true∧valB box t=valB box s+1
 | [],[],_,_,_,hn=>by simp [nextL] at hn
 | [],_::_,_,h,_,_=>by simp [inBox] at h
 | _::_,[],_,h,_,_=>by simp [inBox] at h
 | r::rs,x::xs,t,h,hg,hn=>by
  simp only [inBox,yb,yd] at h;have hg':=hg;simp only [goodB,y7,yb,yd] at hg;have hgr:goodB rs=true:=by simpa only [goodB] using hg.2
  rw [nextL] at hn;split at hn
  ·rename_i ys hr;cases hn;obtain ⟨p1,p2⟩:=next_some h.2 hgr hr;simp only [inBox,valB,yb,yd];exact ⟨⟨h.1,p1⟩,by omega⟩
  ·rename_i hr;split at hn
   ·rename_i hx;cases hn;have ih:=next_none_val h.2 hgr hr;have hl:=least_in hgr;have hv:=val_least rs;unfold leastB at hl hv;simp only [inBox,valB,yb,yd,hv];refine ⟨⟨⟨by omega,by omega⟩,hl⟩,?_⟩;have h1:(x+1 - r.lo).toNat=(x - r.lo).toNat+1:=by omega
    rw [h1,uo];omega
   ·cases hn
theorem ref17_Valid_good {n box} (hg:goodB box=true) (hl:box.length≤100) (hn:1000000≤n):zS n box []=some true:=by
 unfold zS;rw [if_neg (by simp;omega)];have:=zE (body:=zS.l1 n box []) (len:=box.length) (st:=λi=>(i:Int)) (g:=λ_=>some true) (λrec i hi hr=>?_) (λrec=>?_) n 0 (yp _) (by omega)
 ·simpa using this
 ·have:=yi.1 hg _ (yg hi);simp only [yb,yd] at this;have h1:(decide (-1000000≤box[i].lo)&&decide (box[i].lo≤1000000))=true:=by simp;omega
  have h2:(decide (-1000000≤box[i].hi)&&decide (box[i].hi≤1000000))=true:=by simp;omega
  simp only [zS.l1,zk hi,if_true,za hi,ya,zaS,h1,h2,yj,yr,grd,yf,y6,Bool.or_self,ye,if_false,zb (i:=i) (by omega),hr]
 ·simp only [zS.l1,zad,ye,if_false];rw [zg3 (by omega)];simp [zS.l2]
theorem zf4 {n box s} (hi:inBox box s=true) (hl:box.length≤100) (hn:1000000≤n):zax n box s=some true:=by
 have hlen:=zdM hi;unfold zax;rw [if_neg (by simp [hlen])];have:=zE (body:=zax.l1 n box s) (len:=box.length) (st:=λi=>(i:Int)) (g:=λ_=>some true) (λrec i hlt hr=>?_) (λrec=>?_) n 0 (yp _) (by omega)
 ·simpa using this
 ·have hs:i<s.length:=by omega
  have:=zeQ hi i hlt hs;have h1:(decide (box[i].lo≤s[i])&&decide (s[i]≤box[i].hi))=true:=by simp;omega
  simp only [zax.l1,zk hlt,if_true,za hlt,za hs,ya,zaS,h1,y6,ye,if_false,zb (i:=i) (by omega),hr]
 ·simp [zax.l1]
theorem nextL_drop:∀ (i:Nat) {box:List Range} {s ys:List Int},s.length=box.length→i≤box.length→nextL (box.drop i) (s.drop i)=some ys→nextL box s=some (s.take i++ys)
 | 0,_,_,_,_,_,h=>by simpa using h
 | i+1,box,s,ys,hl,hi,h=>by
  have hb:i<box.length:=by omega
  have hs:i<s.length:=by omega
  have:nextL (box.drop i) (s.drop i)=some (s[i]::ys):=by
   rw [zh hb,zh hs,nextL,h]
  rw [nextL_drop i hl (by omega) this,yv hs,yL];rfl
theorem ref17_Next_eq {n box s} (hg:goodB box=true) (hi:inBox box s=true) (hl:box.length≤100) (hn:1000000≤n) :
  zbR n box s=some (match nextL box s with | some ys=>(ys,true) | none=>([],false)):=by
 have hlen:=zdM hi;unfold zbR;rw [ref17_Valid_good hg hl hn,zf4 hi hl hn];simp only [ya,yj,yr,grd,if_true,yf,y6,Bool.or_self,ye,if_false];have main:∀ (m k:Nat),k<m→k≤box.length→nextL (box.drop k) (s.drop k)=none→loopF (zbR.l1 n box s) m ((k:Int) - 1)=some (match nextL box s with | some ys=>(ys,true) | none=>([],false)):=λm=>by
  induction m with
  | zero=>intro k h;omega
  | succ m ih=>
   intro k hk hkl hnone;simp only [loopF,zbR.l1];cases k with
   | zero=>
    simp only [List.drop_zero] at hnone;rw [hnone];simp
   | succ k=>
    have hkb:k<box.length:=by omega
    have hks:k<s.length:=by omega
    have e:((k+1:Nat):Int) - 1=(k:Int):=by omega
    have hd:decide (0≤(k:Int))=true:=by simp
    simp only [e,hd,if_true,za hkb,za hks,ya];by_cases hx:s[k]<box[k].hi
    ·rw [if_pos (by simpa using hx)];have hsome:nextL (box.drop k) (s.drop k)=some ((s[k]+1)::(box.drop (k+1)).map (·.lo)):=by
      rw [zh hkb,zh hks,nextL,hnone];simp [hx]
     rw [nextL_drop k hlen (by omega) hsome];generalize hR:s.take k++(s[k]+1)::(box.drop (k+1)).map (·.lo)=R;have hRl:R.length=box.length:=by rw [← hR];simp;omega
     have:=zE (body:=zbR.l2 n box s (k:Int)) (len:=box.length) (st:=λj=>(R.take j,(j:Int))) (g:=λ_=>some (R,true)) (λrec j hj hr=>?_) (λrec=>?_) n 0 (yp _) (by omega)
     ·simpa using this
     ·have hjR:j<R.length:=by omega
      have hjs:j<s.length:=by omega
      rw [yv hjR] at hr;simp only [zbR.l2,jn,zk hj,if_true,zb (i:=j) (by omega)];by_cases h1:j<k
      ·have hel:R[j]=s[j]:=by
        simp only [← hR];rw [List.getElem_append_left (by simp;omega)];simp
       rw [if_pos (by simpa using h1),za hjs,ya,zr (by simp;omega),ya];rw [hel] at hr;exact hr
      ·rw [if_neg (by simpa using h1)];by_cases h2:j=k
       ·subst h2;have hel:R[j]=s[j]+1:=by
         simp only [← hR];rw [List.getElem_append_right (by simp;omega)];simp [show min j s.length=j by omega]
        have hb:=zeQ hi j hkb hjs;have hbd:=yi.1 hg _ (yg hkb);simp only [yb,yd] at hbd;have hadd:add64 s[j] 1=s[j]+1:=by unfold add64;rw [zbK (by omega) (by omega)]
        rw [if_pos (by simp),za hjs,ya,hadd,zr (by simp;omega),ya];rw [hel] at hr;exact hr
       ·have hel:R[j]=box[j].lo:=by
         simp only [← hR];rw [List.getElem_append_right (by simp;omega)];have e2:j - (s.take k).length=(j - k - 1)+1:=by simp;omega
         simp only [e2,List.getElem_cons_succ,List.getElem_map,List.getElem_drop];congr 2;omega
        rw [if_neg (by simp;omega),za hj,ya,zr (by simp;omega),ya];rw [hel] at hr;exact hr
     ·simp only [zbR.l2,zad,ye,if_false];rw [List.take_of_length_le (by omega)]
    ·rw [if_neg (by simpa using hx)];have hsub:sub64 (k:Int) 1=(k:Int) - 1:=by unfold sub64;rw [zbK (by omega) (by omega)]
     rw [hsub];refine ih k (by omega) (by omega) ?_;rw [zh hkb,zh hks,nextL,hnone];simp [hx]
 rw [sub64_len (by omega)];refine main n box.length (by omega) (yn _) ?_;rw [List.drop_length,List.drop_eq_nil_of_le (by omega)];rfl
theorem ref17_Least_eq {n box} (hl:box.length≤100) (hn:1000000≤n):zcA n box=some (leastB box):=by
 unfold zcA;have:=zE (body:=zcA.l1 n box) (len:=box.length) (st:=λi=>((box.take i).map (·.lo),(i:Int))) (g:=λ_=>some (leastB box)) (λrec i hi hr=>?_) (λrec=>?_) n 0 (yp _) (by omega)
 ·simpa using this
 ·rw [← zdR hi] at hr;simp only [zcA.l1,zk hi,if_true,za hi,ya,zb (i:=i) (by omega)];rw [zr (by simp;omega),ya];exact hr
 ·simp [zcA.l1,leastB]
theorem states_all {n box f} (hg:goodB box=true) (hl:box.length≤100) (hn:1000000≤n) (hc:zdh box<n) (hf:∀ s,inBox box s=true→f s=some true) :
  loopF (za9.l1 n f box) n (leastB box,true)=some true:=by
 refine zew (body:=za9.l1 n f box) (λs=>if s.2=true then zdh box - valB box s.1 else 0) (λs=>s.2=true→inBox box s.1=true) (λ_ o=>o=some true) (λrec s hI hr=>?_) n _ (λ_=>least_in hg) ?_
 ·obtain ⟨s,b⟩:=s;simp only [za9.l1];cases b with
  | false=>simp
  | true=>
   have hin:inBox box s=true:=hI rfl;have hv:=val_lt hin hg;simp only [if_true,hf s hin,ya,y6,ye,if_false,ref17_Next_eq hg hin hl hn];cases hnx:nextL box s with
   | none=>exact hr ([],false) (λh=>by cases h) (by
    show 0<zdh box - valB box s;omega)
   | some t=>
    obtain ⟨p1,p2⟩:=next_some hin hg hnx;exact hr (t,true) (λ_=>p1) (by
     have:valB box s<zdh box:=hv;show zdh box - valB box t<zdh box - valB box s;omega)
 ·simp only [if_true];omega
def sumP (s:List Int):List Term→Int
 | []=>0
 | t::l=>t.factor*s.getD t.cell.toNat 0+sumP s l
def zfs (k:Nat) (t:Term):Prop:=0≤t.cell∧t.cell<(k:Int)∧-1000≤t.factor∧t.factor≤1000
theorem mul_bd {f x B:Int} (h1 : -1000≤f) (h2:f≤1000) (h3 : -B≤x) (h4:x≤B) : -(1000*B)≤f*x∧f*x≤1000*B:=by
 have hB:0≤B:=by omega
 have a1:f.natAbs≤1000:=by omega
 have a2:x.natAbs≤B.toNat:=by omega
 have a3:(f*x).natAbs≤1000*B.toNat:=by rw [Int.natAbs_mul];exact y0 a1 a2
 omega
theorem getD_idx {s:List Int} {c:Int} (h0:0≤c) (h1:c<(s.length:Int)):idx s c=some (s.getD c.toNat 0):=by
 obtain ⟨k,rfl⟩:=yR h0;have:k<s.length:=by omega
 rw [za this];simp [List.getD,this]
theorem getD_mem {s:List Int} {c:Int} (h0:0≤c) (h1:c<(s.length:Int)):s.getD c.toNat 0∈s:=zaf (getD_idx h0 h1)
def anyR (p:Nat→Bool) (i:Nat):Nat→Bool
 | 0=>false
 | k+1=>p i||anyR p (i+1) k
theorem anyR_mono {p q}:∀ {k i:Nat},(∀ j,i≤j→j<i+k→p j=true→q j=true)→anyR p i k=true→anyR q i k=true
 | 0,_,_,h=>by simp [anyR] at h
 | k+1,i,hpq,h=>by
  simp only [anyR,yw] at h ⊢;rcases h with h | h
  ·exact .inl (hpq i (yn _) (by omega) h)
  ·exact .inr (anyR_mono (λj h1 h2=>hpq j (by omega) (by omega)) h)
def neP (E:Nat→Nat→Bool) (size:Nat):Nat→List Int→Nat→Nat→Bool
 | 0,_,first,last=>E last first
 | d+1,path,first,last=>anyR (λx=>!(decide ((x:Int)∈path)||!E last x)&&neP E size d (path++[(x:Int)]) first x) (first+1) (size - (first+1))
theorem neP_mono {E F size} (h:∀ a b,a<size→b<size→E a b=true→F a b=true):∀ (d:Nat) (path:List Int) (first last:Nat),first<size→last<size→neP E size d path first last=true→neP F size d path first last=true
 | 0,_,first,last,h1,h2,he=>h _ _ h2 h1 he
 | d+1,path,first,last,h1,h2,he=>by
  rw [neP] at he ⊢;refine anyR_mono (λj hj hk hp=>?_) he;simp only [yb,yz,uf,Bool.not_eq_false'] at hp ⊢;exact ⟨⟨hp.1.1,h _ _ h2 (by omega) hp.1.2⟩,neP_mono h d _ first j h1 (by omega) hp.2⟩
def edgeP (s:List Int) (c:Constraint) (a b:Nat):Bool:=decide (1≤s.getD (c.first+(a:Int)*c.size+(b:Int)).toNat 0)
structure GraphIn (c:Constraint) (s:List Int) (size:Nat):Prop where
 sz:c.size=(size:Int)
 pos:1≤size
 six:size≤6
 first:0≤c.first
 fits:c.first+(size*size:Nat)≤(s.length:Int)
 len:s.length≤1000
def acycE (E:Nat→Nat→Bool) (size:Nat):Bool:=allR (λlen=>allR (λa=>!neP E size (len - 1) [(a:Int)] a a) 0 size) 1 size
theorem acycE_mono {E F size} (h:∀ a b,a<size→b<size→E a b=true→F a b=true) (hF:acycE F size=true):acycE E size=true:=by
 unfold acycE at hF ⊢;rw [allR_iff] at hF ⊢;intro len h1 h2;have:=hF len h1 h2;rw [zgM] at this ⊢;intro a ha;have hn:=this a ha;cases hx:neP E size (len - 1) [(a:Int)] a a with
 | false=>rfl
 | true=>rw [neP_mono h _ _ _ _ ha ha hx] at hn;exact hn
inductive ConIn (c:Constraint) (k:Nat):Prop
 | row:c.kind=0→(∀ t∈c.row.terms,zfs k t)→c.row.terms.length≤1000→(-4000000000≤c.row.bound∧c.row.bound≤4000000000)→ConIn c k
 | graph (size:Nat):c.kind=1→c.size=(size:Int)→1≤size→size≤6→0≤c.first→c.first+(size*size:Nat)≤(k:Int)→ConIn c k
def zX (c:Constraint) (s:List Int):Bool:=if c.kind=1 then acycE (edgeP s c) c.size.toNat else decide (sumP s c.row.terms≤c.row.bound)
theorem range_snoc {β:Type} (g:Nat→List β) (k:Nat):(List.range (k+1)).flatMap g=(List.range k).flatMap g++g k:=by
 rw [uA,List.flatMap_append];simp
theorem ixP_spec {α:Type} (p):∀ (l:List α) (i:Nat),(ixP p l i = -1∧∀ x∈l,p x=false)∨∃ k,∃ h:k<l.length,ixP p l i=((i+k:Nat):Int)∧p l[k]=true∧∀ x∈l.take k,p x=false
 | [],i=>.inl ⟨rfl,λx hx=>by simp at hx⟩
 | x::l,i=>by
  rw [ixP];by_cases h:p x=true
  ·rw [if_pos h];exact .inr ⟨0,by simp,rfl,h,λy hy=>by simp at hy⟩
  ·rw [if_neg h];rcases ixP_spec p l (i+1) with ⟨h1,h2⟩ | ⟨k,hk,h1,h2,h3⟩
   ·refine .inl ⟨h1,λy hy=>?_⟩;simp only [yM] at hy;rcases hy with rfl | hy
    ·simpa using h
    ·exact h2 y hy
   ·refine .inr ⟨k+1,by simpa using hk,by rw [h1];omega,by simpa using h2,λy hy=>?_⟩;simp only [List.take_succ_cons,yM] at hy;rcases hy with rfl | hy
    ·simpa using h
    ·exact h3 y hy
def boxM (m:Model):List Range:=zA m.sorts true m.tables
theorem rangesP_mem {sizes s}:∀ {l:List Table} {r:Range},r∈zA sizes s l→∃ t∈l,r=t.range
 | [],r,h=>by simp [zA] at h
 | t::l,r,h=>by
  rw [zA] at h;split at h
  ·rcases yK.1 h with h | h
   ·exact ⟨t,by simp,(List.mem_replicate.1 h).2⟩
   ·obtain ⟨u,hu,e⟩:=rangesP_mem h;exact ⟨u,by simp [hu],e⟩
  ·obtain ⟨u,hu,e⟩:=rangesP_mem h;exact ⟨u,by simp [hu],e⟩
theorem box_good {m} (hL:zaV m.sorts m.tables=true):goodB (boxM m)=true:=by
 unfold goodB;rw [yi];intro r hr;obtain ⟨t,ht,rfl⟩:=rangesP_mem hr;have hL':=hL;simp only [zaV,yb] at hL';have:=zdP hL'.2 t ht;simp only [tabP,yb] at this;have hrg:=this.2;unfold rangedP at hrg;split at hrg
 ·simp only [yb,yd] at hrg ⊢;omega
 ·simp only [yd] at hrg;rw [hrg];decide
theorem lay_fit {sizes} (hs:sizes.all zbJ=true):∀ {l:List Table} {seen:List (List UInt8)} {a b:Int},layP sizes seen a b l=true→0≤a→a+216*(l.length:Int)≤1000000→∀ t∈l,zaG t.kind=true→a≤t.first∧t.first+zaa sizes t.columns 1≤a+((zA sizes true l).length:Int)
 | [],_,_,_,_,_,_,t,ht,_=>by simp at ht
 | x::l,seen,a,b,h,ha,hb,t,ht,hst=>by
  have htab:=zdP h x (by simp);simp only [tabP,yb,yd] at htab;have hw:=zft hs htab.1.2.2 htab.1.2.1;simp only [layP,yb] at h;have h2:=h.2;simp only [yO] at hb;have hcast:((l.length+1:Nat):Int)=(l.length:Int)+1:=by omega
  rw [hcast] at hb;by_cases hx:zaG x.kind=true
  ·rw [if_pos hx] at h2;simp only [yb,beq_iff_eq] at h2;have hadd:add64 a (zaa sizes x.columns 1)=a+zaa sizes x.columns 1:=by unfold add64;exact zbK (by omega) (by omega)
   rw [hadd] at h2;have hlen:((zA sizes true (x::l)).length:Int)=zaa sizes x.columns 1+((zA sizes true l).length:Int):=by
    rw [zA,hx,if_pos (by rfl),yI,yW];omega
   rw [hlen];rcases yM.1 ht with rfl | ht
   ·omega
   ·have:=lay_fit hs h2.2 (by omega) (by omega) t ht hst;omega
  ·rw [if_neg hx] at h2;simp only [yb,beq_iff_eq] at h2;have hx':zaG x.kind=false:=by simpa using hx
   have hlen:(zA sizes true (x::l))=zA sizes true l:=by
    rw [zA,hx',if_neg (by decide)]
   rw [hlen];rcases yM.1 ht with rfl | ht
   ·rw [hst] at hx';cases hx'
   ·exact lay_fit hs h2.2 ha (by omega) t ht hst
theorem zeN {K}:∀ {l:List Term} {last:Int},rowP K last l=true→-1≤last→∀ t∈l,zfs K t
 | [],_,_,_,t,ht=>by simp at ht
 | x::l,last,h,hl,t,ht=>by
  simp only [rowP,zar,yb,yd] at h;rcases yM.1 ht with rfl | ht
  ·exact ⟨by omega,h.1.1.1.2,by omega,by omega⟩
  ·exact zeN h.2 (by omega) t ht
theorem con_in {m} (hS:SmallM m) (hV:ValidM m) {c} (hc:c∈m.constraints):ConIn c (boxM m).length:=by
 have hl:=hS.con c hc;rcases zer hV hc with h | h
 ·simp only [zdi,yb,beq_iff_eq] at h;have h2:=h.2;simp only [rowOK,zar,yb,yd] at h2;exact .row h.1.1.1 (zeN h2.1 (by decide)) (by omega) (by omega)
 ·obtain ⟨l1,l2,l3,l4⟩:=zbi hV.lay;obtain ⟨hk,s1,s2⟩:=acy_size hV h;have hL:=hV.lay;simp only [zaV,yb] at hL;simp only [acyP,zgB,yb,uq,beq_iff_eq] at h;obtain ⟨-,-,t,ht,hg⟩:=h;simp only [graphT,yb,beq_iff_eq] at hg;obtain ⟨⟨g1,g2⟩,⟨g3,g4⟩,g5⟩:=hg;have hfit:=lay_fit l3 hL.2 (Int.le_refl _) (by omega) t ht (by simp [zaG,g1]);have hcols:=(l4 t ht).2.2.2.1;obtain ⟨⟨x,hx⟩,⟨y,hy⟩,-⟩:=graph_cols hcols g2;obtain ⟨p,q,hpq⟩:∃ p q,t.columns=[p,q]:=by
   match hcs:t.columns with
   | []=>rw [hcs] at g2;simp at g2
   | [_]=>rw [hcs] at g2;simp at g2
   | [p,q]=>exact ⟨p,q,rfl⟩
   | _::_::_::_=>rw [hcs] at g2;simp at g2;omega
  have hp0:idx t.columns 0=some p:=by rw [hpq];rfl
  have hq0:idx t.columns 1=some q:=by rw [hpq];rfl
  rw [hp0,hq0] at g3;rw [hp0] at g5;simp only [yf] at g3 g5;subst g3;have hcp:=yi.1 hcols p (by rw [hpq];simp);rw [zd7 hcp] at g5;simp only [yf] at g5;have hw:zaa m.sorts t.columns 1=c.size*c.size:=by
   rw [hpq];simp only [zaa,g5];have:c.size*c.size≤6*6:=Int.mul_le_mul s2 s2 (by omega) (by omega);have h0:0≤c.size*c.size:=Int.mul_nonneg (by omega) (by omega);unfold mul64;rw [Int.one_mul,zbK (x:=c.size) (by omega) (by omega),zbK (by omega) (by omega)]
  rw [hw] at hfit;have hsz:c.size=((c.size.toNat:Nat):Int):=by omega
  refine .graph c.size.toNat hk hsz (by omega) (by omega) (by omega) ?_;have e:((c.size.toNat*c.size.toNat:Nat):Int)=c.size*c.size:=by rw [yH,← hsz]
  rw [e];unfold boxM;omega
def plusP (s:List Int) (d:List Change):List Int:=(List.range s.length).map λi=>s.getD i 0+zg d (i:Int)
theorem zdT (s d):(plusP s d).length=s.length:=by simp [plusP]
theorem zfk {s d c} (h0:0≤c) (h1:c<(s.length:Int)):(plusP s d).getD c.toNat 0=s.getD c.toNat 0+zg d c:=by
 obtain ⟨k,rfl⟩:=yR h0;have hk:k<s.length:=by omega
 simp [plusP,List.getD,hk]
def zf9 (d:List Change):Prop:=∀ x∈d,-1000000000≤x.add∧x.add≤1000000000
theorem zcM {d} (h:zf9 d) (c) : -1000000000≤zg d c∧zg d c≤1000000000:=by
 induction d with
 | nil=>simp [zg]
 | cons x l ih=>
  simp only [zg];split
  ·exact h x (by simp)
  ·exact ih λy hy=>h y (by simp [hy])
def chgP (d:List Change):List Term→Int
 | []=>0
 | t::l=>t.factor*zg d t.cell+chgP d l
theorem zgv {s d}:∀ {l:List Term},(∀ t∈l,zfs s.length t)→sumP (plusP s d) l=sumP s l+chgP d l
 | [],_=>rfl
 | t::l,h=>by
  obtain ⟨t1,t2,-⟩:=h t (by simp);have ih:=zgv (s:=s) (d:=d) (l:=l) λx hx=>h x (by simp [hx])
  simp only [sumP,chgP,zfk t1 t2,ih,Int.mul_add];omega
set_option maxRecDepth 20000 in
theorem change_exact {d} (hd:zf9 d):∀ {l:List Term} {s:Int},(∀ t∈l,-1000≤t.factor∧t.factor≤1000)→(l.length:Int)≤1000→-(1000000000000*(1000 - (l.length:Int)))≤s∧s≤1000000000000*(1000 - (l.length:Int))→zd5 (zg d) l s=s+chgP d l
 | [],s,_,_,_=>by simp [zd5,chgP]
 | t::l,s,ht,hl,hs=>by
  have hf:=ht t (by simp);have ha:=zcM hd t.cell;have hm:=mul_bd hf.1 hf.2 ha.1 ha.2;simp only [yO] at hl hs;have hc:((l.length+1:Nat):Int)=(l.length:Int)+1:=by omega
  rw [hc] at hl hs;have e1:mul64 t.factor (zg d t.cell)=t.factor*zg d t.cell:=by unfold mul64;exact zbK (by omega) (by omega)
  have e2:add64 s (t.factor*zg d t.cell)=s+t.factor*zg d t.cell:=by unfold add64;exact zbK (by omega) (by omega)
  rw [zd5,e1,e2,change_exact hd (λx hx=>ht x (by simp [hx])) (by omega) (by omega),chgP];omega
theorem change_zero {d} (hd:zf9 d) {l} (ht:∀ t∈l,-1000≤t.factor∧t.factor≤1000) (hl:l.length≤1000):zd5 (zg d) l 0=chgP d l:=by
 rw [change_exact hd ht (by omega) (by omega)];omega
theorem zfD {n m t} (hc:t.columns.all (colOK m.sorts)=true) (hl:t.columns.length≤1000) (hn:1000000≤n):zbs n m t=some (zaa m.sorts t.columns 1):=by
 have:=zE (body:=zbs.l1 n m t) (len:=t.columns.length) (st:=λi=>(zaa m.sorts (t.columns.take i) 1,(i:Int))) (g:=λ_=>some (zaa m.sorts t.columns 1)) (λrec i hi hr=>?_) (λrec=>?_) n 0 (yp _) (by omega)
 ·simpa [zbs,zaa] using this
 ·rw [yv hi,zdZ] at hr;simp only [zaa] at hr;simp only [zbs.l1,zk hi,if_true,za hi,ya,zd7 (yi.1 hc _ (yg hi)),zb (i:=i) (by omega),hr]
 ·simp [zbs.l1]
theorem ref22_Box_eq {n m} (hS:SmallM m) (hL:zaV m.sorts m.tables=true) (hn:1000000≤n):zb7 n m=some (boxM m):=by
 obtain ⟨l1,l2,l3,l4⟩:=zbi hL;unfold zb7;have:=zE (body:=zb7.l1 n m) (len:=m.tables.length) (st:=λi=>(zA m.sorts true (m.tables.take i),(i:Int))) (g:=λ_=>some (boxM m)) (λrec i hi hr=>?_) (λrec=>?_) n 0 (yp _) (by omega)
 ·simpa [zA] using this
 ·obtain ⟨-,-,c1,c2,c3,c4⟩:=l4 _ (yg hi);have hlen:=zcv (sizes:=m.sorts) (s:=true) (l:=m.tables.take i) λx hx=>(l4 x (List.mem_of_mem_take hx)).2.2.2.2
  simp only [yQ] at hlen;rw [zfl hi] at hr;obtain ⟨W,hW⟩:=yR (show 0≤zaa m.sorts m.tables[i].columns 1 by omega);have hcell:=zfD (n:=n) (m:=m) (t:=m.tables[i]) c2 (by omega) hn;rw [hW] at hcell hr;simp only [zb7.l1,jn,zk hi,if_true,za hi,ya,zcV,zb (i:=i) (by omega)];by_cases hst:(m.tables[i].kind==0||m.tables[i].kind==1)=true
  ·have hst':(zaG m.tables[i].kind==true)=true:=by simpa [zaG] using hst
   rw [if_pos hst'] at hr;rw [if_pos hst];have inner:=zE (body:=zb7.l2 n m (i:Int) (λv=>rec (v,((i+1:Nat):Int)))) (len:=W) (st:=λk=>(zA m.sorts true (m.tables.take i)++List.replicate k m.tables[i].range,(k:Int))) (g:=λ_=>some (boxM m)) (λrec' k hk hr'=>?_) (λrec'=>?_) n 0 (yp _) (by omega)
   ·simpa using inner
   ·simp only [zb7.l2,za hi,ya,hcell,zcK hk,if_true,zb (i:=k) (by omega)];rw [zr (by simp only [yI,yW,uI];omega),ya,yL,← List.replicate_succ',hr']
   ·simp only [zb7.l2,za hi,ya,hcell,zck (yn W),ye,if_false];simpa using hr
  ·have hst':¬ (zaG m.tables[i].kind==true)=true:=by simpa [zaG] using hst
   rw [if_neg hst'] at hr;rw [if_neg hst];exact hr
 ·simp [zb7.l1,boxM]
theorem ref16_Total_eq {n m} (hL:zaV m.sorts m.tables=true) (hn:1000000≤n):zbV n m=some ((boxM m).length:Int):=by
 obtain ⟨l1,l2,l3,l4⟩:=zbi hL;unfold zbV;have:=zE (body:=zbV.l1 n m) (len:=m.tables.length) (st:=λi=>(((zA m.sorts true (m.tables.take i)).length:Int),(i:Int))) (g:=λ_=>some ((boxM m).length:Int)) (λrec i hi hr=>?_) (λrec=>?_) n 0 (yp _) (by omega)
 ·simpa [zA] using this
 ·obtain ⟨-,-,c1,c2,c3,c4⟩:=l4 _ (yg hi);have hlen:=zcv (sizes:=m.sorts) (s:=true) (l:=m.tables.take i) λx hx=>(l4 x (List.mem_of_mem_take hx)).2.2.2.2
  simp only [yQ] at hlen;rw [zfl hi] at hr;have hcell:=zfD (n:=n) (m:=m) (t:=m.tables[i]) c2 (by omega) hn;simp only [zbV.l1,jn,zk hi,if_true,za hi,ya,zcV,hcell,zb (i:=i) (by omega)];by_cases hst:(m.tables[i].kind==0||m.tables[i].kind==1)=true
  ·have hst':(zaG m.tables[i].kind==true)=true:=by simpa [zaG] using hst
   rw [if_pos hst'] at hr;rw [if_pos hst];have e:add64 ((zA m.sorts true (m.tables.take i)).length:Int) (zaa m.sorts m.tables[i].columns 1)=((zA m.sorts true (m.tables.take i)++List.replicate (zaa m.sorts m.tables[i].columns 1).toNat m.tables[i].range).length:Int):=by
    unfold add64;rw [zbK (by omega) (by omega),yI,yW];omega
   rw [e];exact hr
  ·have hst':¬ (zaG m.tables[i].kind==true)=true:=by simpa [zaG] using hst
   rw [if_neg hst'] at hr;rw [if_neg hst];exact hr
 ·simp [zbV.l1,boxM]
def possP (m:Model) (e:Effect) (s:List Int):Bool:=m.constraints.all (λc=>zX c s&&zX c (plusP s e.delta))&&e.hold.all λr=>zX ⟨0,0,r,0,0⟩ s
structure StateOK (m:Model) (s:List Int):Prop where
 len:s.length=(boxM m).length
 small:∀ x∈s,-9999≤x∧x≤9999
theorem state_ok {m} (hL:zaV m.sorts m.tables=true) {s} (h:inBox (boxM m) s=true):StateOK m s:=by
 have hlen:=zdM h;refine ⟨hlen,λx hx=>?_⟩;obtain ⟨i,hi,rfl⟩:=List.mem_iff_getElem.1 hx;have hb:i<(boxM m).length:=by omega
 have h1:=zeQ h i hb hi;have h2:=yi.1 (box_good hL) _ (yg hb);simp only [yb,yd] at h2;omega
theorem zdG {m} (hV:ValidM m) {a} (ha:a∈m.actions):zf9 a.effect.delta∧∀ r∈a.effect.hold,rowOK (boxM m).length r=true:=by
 have h:=(valid_act hV ha).1;simp only [effP,yb,yi] at h;obtain ⟨p1,-⟩:=zgh _ _ h.1;exact ⟨λx hx=>by have:=p1 x hx;omega,h.2.2.2⟩
theorem graph_keeps {c s d size} (hk:c.kind=1) (hG:GraphIn c s size) (hch:∀ k:Nat,k<size*size→zg d (c.first+(k:Int))≤0) (h:zX c s=true):zX c (plusP s d)=true:=by
 unfold zX at h ⊢;rw [if_pos hk] at h ⊢;have hsz:c.size.toNat=size:=by have:=hG.sz;omega
 rw [hsz] at h ⊢;refine acycE_mono (λa b ha hb he=>?_) h;have hm:a*size+b<size*size:=by
  have:=yU size (show a+1≤size by omega);rw [uo] at this;omega
 have hf:=hG.fits;have h0:=hG.first
 have hc:(a:Int)*c.size=((a*size:Nat):Int):=by rw [hG.sz,yH]
 unfold edgeP at he ⊢;rw [hc] at he ⊢;rw [zfk (by omega) (by omega)] at he;have:=hch (a*size+b) hm;have e:c.first+((a*size+b:Nat):Int)=c.first+((a*size:Nat):Int)+(b:Int):=by omega
 rw [e] at this;simp only [yd] at he ⊢;omega
theorem raised_nil {p}:∀ {k i:Nat},¬ 0<(zcm p i k).length→∀ j,i≤j→j<i+k→p (j:Int)=false
 | 0,i,_,j,h1,h2=>by omega
 | k+1,i,h,j,h1,h2=>by
  rw [zcm] at h;by_cases hp:p (i:Int)=true
  ·rw [if_pos hp] at h;simp at h
  ·rw [if_neg hp] at h;by_cases e:j=i
   ·subst e;simpa using hp
   ·exact raised_nil h j (by omega) (by omega)
theorem countB_few:∀ {l:List Range} {p:Int},goodB l=true→1≤p→p≤4096→prodP p l=true→p*(zdh l:Nat)≤4096
 | [],p,_,_,h,_=>by simp [zdh];exact h
 | r::l,p,hg,h1,h2,hp=>by
  simp only [goodB,y7,yb,yd] at hg;obtain ⟨⟨g1,g2,g3⟩,g4⟩:=hg;simp only [prodP,yb,yz,yF] at hp;have e1:sub64 r.hi r.lo=r.hi - r.lo:=by unfold sub64;exact zbK (by omega) (by omega)
  have e2:add64 (r.hi - r.lo) 1=r.hi - r.lo+1:=by unfold add64;exact zbK (by omega) (by omega)
  rw [e1,e2] at hp;have hw1:1≤r.hi - r.lo+1:=by omega
  have hw2:r.hi - r.lo+1≤19999:=by omega
  have hlo:1*1≤p*(r.hi - r.lo+1):=Int.mul_le_mul h1 hw1 (by omega) (by omega);have hhi:p*(r.hi - r.lo+1)≤4096*19999:=Int.mul_le_mul h2 hw2 (by omega) (by omega);have e3:mul64 p (r.hi - r.lo+1)=p*(r.hi - r.lo+1):=by unfold mul64;exact zbK (by omega) (by omega)
  rw [e3] at hp;have ih:=countB_few (l:=l) (p:=p*(r.hi - r.lo+1)) (by simpa only [goodB] using g4) (by omega) (by omega) hp.2;simp only [zdh];rw [yH,Int.toNat_of_nonneg (by omega),← Int.mul_assoc];exact ih
theorem zcS {γ S R:Type} {body:(S→Option R)→S→Option R} {k n:Nat} {st:List γ→Nat→S} (g:Nat→List γ) (fin:List γ→Option R) (B:Nat) (b0:List γ) (hB:∀ i,i<k→(g i).length≤B)
  (step:∀ rec (b:List γ) i,i<k→b.length≤b0.length+i*B→body rec (st b i)=rec (st (b++g i) (i+1))) (done:∀ rec (b:List γ),b.length≤b0.length+k*B→body rec (st b k)=fin b) (hn:k<n) :
  loopF body n (st b0 0)=fin (b0++(List.range k).flatMap g):=by
 have:=zbo (σ:=List γ) (body:=body) (len:=k) (st:=st) (g:=λi b=>fin (b++(List.range' i (k - i)).flatMap g)) (λi b=>b.length≤b0.length+i*B) (λrec i b hi hI hr=>?_) (λrec b hI=>?_) n 0 b0 (yp _) (by omega) (by simp)
 ·simpa [List.range_eq_range'] using this
 ·rw [step rec b i hi hI,hr _ (by rw [yI];have:=hB i hi;rw [uo];omega)];have:List.range' i (k - i)=i::List.range' (i+1) (k - (i+1)):=by rw [show k - i=(k - (i+1))+1 by omega,List.range'_succ]
  rw [this,ui,yL]
 ·rw [done rec b hI];simp
theorem loopF_map {α γ S R:Type} {body:(S→Option R)→S→Option R} {l:List α} {n:Nat} {st:List γ→Nat→S} (h:α→γ) (fin:List γ→Option R) (b0:List γ)
  (step:∀ rec (b:List γ) i (hi:i<l.length),b.length=b0.length+i→body rec (st b i)=rec (st (b++[h l[i]]) (i+1))) (done:∀ rec (b:List γ),b.length=b0.length+l.length→body rec (st b l.length)=fin b) (hn:l.length<n) :
  loopF body n (st b0 0)=fin (b0++l.map h):=by
 have:=zE (body:=body) (len:=l.length) (st:=λi=>st (b0++(l.take i).map h) i) (g:=λ_=>fin (b0++l.map h)) (λrec i hi hr=>?_) (λrec=>?_) n 0 (yp _) (by omega)
 ·simpa using this
 ·have e:b0++(l.take (i+1)).map h=b0++(l.take i).map h++[h l[i]]:=by rw [yv hi,ul,yL];rfl
  rw [step rec _ i hi (by simp;omega),← e];exact hr
 ·rw [done rec _ (by simp)];simp
theorem za3 {σ S R:Type} {body:(S→Option R)→S→Option R} {k n:Nat} {st:σ→Nat→S} (I:Nat→σ→Prop) (Q:R→Prop) (hb:∀ rec i s,i<k→I i s→(∀ s',I (i+1) s'→∃ r,rec (st s' (i+1))=some r∧Q r)→∃ r,body rec (st s i)=some r∧Q r)
  (he:∀ rec s,I k s→∃ r,body rec (st s k)=some r∧Q r) (hn:k<n) (s0:σ) (h0:I 0 s0):∃ r,loopF body n (st s0 0)=some r∧Q r:=by
 have key:∀ m i s,i≤k→k - i<m→I i s→∃ r,loopF body m (st s i)=some r∧Q r:=by
  intro m
  induction m with
  | zero=>intro i s _ h;omega
  | succ m ih=>
   intro i s hi hm hI;simp only [loopF];by_cases e:i=k
   ·subst e;exact he _ _ hI
   ·exact hb _ i s (by omega) hI λs' hI'=>ih (i+1) s' (by omega) (by omega) hI'
 exact key n 0 s0 (yp _) (by omega) h0
theorem Index_Lint_eq {n l x} (hl:l.length<1000000) (hn:1000000≤n):∃ k,zap n l x=some k∧(decide (0≤k)=decide (x∈l)):=by
 unfold zap;have:=zE (body:=zap.l1 n l x) (len:=l.length) (st:=λi=>(i:Int)) (g:=λi=>some (ixP (λy=>decide (x=y)) (l.drop i) i)) (λrec i hi hr=>?_) (λrec=>?_) n 0 (yp _) (by omega)
 ·refine ⟨_,this,?_⟩;rw [List.drop_zero,zgY];rw [Bool.eq_iff_iff];simp [uq]
 ·simp only [zap.l1,zk hi,if_true,za hi,ya];rw [zb (i:=i) (by omega),hr,zh hi];by_cases e:x=l[i]
  ·simp [e,ixP]
  ·simp [e,ixP]
 ·simp only [zap.l1,zad,ye,if_false];simp [ixP]
theorem zet {n l x} (hl:l.length<1000000) (hn:1000000≤n):zaN n l x=some (decide (x∈l)):=by
 obtain ⟨k,h1,h2⟩:=Index_Lint_eq (x:=x) hl hn;unfold zaN;rw [h1,ya,h2]
structure GraphOK (g:DGraph) (K:Nat):Prop where
 size:g.size=(K:Int)
 le:K≤6
 len:g.edges.length=K*K
def hasP (g:DGraph) (a b:Nat):Bool:=g.edges.getD (a*g.size.toNat+b) false
theorem zcH {K a b:Nat} (ha:a<K) (hb:b<K):a*K+b<K*K:=by
 have:(a+1)*K≤K*K:=yU _ ha;rw [uo] at this;omega
theorem has_eq {n:Nat} {g:DGraph} {K a b:Nat} (hg:GraphOK g K) (ha:a<K) (hb:b<K):za8 n g (a:Int) (b:Int)=some (hasP g a b):=by
 have h1:=hg.le;have h2:=zcH ha hb;have h4:K*K≤36:=y0 hg.le hg.le;have h3:add64 (mul64 (a:Int) g.size) (b:Int)=((a*K+b:Nat):Int):=by
  rw [hg.size];have e1:mul64 (a:Int) (K:Int)=((a*K:Nat):Int):=by
   unfold mul64;rw [zbK (by rw [← yH];omega) (by rw [← yH];omega)];simp
  rw [e1,zcL (by omega)]
 unfold za8;rw [h3,za (by rw [hg.len];exact h2),ya];simp only [hasP,hg.size,yt,yq];rw [yu (by rw [hg.len];exact h2)];rfl
def VertL (K:Nat) (l:List Int):Prop:=1≤l.length∧l.length≤K∧∀ x∈l,0≤x∧x<(K:Int)
theorem VertL.get {K l} (h:VertL K l) {i} (hi:i<l.length):∃ a:Nat,l[i]=(a:Int)∧a<K:=by
 obtain ⟨h1,h2⟩:=h.2.2 _ (yg hi);exact ⟨l[i].toNat,by omega,by omega⟩
theorem nodup_le:∀ {K:Nat} {l:List Int},l.Nodup→(∀ x∈l,0≤x∧x<(K:Int))→l.length≤K
 | 0,l,_,h=>by
  cases l with
  | nil=>simp
  | cons x l=>have:=h x (by simp);omega
 | K+1,l,hn,h=>by
  by_cases hm:(K:Int)∈l
  ·have h1:=nodup_le (K:=K) (hn.erase (K:Int)) λx hx=>by
    have:=(hn.mem_erase_iff).1 hx;have:=h x this.2;omega
   rw [List.length_erase_of_mem hm] at h1;omega
  ·have:=nodup_le (K:=K) hn λx hx=>by
    have h2:=h x hx;have:x≠(K:Int):=λe=>hm (e▸hx)
    omega
   omega
theorem visit_tot {n:Nat} {g:DGraph} {K:Nat} (hg:GraphOK g K) (hn:1000000≤n):∀ (d k:Nat) (l:List Int) (out:List (List Int)),l.Nodup→VertL K l→K - l.length=d→d<k→out.length≤1000000 - 7 ^ (d+1)→d≤5→(∀ c∈out,VertL K c) →
  ∃ r,zz n g k l out=some r∧r.length≤out.length+7 ^ (d+1)∧∀ c∈r,VertL K c:=by
 intro d
 induction d using Nat.strongRecOn with
 | ind d ih=>
  intro k l out hnd hv hd hk ho hd5 hc;obtain ⟨k,rfl⟩:∃ k',k=k'+1:=⟨k - 1,by omega⟩
  have hK:=hg.le;have hl1:=hv.1;have hl2:=hv.2.1;have hp:7≤7 ^ (d+1):=by have:=Nat.one_le_two_pow (n:=0);exact Nat.le_self_pow (by omega) 7
  have hp2:7 ^ (d+1)≤117649:=by
   have:7 ^ (d+1)≤7 ^ 6:=uy (by omega) (by omega);simpa using this
  obtain ⟨last,hlast,hlK⟩:=hv.get (i:=l.length - 1) (by omega);obtain ⟨first,hfirst,hfK⟩:=hv.get (i:=0) (by omega);have e1:idx l (sub64 (l.length:Int) 1)=some (last:Int):=by
   rw [sub64_1 (by omega) (by omega),za (by omega),hlast]
  have e2:idx l 0=some (first:Int):=by
   have:=za (l:=l) (i:=0) (by omega)
   rw [← hfirst];exact this
  simp only [zz,e1,e2,ya,has_eq hg hlK hfK];have loop:∀ out1:List (List Int),out1.length≤out.length+1→(∀ c∈out1,VertL K c)→∃ r,loopF (zz.l1 n g (zz n g k) l (last:Int)) n (add64 (first:Int) 1,out1)=some r∧r.length≤out.length+7 ^ (d+1)∧∀ c∈r,VertL K c:=by
   intro out1 ho1 hc1;rw [zb (by omega)];have:=za3 (body:=zz.l1 n g (zz n g k) l (last:Int)) (k:=K - (first+1)) (n:=n) (st:=λ(o:List (List Int)) i=>(((first+1+i:Nat):Int),o)) (λi o=>o.length≤out.length+1+i*7 ^ d∧∀ c∈o,VertL K c) (λr=>r.length≤out.length+7 ^ (d+1)∧∀ c∈r,VertL K c)
    (λrec i o hi hI hr=>?_) (λrec o hI=>?_) (by omega) out1 ⟨by simpa using ho1,hc1⟩
   ·simpa using this
   ·have hb:first+1+i<K:=by omega
    have hlt:decide (((first+1+i:Nat):Int)<g.size)=true:=by rw [hg.size];simp;omega
    have hnx:add64 ((first+1+i:Nat):Int) 1=((first+1+(i+1):Nat):Int):=by rw [zb (by omega)];rfl
    simp only [zz.l1,hlt,if_true,has_eq hg hlK hb,ya,hnx];have keep:∃ r,rec (((first+1+(i+1):Nat):Int),o)=some r∧r.length≤out.length+7 ^ (d+1)∧∀ c∈r,VertL K c:=hr o ⟨by have:=hI.1;rw [uo];omega,hI.2⟩;by_cases hh:hasP g last (first+1+i)=true
    ·rw [if_pos hh,zet (by omega) hn,ya];by_cases hm:((first+1+i:Nat):Int)∈l
     ·rw [if_pos (by simpa using hm)];exact keep
     ·rw [if_neg (by simpa using hm),zr (by simp;omega),ya,yZ,zr (by simp;omega),ya];have hnd2:(l++[((first+1+i:Nat):Int)]).Nodup:=by
       rw [List.nodup_append];exact ⟨hnd,by simp,λa ha b hb e=>by simp at hb;subst hb;subst e;exact hm ha⟩
      have hall:∀ x∈l++[((first+1+i:Nat):Int)],0≤x∧x<(K:Int):=λx hx=>by
       rcases yK.1 hx with hx | hx
       ·exact hv.2.2 x hx
       ·simp at hx;subst hx;omega
      have hlen:=nodup_le hnd2 hall;simp only [yI,yO,ux] at hlen;have hd1:1≤d:=by omega
      have hpow:7 ^ d≤7 ^ (d+1):=uy (by omega) (by omega);have h6:i*7 ^ d≤5*7 ^ d:=yU _ (by omega);have h7:7 ^ (d+1)=7*7 ^ d:=by rw [uM];omega
      have hone:1≤7 ^ d:=uR _ _ (by omega);obtain ⟨r,hr1,hr2,hr3⟩:=ih (d - 1) (by omega) k (l++[((first+1+i:Nat):Int)]) o hnd2 ⟨by simp,by simpa using hlen,hall⟩ (by simp;omega) (by omega) (by rw [show d - 1+1=d by omega];have:=hI.1;omega) (by omega) hI.2;rw [show d - 1+1=d by omega] at hr2;rw [hr1,ya];exact hr r ⟨by have:=hI.1;rw [uo];omega,hr3⟩
    ·rw [if_neg hh];exact keep
   ·have hge:decide (((first+1+(K - (first+1)):Nat):Int)<g.size)=false:=by rw [hg.size];simp;omega
    simp only [zz.l1,hge,ye,if_false];have hone:1≤7 ^ d:=uR _ _ (by omega);have h7:7 ^ (d+1)=7*7 ^ d:=by rw [uM];omega
    have h5:(K - (first+1))*7 ^ d≤5*7 ^ d:=yU _ (by omega);exact ⟨o,rfl,by have:=hI.1;omega,hI.2⟩
  by_cases hh:hasP g last first=true
  ·rw [if_pos hh,zr (by simp;omega),ya,yZ,zr (by simp;omega),ya];exact loop _ (by simp) λc hc'=>by
    rcases yK.1 hc' with h | h
    ·exact hc c h
    ·simp at h;subst h;exact hv
  ·rw [if_neg hh];exact loop _ (by omega) hc
theorem cycles_tot {n:Nat} {g:DGraph} {K:Nat} (hg:GraphOK g K) (hn:1000000≤n):∃ r,loopF (digraph_cycles.l1 n g) n (0,[])=some r∧r.length≤900000∧∀ c∈r,VertL K c:=by
 have hK:=hg.le;have:=za3 (body:=digraph_cycles.l1 n g) (k:=K) (n:=n) (st:=λ(o:List (List Int)) i=>((i:Int),o)) (λi o=>o.length≤i*117649∧∀ c∈o,VertL K c) (λr=>r.length≤900000∧∀ c∈r,VertL K c)
  (λrec i o hi hI hr=>?_) (λrec o hI=>?_) (by omega) [] ⟨by simp,by simp⟩
 ·simpa using this
 ·have hlt:decide ((i:Int)<g.size)=true:=by rw [hg.size];simp;omega
  have hd:7 ^ (K - 1+1)≤117649:=by
   have:7 ^ (K - 1+1)≤7 ^ 6:=uy (by omega) (by omega);simpa using this
  have h5:i*117649≤5*117649:=yU _ (by omega);obtain ⟨r,hr1,hr2,hr3⟩:=visit_tot hg hn (K - 1) n [(i:Int)] o (by simp) ⟨by simp,by simp;omega,by simp;omega⟩ (by simp) (by omega) (by have:=hI.1;omega) (by omega) hI.2;simp only [digraph_cycles.l1,hlt,if_true,hr1,ya];rw [zb (by omega)];exact hr r ⟨by have:=hI.1;rw [uo];omega,hr3⟩
 ·have hge:decide ((K:Int)<g.size)=false:=by rw [hg.size];simp
  simp only [digraph_cycles.l1,hge,ye,if_false];exact ⟨o,rfl,by have:=hI.1;omega,hI.2⟩
def lexP:List Int→List Int→Int
 | [],[]=>0
 | [],_::_=>-1
 | _::_,[]=>1
 | a::l,b::m=>if a<b then -1 else if b<a then 1 else lexP l m
theorem lex_neg:∀ (a b:List Int),lexP b a = -lexP a b
 | [],[]=>rfl
 | [],_::_=>rfl
 | _::_,[]=>rfl
 | a::l,b::m=>by
  have:=lex_neg l m;simp only [lexP];split <;> split <;> omega
theorem lex_zero:∀ {a b:List Int},lexP a b=0→a=b
 | [],[],_=>rfl
 | [],_::_,h=>by simp [lexP] at h
 | _::_,[],h=>by simp [lexP] at h
 | a::l,b::m,h=>by
  simp only [lexP] at h;split at h
  ·omega
  ·split at h
   ·omega
   ·rw [lex_zero h,show a=b by omega]
theorem lex_trans:∀ {a b c:List Int},lexP a b<0→lexP b c<0→lexP a c<0
 | [],[],c,h,_=>by simp [lexP] at h
 | [],_::_,[],_,h=>by simp [lexP] at h
 | [],_::_,_::_,_,_=>by simp [lexP]
 | _::_,[],_,h,_=>by simp [lexP] at h
 | _::_,_::_,[],_,h=>by simp [lexP] at h
 | a::l,b::m,c::k,h1,h2=>by
  simp only [lexP] at *;have ih:=@lex_trans l m k;by_cases e1:a<b
  ·by_cases e2:b<c
   ·rw [if_pos (by omega)];omega
   ·by_cases e3:c<b
    ·rw [if_neg e2,if_pos e3] at h2;omega
    ·rw [if_pos (by omega)];omega
  ·by_cases e1':b<a
   ·rw [if_neg e1,if_pos e1'] at h1;omega
   ·rw [if_neg e1,if_neg e1'] at h1;by_cases e2:b<c
    ·rw [if_pos (by omega)];omega
    ·by_cases e3:c<b
     ·rw [if_neg e2,if_pos e3] at h2;omega
     ·rw [if_neg e2,if_neg e3] at h2;rw [if_neg (by omega),if_neg (by omega)];exact ih h1 h2
def cmpI (a b:Int):Int:=if a<b then -1 else if b<a then 1 else 0
def cmpC (a b:List Int):Int:=if cmpI a.length b.length≠0 then cmpI a.length b.length else lexP a b
theorem zgg (a b):cmpC b a = -cmpC a b:=by
 have:=lex_neg a b;unfold cmpC cmpI;split <;> split <;> (try split) <;> (try split) <;> simp_all <;> omega
theorem cmpC_zero {a b} (h:cmpC a b=0):a=b:=by
 unfold cmpC at h;split at h
 ·rename_i hne;exact absurd h hne
 ·exact lex_zero h
theorem cmpC_trans {a b c} (h1:cmpC a b<0) (h2:cmpC b c<0):cmpC a c<0:=by
 have k:∀ (x y:List Int),cmpC x y<0↔(x.length<y.length∨(x.length=y.length∧lexP x y<0)):=by
  intro x y;unfold cmpC cmpI;by_cases e:(x.length:Int)<y.length
  ·simp [e];omega
  ·by_cases e2:(y.length:Int)<x.length
   ·simp [e,e2];omega
   ·simp [e,e2];omega
 rw [k] at *;rcases h1 with h1 | ⟨h1,h1'⟩ <;> rcases h2 with h2 | ⟨h2,h2'⟩
 ·left;omega
 ·left;omega
 ·left;omega
 ·exact .inr ⟨by omega,lex_trans h1' h2'⟩
theorem cmpC_ntrans {a b c} (h1:¬ cmpC a b<0) (h2:¬ cmpC b c<0):¬ cmpC a c<0:=by
 intro h;have n1:=zgg a b;have n2:=zgg b c;by_cases e1:cmpC a b=0
 ·rw [cmpC_zero e1] at h;exact h2 h
 ·by_cases e2:cmpC b c=0
  ·rw [← cmpC_zero e2] at h;exact h1 h
  ·have:=cmpC_trans (a:=c) (b:=b) (c:=a) (by omega) (by omega);have n3:=zgg a c;omega
theorem Compare_int_eq {n} (a b):zci n a b=some (cmpI a b):=by
 unfold zci zdJ cmpI;simp;split <;> (try split) <;> rfl
theorem Compare_L_eq {n a b} (ha:a.length<1000000) (hn:1000000≤n):zl n a b=some (lexP a b):=by
 unfold zl;have:=zbo (σ:=Unit) (body:=zl.l1 n a b) (len:=a.length) (st:=λ_ i=>(i:Int)) (g:=λi _=>some (lexP (a.drop i) (b.drop i))) (λi _=>i≤b.length) (λrec i s hi hI hr=>?_) (λrec s hI=>?_) n 0 () (yp _) (by omega) (yp _)
 ·simpa using this
 ·simp only [zl.l1,zk hi,if_true,za hi,ya];by_cases hb:b.length≤i
  ·have e:b.drop i=[]:=List.drop_eq_nil_of_le hb;rw [if_pos (by simp;omega),e,zh hi];rfl
  ·rw [if_neg (by simp;omega),za (show i<b.length by omega),ya,Compare_int_eq,ya,zb (by omega),hr () (by omega),zh hi,zh (show i<b.length by omega)];simp only [lexP,cmpI];split
   ·simp
   ·split
    ·simp
    ·simp
 ·simp only [zl.l1,zad,ye,if_false];rw [List.drop_length];by_cases hb:a.length<b.length
  ·rw [if_pos (by simp;omega),zh hb];rfl
  ·rw [if_neg (by simp;omega),List.drop_eq_nil_of_le (by omega)];rfl
theorem Or_eq {n} (x y) (hn:1000000≤n):zc2 n [x,y]=some (if x≠0 then x else y):=by
 unfold zc2;rw [zg3 (by omega)];have e0:idx [x,y] 0=some x:=rfl;have e1:idx [x,y] 1=some y:=rfl;simp only [zc2.l1,e0,ya,yO,ux];rw [if_pos (by simp)];by_cases hx:x=0
 ·rw [if_neg (by simp [hx]),show add64 0 1=1 from rfl,zg3 (by omega)];simp only [zc2.l1,e1,ya,yO,ux];rw [if_pos (by simp)];by_cases hy:y=0
  ·rw [if_neg (by simp [hy]),show add64 1 1=2 from rfl,zg3 (by omega)];simp [zc2.l1,hx,hy]
  ·rw [if_pos (by simp [hy])];simp [hx]
 ·rw [if_pos (by simp [hx])];simp [hx]
theorem compare_eq {n a b} (ha:a.length<1000000) (hn:1000000≤n):zcj n a b=some (cmpC a b):=by
 unfold zcj;rw [Compare_int_eq,ya,Compare_L_eq ha hn,ya,Or_eq _ _ hn];rfl
theorem sortO_of {α:Type} {f:α→α→Option Int} {c:α→α→Int} {l:List α} (h1:∀ x∈l,∀ y∈l,f x y=some (c x y)) (irr:∀ x,¬ c x x<0) (tr:∀ x y z,c x y<0→c y z<0→c x z<0) (nt:∀ x y z,¬ c x y<0→¬ c y z<0→¬ c x z<0) (hl:l.length<4611686018427387904) :
  sortO f l=some (sortF (λx y=>(f x y).getD 0) l)∧swoB (λx y=>(f x y).getD 0) l=true:=by
 have hs:swoB (λx y=>(f x y).getD 0) l=true:=by
  unfold swoB;rw [yi];intro x hx;rw [yb,yi];refine ⟨by simpa [h1 x hx x hx] using irr x,λy hy=>?_⟩;rw [yi];intro z hz;simp only [h1 x hx y hy,h1 y hy z hz,h1 x hx z hz,yf,yb,yw,yz,uj,yd,yF];have a1:=tr x y z;have a2:=nt x y z;constructor
  ·by_cases p:c x y<0
   ·by_cases q:c y z<0
    ·exact .inr (a1 p q)
    ·exact .inl (.inr q)
   ·exact .inl (.inl p)
  ·by_cases p:c x y<0
   ·exact .inl (.inl p)
   ·by_cases q:c y z<0
    ·exact .inl (.inr q)
    ·exact .inr (a2 p q)
 refine ⟨?_,hs⟩;unfold sortO;rw [if_pos];simp only [yb,yi,yd];exact ⟨⟨λx hx y hy=>by rw [h1 x hx y hy];rfl,hs⟩,hl⟩
theorem Cycles_tot {n:Nat} {size:Int} {edges:List Bool} {K:Nat} (hs:size=(K:Int)) (h1:1≤K) (h6:K≤6) (hl:edges.length=K*K) (hn:1000000≤n):∃ r,zbN n size edges=some r∧r.length≤900000∧∀ c∈r,VertL K c:=by
 have hg:GraphOK ⟨size,edges⟩ K:=⟨hs,h6,hl⟩
 obtain ⟨out,ho,hol,hov⟩:=cycles_tot hg hn;have h4:K*K≤36:=y0 h6 h6;have e:mul64 size size=((K*K:Nat):Int):=by
  rw [hs];unfold mul64;rw [zbK (by rw [← yH];omega) (by rw [← yH];omega)];simp
 have hopen:zdB n size edges=some (⟨size,edges⟩,true):=by
  unfold zdB;rw [e,hl];simp [hs];omega
 unfold zbN;rw [hopen,ya,if_neg (by simp),ho,ya];obtain ⟨s1,s2⟩:=sortO_of (f:=zcj n) (c:=cmpC) (l:=out) (λx hx y _=>compare_eq (by have:=(hov x hx).2.1;omega) hn) (λx=>by have:=zgg x x;omega) (λ_ _ _=>cmpC_trans) (λ_ _ _=>cmpC_ntrans) (by omega);have hp:=sortF_perm s2;exact ⟨_,s1,by rw [hp.length_eq];exact hol,λc hc=>hov c (hp.mem_iff.1 hc)⟩
theorem zaq {x y} (h1 : -9223372036854775808≤x+y) (h2:x+y≤9223372036854775807):add64 x y=x+y:=zbK h1 h2
theorem zc5 {x y} (h1 : -9223372036854775808≤x*y) (h2:x*y≤9223372036854775807):mul64 x y=x*y:=zbK h1 h2
theorem zeJ {x y} (h1 : -9223372036854775808≤x - y) (h2:x - y≤9223372036854775807):sub64 x y=x - y:=zbK h1 h2
def CasesOK (r:List (List Row)):Prop:=r.length≤900000∧∀ rows∈r,rows.length≤6∧∀ row∈rows,row.terms.length≤1
theorem cases_1_tot {n c e f} (k) (he:e.effect.delta.length≤20) (hf:f.effect.delta.length≤20) (hn:1000000≤n):∃ r,zaU n k e c f=some r:=by
 unfold zaU;rw [zal _ (by omega) (by omega),ya,zal _ (by omega) (by omega),ya];exact ⟨_,rfl⟩
theorem cases3_tot {n c e f K cyc b1 k} {Q:List (List Row)→Prop} (hv:VertL K cyc) (h6:K≤6) (he:e.effect.delta.length≤20) (hf:f.effect.delta.length≤20) (hn:1000000≤n) (hb:b1.length≤900000)
  (hk:∀ b:List (List Row),b.length≤b1.length+1→(∀ rows∈b,rows∈b1∨(rows.length≤6∧∀ row∈rows,row.terms.length≤1))→∃ r,k b=some r∧Q r):∃ r,loopF (zj.l3 n c e f b1 k cyc) n (([]:List Row),false,false,0)=some r∧Q r:=by
 have hl:=hv.2.1;have hl1:=hv.1;have:=za3 (body:=zj.l3 n c e f b1 k cyc) (k:=cyc.length) (n:=n) (st:=λ(s:List Row×Bool×Bool) i=>(s.1,s.2.1,s.2.2,(i:Int))) (λi s=>s.1.length≤i∧∀ row∈s.1,row.terms.length≤1) Q
  (λrec i s hi hI hr=>?_) (λrec s hI=>?_) (by omega) ([],false,false) ⟨by simp,by simp⟩
 ·simpa using this
 ·obtain ⟨b2,x,y⟩:=s;simp only at hI;have hmod:∃ r:Nat,rem64 (add64 (i:Int) 1) (cyc.length:Int)=some (r:Int)∧r<cyc.length:=by
   rw [zb (by omega)];refine ⟨(i+1) % cyc.length,?_,Nat.mod_lt _ (by omega)⟩;unfold rem64;rw [if_neg (by omega)];congr 1
  obtain ⟨r,hr1,hr2⟩:=hmod;simp only [zj.l3,zk hi,if_true,za hi,ya,hr1,za hr2];rw [zal _ (by omega) (by omega),zal _ (by omega) (by omega)];simp only [yj,yr,grd,if_true];obtain ⟨z,hz⟩:=cases_1_tot (n:=n) (c:=c) (e:=e) (f:=f) (add64 (mul64 cyc[i] c.size) cyc[r]) he hf hn;rw [hz,ya,zr (by have:=hI.1;simp;omega),ya,zb (by omega)];exact hr (_,_,_) ⟨by have:=hI.1;simp;omega,λrow hrow=>by
   rcases yK.1 hrow with h | h
   ·exact hI.2 row h
   ·simp at h;subst h;simp⟩
 ·obtain ⟨b2,x,y⟩:=s;simp only at hI;simp only [zj.l3,zad,ye,if_false];split
  ·rw [zr (by simp;omega),ya];exact hk _ (by simp) λrows hrows=>by
    rcases yK.1 hrows with h | h
    ·exact .inl h
    ·simp at h;subst h;exact .inr ⟨by have:=hI.1;omega,hI.2⟩
  ·exact hk _ (by omega) λrows h=>.inl h
theorem sto_tot {α:Type} {l:List α} {i:Nat} {x:α} (h:i<l.length):∃ r,sto l (i:Int) x=some r∧r.length=l.length:=by
 unfold sto;simp [h]
theorem cases_tot {n:Nat} {box:List Range} {c e f} {K:Nat} (hs:c.size=(K:Int)) (h1:1≤K) (h6:K≤6) (h0:0≤c.first) (hbx:c.first+((K*K:Nat):Int)≤(box.length:Int)) (hbl:box.length≤1000) (he:e.effect.delta.length≤20) (hf:f.effect.delta.length≤20) (hn:1000000≤n) :
  ∃ r,zj n box c e f=some r∧CasesOK r:=by
 have h4:K*K≤36:=y0 h6 h6;have em:mul64 c.size c.size=((K*K:Nat):Int):=by
  rw [hs,zc5 (by rw [← yH];omega) (by rw [← yH];omega)];simp
 have hmk:mkl 1 (mul64 c.size c.size) false=some (List.replicate (K*K) false):=by
  rw [em];unfold mkl;rw [if_pos (by omega),yt]
 unfold zj;rw [hmk,ya];have:=za3 (body:=zj.l1 n box c e f (List.replicate (K*K) false)) (k:=K*K) (n:=n) (st:=λ(s:List Bool) i=>(s,(i:Int))) (λi s=>s.length=K*K) CasesOK
  (λrec i s hi hI hr=>?_) (λrec s hI=>?_) (by omega) (List.replicate (K*K) false) (by simp)
 ·simpa using this
 ·have hlt:decide ((i:Int)<((List.replicate (K*K) false).length:Int))=true:=by simp;omega
  obtain ⟨z,hz⟩:=cases_1_tot (n:=n) (c:=c) (e:=e) (f:=f) (i:Int) he hf hn;obtain ⟨w,hw⟩:=zbc (l:=box) (i:=add64 c.first (i:Int)) (by rw [zaq (by omega) (by omega)];omega) (by rw [zaq (by omega) (by omega)];omega);obtain ⟨s',hs1,hs2⟩:=sto_tot (l:=s) (i:=i) (x:=decide (1≤add64 w.hi z)) (by omega);simp only [zj.l1,hlt,if_true,hw,ya,hz,za (show i<s.length by omega),hs1];rw [zb (by omega)];exact hr s' (by omega)
 ·have hge:decide (((K*K:Nat):Int)<((List.replicate (K*K) false).length:Int))=false:=by simp
  simp only [zj.l1,hge,ye,if_false];obtain ⟨cyc,hc1,hc2,hc3⟩:=Cycles_tot (n:=n) (size:=c.size) (edges:=s) hs h1 h6 hI hn;rw [hc1,ya];have:=za3 (body:=zj.l2 n c e f cyc) (k:=cyc.length) (n:=n) (st:=λ(s:List (List Row)) i=>(s,(i:Int))) (λi s=>s.length≤i∧∀ rows∈s,rows.length≤6∧∀ row∈rows,row.terms.length≤1) CasesOK
   (λrec i s hi hI hr=>?_) (λrec s hI=>?_) (by omega) [] ⟨by simp,by simp⟩
  ·simpa using this
  ·simp only [zj.l2,zk hi,if_true,jn,za hi,ya];refine cases3_tot (K:=K) (hc3 _ (yg hi)) h6 he hf hn (by have:=hI.1;omega) λb hb hbr=>?_
   rw [zb (by omega)];exact hr b ⟨by have:=hI.1;omega,λrows hrows=>(hbr rows hrows).elim (hI.2 rows) id⟩
  ·simp only [zj.l2,zad,ye,if_false];exact ⟨s,rfl,by have:=hI.1;omega,hI.2⟩
theorem fits_eq {n K:Nat} {r} (hl:r.terms.length<1000000) (hn:1000000≤n):zbL n (K:Int) r=some (rowOK K r):=by
 have:=zbo (body:=zbL.l1 n (K:Int) r) (len:=r.terms.length) (st:=λ(s:Int) i=>(s,(i:Int))) (g:=λi s=>some (rowP K s (r.terms.drop i)&&zar r.bound 1000000000)) (λ_ _=>True) (λrec i s hi _ hr=>?_) (λrec s _=>?_) n 0 (-1) (yp _) (by omega) trivial
 ·simpa [zbL,rowOK] using this
 ·simp only [zbL.l1,zk hi,if_true,za hi,ya,zb (i:=i) (by omega),hr r.terms[i].cell trivial];rw [zh hi,rowP];by_cases h:(decide (s<r.terms[i].cell)&&decide (r.terms[i].cell<(K:Int))&&(r.terms[i].factor != 0)&&zar r.terms[i].factor 1000)=true
  ·rw [h,yE];simp only [zar,yb,yd,bne_iff_ne] at h;rw [if_neg (by simp;omega)]
  ·rw [if_pos (by
    simp only [zar,yb,yd,bne_iff_ne,ne_eq] at h;simp only [yw,yd,beq_iff_eq];omega)]
   simp only [yC] at h;rw [h];rfl
 ·simp [zbL.l1,zar,rowP]
theorem ref17_Row_eq {n K:Nat} {r} (hl:r.terms.length<1000000) (hn:1000000≤n):zdV n r (K:Int)=some (rowOK K r):=by
 have:=zbo (body:=zdV.l1 n r (K:Int)) (len:=r.terms.length) (st:=λ(s:Int) i=>(s,(i:Int))) (g:=λi s=>some (rowP K s (r.terms.drop i)&&zar r.bound 1000000000)) (λ_ _=>True) (λrec i s hi _ hr=>?_) (λrec s _=>?_) n 0 (-1) (yp _) (by omega) trivial
 ·simpa [zdV,rowOK] using this
 ·simp only [zdV.l1,zk hi,if_true,za hi,ya,zaS,yj,yr,grd,yf,zb (i:=i) (by omega),hr r.terms[i].cell trivial];rw [zh hi,rowP];by_cases h:(decide (s<r.terms[i].cell)&&decide (r.terms[i].cell<(K:Int))&&(r.terms[i].factor != 0)&&zar r.terms[i].factor 1000)=true
  ·rw [h,yE];simp only [zar,yb,yd,bne_iff_ne] at h;rw [if_neg (by simp;omega)]
  ·rw [if_pos (by
    simp only [zar,yb,yd,bne_iff_ne,ne_eq] at h;simp only [yw,yd,beq_iff_eq,yz,uj,yF];omega)]
   simp only [yC] at h;rw [h];rfl
 ·simp [zdV.l1,zaS,zar,rowP]
def shortR (R:List Row):Prop:=R.length<1000000∧∀ r∈R,r.terms.length<1000000
theorem ref17_Valid_eq {n:Nat} {box:List Range} {R:List Row} (hg:goodB box=true) (hl:box.length≤100) (hR:shortR R) (hn:1000000≤n):zS n box R=some (R.all (rowOK box.length)):=by
 unfold zS;rw [if_neg (by simp;omega)];have:=zE (body:=zS.l1 n box R) (len:=box.length) (st:=λi=>(i:Int)) (g:=λ_=>some (R.all (rowOK box.length))) (λrec i hi hr=>?_) (λrec=>?_) n 0 (yp _) (by omega)
 ·simpa using this
 ·have:=yi.1 hg _ (yg hi);simp only [yb,yd] at this;have h1:(decide (-1000000≤box[i].lo)&&decide (box[i].lo≤1000000))=true:=by simp;omega
  have h2:(decide (-1000000≤box[i].hi)&&decide (box[i].hi≤1000000))=true:=by simp;omega
  simp only [zS.l1,zk hi,if_true,za hi,ya,zaS,h1,h2,yj,yr,grd,yf,y6,Bool.or_self,ye,if_false,zb (i:=i) (by omega),hr]
 ·simp only [zS.l1,zad,ye,if_false];have hR1:=hR.1;have:=zaj (body:=zS.l2 n box R) (l:=R) (n:=n) (st:=λi=>(i:Int)) (rowOK box.length) (some false) (some true) (λrec i hi=>?_) (λrec=>?_) (by omega)
  ·rw [show ((0:Nat):Int)=0 from rfl] at this;rw [this];split <;> simp_all
  ·simp only [zS.l2,zk hi,if_true,za hi,ya,ref17_Row_eq (hR.2 _ (yg hi)) hn,zb (i:=i) (by omega)];cases rowOK box.length R[i] <;> simp
  ·simp [zS.l2]
theorem ref17_Empty_eq {n box} (hg:goodB box=true) (hl:box.length≤100) (hn:1000000≤n):zbW n box=some false:=by
 unfold zbW;have:=zE (body:=zbW.l1 n box) (len:=box.length) (st:=λi=>(i:Int)) (g:=λ_=>some false) (λrec i hi hr=>?_) (λrec=>?_) n 0 (yp _) (by omega)
 ·simpa using this
 ·have:=yi.1 hg _ (yg hi);simp only [yb,yd] at this;simp only [zbW.l1,zk hi,if_true,za hi,ya];rw [if_neg (by simp;omega),zb (by omega),hr]
 ·simp [zbW.l1]
theorem IndexFunc_LRange_eq {n l f p} (hf:∀ x∈l,f x=some (p x)) (hl:l.length<1000000) (hn:1000000≤n):zay n l f=some (l.any p):=by
 unfold zay zD;have:=zE (body:=zD.l1 n l f) (len:=l.length) (st:=λi=>(i:Int)) (g:=λi=>some (ixP p (l.drop i) i)) (λrec i hi hr=>?_) (λrec=>?_) n 0 (yp _) (by omega)
 ·rw [show ((0:Nat):Int)=0 from rfl] at this;rw [this,ya,List.drop_zero,zgY]
 ·simp only [zD.l1,zk hi,if_true,za hi,ya,hf _ (yg hi),zb (i:=i) (by omega),hr];rw [zh hi];simp only [ixP];cases p l[i] <;> simp
 ·simp [zD.l1,ixP]
theorem zgK {n l f p} (hf:∀ x∈l,f x=some (p x)) (hl:l.length<1000000) (hn:1000000≤n):za2 n l f=some (l.any p):=by
 unfold za2 zY;have:=zE (body:=zY.l1 n l f) (len:=l.length) (st:=λi=>(i:Int)) (g:=λi=>some (ixP p (l.drop i) i)) (λrec i hi hr=>?_) (λrec=>?_) n 0 (yp _) (by omega)
 ·rw [show ((0:Nat):Int)=0 from rfl] at this;rw [this,ya,List.drop_zero,zgY]
 ·simp only [zY.l1,zk hi,if_true,za hi,ya,hf _ (yg hi),zb (i:=i) (by omega),hr];rw [zh hi];simp only [ixP];cases p l[i] <;> simp
 ·simp [zY.l1,ixP]
theorem zfR {n box R} (hg:goodB box=true) (hl:box.length≤100) (hR:shortR R) (hn:1000000≤n):zbO n box R=some (R.all (rowOK box.length)):=by
 have hb:zb5 n box=some true:=by
  unfold zb5;have:=zE (body:=zb5.l1 n box) (len:=box.length) (st:=λi=>(i:Int)) (g:=λ_=>some true) (λrec i hi hr=>?_) (λrec=>?_) n 0 (yp _) (by omega)
  ·simpa using this
  ·have:=yi.1 hg _ (yg hi);simp only [yb,yd] at this;simp only [zb5.l1,zk hi,if_true,za hi,ya];rw [if_neg (by simp;omega),zb (by omega),hr]
  ·simp [zb5.l1];omega
 have hc:zo n R (λq0=>zb2 n q0 box)=some (R.any λr=>!rowOK box.length r):=zcJ (λx hx=>by
  unfold zb2;rw [fits_eq (hR.2 x hx) hn];rfl) hR.1 hn
 unfold zbO;rw [hb,hc];simp [grd,List.all_eq_not_any_not]
theorem interval_Empty_eq {n box} (hg:goodB box=true) (hl:box.length≤100) (hn:1000000≤n):zcb n box=some false:=by
 unfold zcb;rw [IndexFunc_LRange_eq (f:=λq0=>zfy n q0) (p:=λr=>decide (r.hi<r.lo)) (λx _=>rfl) (by omega) hn,ya];congr 1;rw [List.any_eq_false];intro r hr;have:=yi.1 hg _ hr;simp only [yb,yd] at this;simp;omega
end Go.Proofs.YtcagdmegicijlaaGreatDoor
