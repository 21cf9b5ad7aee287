/- Part of the proof of one law of the seat. -/
import Derived.Test.YtbnhmfnagdgcmaaGreatDoorTe04
import Derived.Lib.AtoiTie
set_option linter.unusedVariables false
set_option linter.unusedSectionVars false
set_option linter.unusedSimpArgs false
set_option maxHeartbeats 4000000
namespace Go.Proofs.YtbnhmfnagdgcmaaGreatDoor
open Go Go.RowKit
abbrev yB:=@_root_.List.take_succ_eq_append_getElem
abbrev uf:=@_root_.Bool.or_eq_false_iff
abbrev un:=@_root_.List.length_replicate
abbrev uu:=@_root_.Bool.not_false
abbrev uv:=@_root_.Nat.pow_le_pow_right
abbrev uB:=@_root_.Bool.true_or
abbrev uI:=@_root_.Bool.and_self
def widthP (sizes:List Int):List Int→Int→Int
 | [],s=>s
 | c::l,s=>widthP sizes l (mul64 s (sizes.getD c.toNat 0))
theorem widthP_append (sizes):∀ (l m:List Int) (s:Int),widthP sizes (l++m) s=widthP sizes m (widthP sizes l s)
 | [],_,_=>rfl
 | _::l,m,s=>by simp only [yX,widthP];exact widthP_append sizes l m _
theorem idx_col {sizes c} (h:colOK sizes c=true):idx sizes c=some (sizes.getD c.toNat 0):=by
 simp only [colOK,yc,yd] at h;obtain ⟨n,rfl⟩:=yZ h.1;have:n<sizes.length:=by omega
 rw [idx_nat this];simp [List.getD,this]
theorem cells_width_eq {n sizes cols} (hc:cols.all (colOK sizes)=true) (hl:cols.length<4611686018427387904) (hn:cols.length<n):cells_width n sizes cols=some (widthP sizes cols 1):=by
 have:=loopF_g (body:=cells_width.l1 n sizes cols) (len:=cols.length) (st:=λi=>(widthP sizes (cols.take i) 1,(i:Int))) (g:=λ_=>some (widthP sizes cols 1)) (λrec i hi hr=>?_) (λrec=>?_) n 0 (yw _) (by omega)
 ·simpa [cells_width,widthP] using this
 ·rw [yB hi,widthP_append] at hr;simp only [widthP] at hr;simp only [cells_width.l1,lt_len hi,if_true,idx_nat hi,ya,idx_col (yu.1 hc _ (yA hi)),add64_1 (i:=i) (by omega),hr]
 ·simp [cells_width.l1]
theorem number_loop {n sizes cols} (hl:cols.length<4611686018427387904) (hn:cols.length<n):loopF (ref09_number.l1 n sizes cols) n (1,0)=some (if cols.all (colOK sizes)=true then widthP sizes cols 1 else 0):=by
 by_cases hc:cols.all (colOK sizes)=true
 ·rw [if_pos hc];have:=loopF_g (body:=ref09_number.l1 n sizes cols) (len:=cols.length) (st:=λi=>(widthP sizes (cols.take i) 1,(i:Int))) (g:=λ_=>some (widthP sizes cols 1)) (λrec i hi hr=>?_) (λrec=>?_) n 0 (yw _) (by omega)
  ·simpa [widthP] using this
  ·rw [yB hi,widthP_append] at hr;simp only [widthP] at hr;have hcol:=yu.1 hc _ (yA hi);have h2:=idx_col hcol;simp only [colOK,yc,yd] at hcol;have hif:((decide (cols[i]<0))||(decide ((sizes.length:Int)≤cols[i])))=false:=by
    simp only [uf,yD];omega
   simp only [ref09_number.l1,lt_len hi,if_true,idx_nat hi,ya,yi,yt,grd,yh,hif,ym,if_false,h2,add64_1 (i:=i) (by omega),hr]
  ·simp [ref09_number.l1]
 ·rw [if_neg hc];have:=loopF_g (body:=ref09_number.l1 n sizes cols) (len:=cols.length) (st:=λi=>(widthP sizes (cols.take i) 1,(i:Int))) (g:=λi=>some (if (cols.drop i).all (colOK sizes)=true then widthP sizes cols 1 else 0)) (λrec i hi hr=>?_) (λrec=>?_) n 0 (yw _) (by omega)
  ·simpa [widthP,hc] using this
  ·rw [yB hi,widthP_append] at hr;simp only [widthP] at hr;rw [drop_cons hi,um];by_cases hcol:colOK sizes cols[i]=true
   ·have h2:=idx_col hcol;rw [hcol,yy];simp only [colOK,yc,yd] at hcol;have hif:((decide (cols[i]<0))||(decide ((sizes.length:Int)≤cols[i])))=false:=by
     simp only [uf,yD];omega
    simp only [ref09_number.l1,lt_len hi,if_true,idx_nat hi,ya,yi,yt,grd,yh,hif,ym,if_false,h2,add64_1 (i:=i) (by omega),hr]
   ·have hif:((decide (cols[i]<0))||(decide ((sizes.length:Int)≤cols[i])))=true:=by
     simp only [colOK,yc,yd] at hcol;simp only [yr,yd];omega
    simp only [yH] at hcol;rw [hcol,yV,if_neg (by simp)];simp only [ref09_number.l1,lt_len hi,if_true,idx_nat hi,ya,yi,yt,grd,yh,hif]
  ·simp [ref09_number.l1]
theorem ref09_number_eq {n sizes cols} (hl:cols.length<4611686018427387904) (hn:cols.length<n) (hs:sizes.length<4611686018427387904) (hsn:sizes.length<n) :
  ref09_number n sizes cols=some (if (decide (cols.length≤3)&&sizes.all sizeOK&&cols.all (colOK sizes))=true then widthP sizes cols 1 else 0):=by
 unfold ref09_number;rw [ref09_sound_eq hs hsn,number_loop hl hn];simp only [yi,yt,grd,if_true,yh];by_cases h3:cols.length≤3
 ·cases h4:sizes.all sizeOK with
  | true=>rw [if_neg (by simp;omega)];simp [h3]
  | false=>rw [if_pos (by simp)];simp
 ·rw [if_pos (by simp;left;omega)];simp [h3]
theorem loopF_M {S R:Type} {body:(S→Option R)→S→Option R} (μ:S→Nat) (I:S→Prop) (Q:S→Option R→Prop)
  (hb:∀ rec s,I s→(∀ s',I s'→μ s'<μ s→Q s' (rec s'))→Q s (body rec s)):∀ n s,I s→μ s<n→Q s (loopF body n s)
 | 0,_,_,h=>by omega
 | n+1,s,hI,h=>hb _ s hI λs' hI' hlt=>loopF_M μ I Q hb n s' hI' (by omega)
theorem loopF_I {σ S R:Type} {body:(S→Option R)→S→Option R} {len:Nat} {st:σ→Nat→S} {g:Nat→σ→Option R} (I:Nat→σ→Prop)
  (hb:∀ rec i s,i<len→I i s→(∀ s',I (i+1) s'→rec (st s' (i+1))=g (i+1) s')→body rec (st s i)=g i s) (he:∀ rec s,I len s→body rec (st s len)=g len s) :
  ∀ n i s,i≤len→len - i<n→I i s→loopF body n (st s i)=g i s
 | 0,_,_,_,h,_=>by omega
 | n+1,i,s,hi,h,hI=>by
  simp only [loopF];by_cases e:i=len
  ·subst e;exact he _ _ hI
  ·exact hb _ i s (by omega) hI λs' hI'=>loopF_I I hb he n (i+1) s' (by omega) (by omega) hI'
theorem loopF_1 {S R:Type} {body:(S→Option R)→S→Option R} {n:Nat} (h:0<n) (s:S):loopF body n s=body (loopF body (n - 1)) s:=by
 obtain ⟨m,rfl⟩:∃ m,n=m+1:=⟨n - 1,by omega⟩
 rfl
theorem add64_nat {a b:Nat} (h:a+b<9223372036854775808):add64 (a:Int) (b:Int)=((a+b:Nat):Int):=by
 unfold add64;rw [w64_id (by omega) (by omega)];omega
theorem sidx_nat {l:List UInt8} {i} (h:i<l.length):sidx l (i:Int)=some ((l[i].toNat:Nat):Int):=by
 unfold sidx;rw [if_pos (by omega)];simp [h]
theorem cut_nat {α:Type} {l:List α} {a b:Nat} (h1:a≤b) (h2:b≤l.length):cut l (a:Int) (b:Int)=some ((l.drop a).take (b - a)):=by
 unfold cut;rw [if_pos (by omega)];simp
theorem cut_end {α:Type} {l:List α} {a:Nat} (h1:a≤l.length):cut l (a:Int) (l.length:Int)=some (l.drop a):=by
 rw [cut_nat h1 (yk _),List.take_of_length_le (by simp)]
theorem cut_all {α:Type} {l:List α}:cut l 0 (l.length:Int)=some l:=by
 have:=cut_end (l:=l) (a:=0) (by omega);simpa using this
theorem lt_nat {i k:Nat} (h:i<k):decide ((i:Int)<(k:Int))=true:=by simp;omega
theorem ge_nat {i k:Nat} (h:k≤i):decide ((i:Int)<(k:Int))=false:=by simp;omega
def runP (p:Int→Bool):List UInt8→Nat
 | []=>0
 | b::l=>if p (b.toNat:Nat)=true then runP p l+1 else 0
theorem runP_le (p):∀ l,runP p l≤l.length
 | []=>yk _
 | b::l=>by
  simp only [runP,yT];split
  ·exact Nat.succ_le_succ (runP_le p l)
  ·omega
theorem lexer_run_eq {n} {l:List UInt8} {f p} (hf:∀ q,f q=some (p q)) (hl:l.length<4611686018427387904) (hn:l.length<n):lexer_run n l f=some ((runP p l:Nat):Int):=by
 have:=loopF_g (body:=lexer_run.l1 n l f) (len:=l.length) (st:=λi=>(i:Int)) (g:=λi=>some ((i+runP p (l.drop i):Nat):Int)) (λrec i hi hr=>?_) (λrec=>?_) n 0 (yw _) (by omega)
 ·simpa [lexer_run] using this
 ·simp only [lexer_run.l1,lt_len hi,sidx_nat hi,yi,y7,ud,grd,if_true,yh,hf,yy,add64_1 (i:=i) (by omega),hr];rw [drop_cons hi];simp only [runP];split <;> simp <;> omega
 ·simp [lexer_run.l1,runP,grd]
def letterP (q:Int):Bool:=decide (97≤q)&&decide (q≤122)
def digitP (q:Int):Bool:=decide (48≤q)&&decide (q≤57)
def partP (q:Int):Bool:=(letterP q||digitP q)||(q==95)
theorem lexer_letter_eq {n q}:lexer_letter n q=some (letterP q):=rfl
theorem lexer_digit_eq {n q}:lexer_digit n q=some (digitP q):=rfl
theorem ref_letter_eq {n q}:ref02_letter n q=some (letterP q):=rfl
theorem ref_digit_eq {n q}:ref02_digit n q=some (digitP q):=rfl
def blackP (q:Int):Bool:=!(q==9||q==10||q==13||q==32||q==35)
theorem letter_black {q} (h:letterP q=true):blackP q=true:=by
 simp only [letterP,yc,yd] at h;simp only [blackP,yz,uf,uc];omega
theorem lexer_skip_tt {n:Nat} {l:List UInt8} (hl:l.length<1000000) (hn:1000000≤n) :
  ∃ k:Nat,lexer_skip n l=some (k:Int)∧k≤l.length∧(∀ h:0<l.length,blackP (l[0].toNat:Nat)=true→k=0)∧(∀ h:0<l.length,blackP (l[0].toNat:Nat)=false→0<k):=by
 have:=loopF_M (body:=lexer_skip.l1 n l) (λs:Int=>l.length - s.toNat) (λs=>∃ i:Nat,s=i∧i≤l.length) (λs o=>∃ k:Nat,o=some (k:Int)∧k≤l.length∧s.toNat≤k∧∀ h:s.toNat<l.length,(blackP (l[s.toNat].toNat:Nat)=true→k=s.toNat)∧(blackP (l[s.toNat].toNat:Nat)=false→s.toNat<k))
  (λrec s hI hr=>by
   obtain ⟨i,rfl,hi⟩:=hI;by_cases hlt:i<l.length
   ·simp only [lexer_skip.l1,lt_len hlt,if_true,sidx_nat hlt,ya,lexer_white,yC];by_cases hw:((((((l[i].toNat:Nat):Int)==32)||(((l[i].toNat:Nat):Int)==9))||(((l[i].toNat:Nat):Int)==10))||(((l[i].toNat:Nat):Int)==13))=true
    ·rw [if_pos hw,add64_1 (i:=i) (by omega)];obtain ⟨k,e,k1,k2,-⟩:=hr ((i+1:Nat):Int) ⟨i+1,rfl,by omega⟩ (by simp only [yC];omega);simp only [yC] at k2;refine ⟨k,e,k1,by omega,λh=>⟨λhb=>?_,λhb=>by omega⟩⟩;exfalso;simp only [yr,beq_iff_eq] at hw;simp only [blackP,yz,uf,uc] at hb;omega
    ·rw [if_neg hw];by_cases hh:((l[i].toNat:Nat):Int)=35
     ·rw [if_pos (by simp [hh]),cut_end hi,ya,lexer_run_eq (f:=λq=>lexer_skip_1 n q) (p:=λq=>q != 10) (λq=>rfl) (by rw [yO];omega) (by rw [yO];omega),ya];have hrun:1≤runP (λq=>q != 10) (l.drop i):=by
       rw [drop_cons hlt,runP,hh];simp
      have hle:=runP_le (λq=>q != 10) (l.drop i);simp only [yO] at hle;rw [add64_nat (by omega)];obtain ⟨k,e,k1,k2,-⟩:=hr ((i+runP (λq=>q != 10) (l.drop i):Nat):Int) ⟨_,rfl,by omega⟩ (by simp only [yC];omega);simp only [yC] at k2;refine ⟨k,e,k1,by omega,λh=>⟨λhb=>?_,λhb=>by omega⟩⟩;rw [hh] at hb;exact absurd hb (by decide)
     ·rw [if_neg (by simpa using hh)];refine ⟨i,rfl,hi,yk _,λh=>⟨λ_=>rfl,λhb=>?_⟩⟩;exfalso;simp only [yr,beq_iff_eq,not_or] at hw;simp only [blackP,Bool.not_eq_false',yr,beq_iff_eq] at hb;omega
   ·have:i=l.length:=by omega
    subst this;refine ⟨l.length,by simp [lexer_skip.l1],yk _,by simp,λh=>by simp at h⟩) n 0 ⟨0,rfl,by omega⟩ (by simp;omega)
 obtain ⟨k,e,k1,-,k2⟩:=this;exact ⟨k,by simpa [lexer_skip] using e,k1,λh hb=>(k2 h).1 hb,λh hb=>(k2 h).2 hb⟩
theorem lexer_symbol_tt {n:Nat} {l:List UInt8} (hn:1000000≤n):∃ k:Int,lexer_symbol n l=some k:=by
 have:=loopF_M (body:=lexer_symbol.l1 n l) (λs:Int=>5 - s.toNat) (λs=>∃ i:Nat,s=i∧i≤5) (λ_ o=>∃ k:Int,o=some k) (λrec s hI hr=>by
  obtain ⟨i,rfl,hi⟩:=hI;simp only [lexer_symbol.l1];generalize hL:([[61,61],[33,61],[60,61],[62,61],[46,46]]:List (List UInt8))=L;have hLl:L.length=5:=by rw [← hL];rfl
  by_cases hlt:i<L.length
  ·have hp:∃ b,strings_HasPrefix n l L[i]=some b:=by
    simp only [strings_HasPrefix,internal_stringslite_HasPrefix];by_cases h:L[i].length≤l.length
    ·have:cut l 0 (L[i].length:Int)=some ((l.drop 0).take (L[i].length - 0)):=cut_nat (a:=0) (by omega) (by omega)
     simp [this,grd]
    ·simp [h,grd]
   obtain ⟨b,hp⟩:=hp;have hd:decide ((i:Int)<(([[61,61],[33,61],[60,61],[62,61],[46,46]]:List (List Nat)).length:Int))=true:=by simp;omega
   simp only [hd,if_true,idx_nat hlt,ya,hp,add64_1 (i:=i) (by omega)];split
   ·exact ⟨_,rfl⟩
   ·exact hr _ ⟨i+1,rfl,by omega⟩ (by simp only [yC];omega)
  ·have hd:decide ((i:Int)<(([[61,61],[33,61],[60,61],[62,61],[46,46]]:List (List Nat)).length:Int))=false:=by simp;omega
   rw [hd,if_neg (by simp)];cases l with
   | nil=>simp [grd]
   | cons b l=>
    have h0:sidx (b::l) 0=some ((b.toNat:Nat):Int):=sidx_nat (l:=b::l) (i:=0) (by simp)
    simp only [h0,strings_IndexByte,internal_stringslite_IndexByte,ya,yi,yt,grd,if_true,yh];split <;> exact ⟨_,rfl⟩) n 0 ⟨0,rfl,by omega⟩ (by simp;omega)
 simpa [lexer_symbol] using this
theorem lexer_begins_tt {n} {l:List UInt8} (hn:1000000≤n) (h:0<l.length):∃ b,lexer_begins n l=some b:=by
 obtain ⟨k,hk⟩:=lexer_symbol_tt (n:=n) (l:=l) hn;have h0:sidx l 0=some ((l[0].toNat:Nat):Int):=sidx_nat (i:=0) h;simp [lexer_begins,h0,lexer_letter,lexer_digit,hk,grd]
theorem lexer_wrong_tt {n:Nat} {l:List UInt8} {k:(Int×Int)→Option Token} (hl:l.length<1000000) (hn:1000000≤n) (h1:0<l.length):∃ e,loopF (lexer_tokens_1.l2 n l k) n 1=k (5,e):=by
 refine loopF_M (body:=lexer_tokens_1.l2 n l k) (λs:Int=>l.length - s.toNat) (λs=>∃ i:Nat,s=i∧i≤l.length) (λ_ o=>∃ e,o=k (5,e)) (λrec s hI hr=>?_) n 1 ⟨1,rfl,h1⟩ (by simp;omega);obtain ⟨i,rfl,hi⟩:=hI;by_cases hlt:i<l.length
 ·obtain ⟨b,hb⟩:=lexer_begins_tt (n:=n) (l:=l.drop i) hn (by simp;omega);simp only [lexer_tokens_1.l2,lt_len hlt,sidx_nat hlt,lexer_white,cut_end hi,hb,yi,yt,grd,if_true,yh,add64_1 (i:=i) (by omega)];split
  ·exact hr _ ⟨i+1,rfl,by omega⟩ (by simp only [yC];omega)
  ·exact ⟨_,rfl⟩
 ·have:i=l.length:=by omega
  subst this;exact ⟨(l.length:Int),by simp [lexer_tokens_1.l2,grd]⟩
def wordP (w:List UInt8):Bool:=(match w with | []=>false | b::_=>letterP (b.toNat:Nat))&&decide (runP partP w=w.length)
theorem wordP_cons (w:List UInt8) (h:0<w.length):wordP w=(letterP (w[0].toNat:Nat)&&decide (runP partP w=w.length)):=by
 cases w with
 | nil=>simp at h
 | cons b l=>rfl
theorem lexer_first {n:Nat} {w:List UInt8} {kw:GMap (List UInt8) Bool} (hl:w.length<1000000) (hn:1000000≤n) (h0:0<w.length) :
  ∃ t,lexer_tokens_1 n w kw=some t∧(t.at_=0∧t.end_=(w.length:Int)∧t.kind=1↔wordP w=true∧(kw.get? w).getD false=false):=by
 obtain ⟨k,e,k1,k2,k3⟩:=lexer_skip_tt (n:=n) (l:=w) hl hn;unfold lexer_tokens_1;rw [loopF_1 (by omega)];have hz:add64 0 (k:Int)=(k:Int):=by have:=add64_nat (a:=0) (b:=k) (by omega);simpa using this
 simp only [lexer_tokens_1.l1,cut_all,ya,e,hz,cut_end k1,jn];by_cases hk:k=w.length
 ·subst hk;rw [if_pos (by simp)];refine ⟨_,rfl,?_⟩;simp only [];constructor
  ·rintro ⟨-,-,h⟩;simp at h
  ·rintro ⟨h,-⟩;exfalso;rw [wordP_cons w h0,yc] at h;have:=k2 h0 (letter_black h.1);omega
 ·have hd:0<(w.drop k).length:=by simp;omega
  rw [if_neg (by simp;omega)];have hs:sidx (w.drop k) 0=some (((w.drop k)[0].toNat:Nat):Int):=sidx_nat (i:=0) hd;simp only [hs,ya,lexer_letter_eq];rw [wordP_cons w h0];by_cases hlet:letterP (((w.drop k)[0].toNat:Nat):Int)=true
  ·rw [if_pos hlet,lexer_run_eq (p:=partP) (λq=>by simp [lexer_part,lexer_letter,lexer_digit,grd,partP,letterP,digitP]) (by simp;omega) (by simp;omega)];have hle:=runP_le partP (w.drop k);have hc:=cut_nat (l:=w.drop k) (a:=0) (b:=runP partP (w.drop k)) (by omega) hle;simp only [ya,Int.natCast_zero] at hc ⊢;rw [hc];simp only [yO] at hle;have ha:add64 (k:Int) (runP partP (w.drop k):Nat)=((k+runP partP (w.drop k):Nat):Int):=add64_nat (by omega)
   simp only [ya,ha,List.drop_zero,Nat.sub_zero];by_cases hk0:k=0
   ·subst hk0;simp only [List.drop_zero] at hlet ⊢;by_cases hrun:runP partP w=w.length
    ·rw [hrun,List.take_of_length_le (yk _)];by_cases hkw:(kw.get? w).getD false=true
     ·rw [if_pos hkw];refine ⟨_,rfl,?_⟩;simp [hkw]
     ·rw [if_neg hkw];refine ⟨_,rfl,?_⟩;simp only [yH] at hkw;simp [hkw,hlet]
    ·split
     all_goals
      refine ⟨_,rfl,?_⟩;simp [hrun]
      try omega
   ·have hbl:blackP (w[0].toNat:Nat)=false:=by
     cases hb:blackP (w[0].toNat:Nat) with
     | false=>rfl
     | true=>exact absurd (k2 h0 hb) hk0
    have hnl:letterP (w[0].toNat:Nat)=false:=by
     cases hb:letterP (w[0].toNat:Nat) with
     | false=>rfl
     | true=>rw [letter_black hb] at hbl;cases hbl
    split
    all_goals
     refine ⟨_,rfl,?_⟩;simp [hnl,hk0]
  ·rw [if_neg hlet];have hno:k=0→letterP (w[0].toNat:Nat)=false:=by
    intro hk0;subst hk0;simp only [List.drop_zero,yH] at hlet;exact hlet
   have hno':letterP (w[0].toNat:Nat)=false:=by
    by_cases hk0:k=0
    ·exact hno hk0
    ·cases hb:letterP (w[0].toNat:Nat) with
     | false=>rfl
     | true=>exact absurd (k2 h0 (letter_black hb)) hk0
   simp only [lexer_digit_eq,ya,hno',yV,ym,false_and,iff_false];split
   ·rw [lexer_run_eq (p:=digitP) (λq=>rfl) (by simp;omega) (by simp;omega)];exact ⟨_,rfl,by simp⟩
   ·obtain ⟨v,hv⟩:=lexer_symbol_tt (n:=n) (l:=w.drop k) hn;simp only [hv,ya];split
    ·exact ⟨_,rfl,by simp⟩
    ·obtain ⟨e,he⟩:=lexer_wrong_tt (n:=n) (l:=w.drop k) (k:=λv=>some (⟨v.1,0,(k:Int),add64 (k:Int) v.2⟩:Token)) (by simp;omega) hn hd;rw [he];exact ⟨_,rfl,by simp⟩
def kwL:List (List UInt8):=[[115,111,114,116],[114,101,108,97,116,105,111,110],[99,111,117,110,116,101,114],[115,101,116],[114,101,103,105,115,116,101,114],[105,110,118,97,114,105,97,110,116],[111,112,101,114,97,116,105,111,110],[107,101,121],[114,101,102,101,114,101,110,99,101],[116,111],[99,111,117,110,116],[97,99,121,99,108,105,99],[97,108,108],[115,117,109],[105,110],[97,100,100,119,105,110,115],[114,101,109,111,118,101,119,105,110,115],[108,97,115,116],[109,117,108,116,105],[104,105,100,101],[111,114,100,101,114,101,100],[114,101,113,117,105,114,101],[104,111,108,100],[105,110,115,101,114,116],[100,101,108,101,116,101],[97,100,100],[102,114,111,109],[112,117,116],[100,114,111,112],[97,115,115,105,103,110],[102,111,114],[119,104,101,114,101],[97,110,100],[111,114],[110,111,116]]
structure Fuel (n:Nat):Prop where
 big:4294967296≤n
 kw:∃ m,lexer_keywords n=some m∧SetIs m kwL
def nameP (w:List UInt8):Bool:=decide (w.length≤16)&&(wordP w&&!decide (w∈kwL))
theorem lexer_Name_eq {n} {w:List UInt8} (hF:Fuel n):lexer_Name n w=some (nameP w):=by
 have hn:=hF.big;unfold lexer_Name nameP;by_cases h16:w.length≤16
 ·have hd:decide ((w.length:Int)≤16)=true:=by simp;omega
  simp only [hd,h16,decide_true,yy,y7,ud];unfold lexer_Kind;obtain ⟨m,hm,hs⟩:=hF.kw;cases hw:w with
  | nil=>simp [grd,wordP]
  | cons b l=>
   rw [← hw];have h0:0<w.length:=by rw [hw];simp
   rw [if_neg (by simp;exact ⟨by rw [hw];simp,by omega⟩),hm,ya];obtain ⟨t,ht,hiff⟩:=lexer_first (n:=n) (w:=w) (kw:=m) (by omega) (by omega) h0;rw [hs.get] at hiff;simp only [ht,ya];by_cases hc:t.at_=0∧t.end_=(w.length:Int)∧t.kind=1
   ·have:=hiff.1 hc;rw [if_neg (by simp [hc.1,hc.2.1])];simp only [yD] at this;simp [grd,hc.2.2,this.1,this.2]
   ·have hr:(wordP w&&!decide (w∈kwL))=false:=by
     cases hx:(wordP w&&!decide (w∈kwL)) with
     | false=>rfl
     | true=>
      simp only [yc,yz,yD] at hx;exact absurd (hiff.2 ⟨hx.1,by simp [hx.2]⟩) hc
    rw [hr];split
    ·simp [grd]
    ·rename_i hne;simp only [yr,bne_iff_ne,ne_eq,not_or,Decidable.not_not] at hne;have:t.kind≠1:=λe=>hc ⟨hne.1,hne.2,e⟩
     simp [grd,this]
 ·have hd:decide ((w.length:Int)≤16)=false:=by simp;omega
  simp [hd,h16,grd]
theorem ref_comment {n} {t:List UInt8} {rec x} (hx:x≤t.length) (hl:t.length<1000000) (hn:1000000≤n) :
  ∃ y:Nat,x≤y∧y≤t.length∧loopF (ref02_skip.l2 n t rec) n x=rec (y:Int)∧∀ h:x<t.length,(t[x].toNat:Nat)=35→x<y:=by
 have:=loopF_M (body:=ref02_skip.l2 n t rec) (λs:Int=>t.length - s.toNat) (λs=>∃ i:Nat,s=i∧i≤t.length) (λs o=>∃ y:Nat,s.toNat≤y∧y≤t.length∧o=rec (y:Int)∧∀ h:s.toNat<t.length,(t[s.toNat].toNat:Nat)=35→s.toNat<y) (λr s hI hr=>by
  obtain ⟨i,rfl,hi⟩:=hI;by_cases hlt:i<t.length
  ·simp only [ref02_skip.l2,lt_len hlt,sidx_nat hlt,yi,yt,grd,if_true,yh,yy,add64_1 (i:=i) (by omega),yC];by_cases h10:((((t[i].toNat:Nat):Int) != 10))=true
   ·rw [if_pos h10];obtain ⟨y,y1,y2,y3,-⟩:=hr ((i+1:Nat):Int) ⟨_,rfl,by omega⟩ (by simp only [yC];omega);simp only [yC] at y1;exact ⟨y,by omega,y2,y3,λ_ _=>by omega⟩
   ·rw [if_neg h10];refine ⟨i,yk _,hi,rfl,λ_ h=>?_⟩;rw [h] at h10;exact absurd h10 (by decide)
  ·have:i=t.length:=by omega
   subst this;exact ⟨t.length,by simp,yk _,by simp [ref02_skip.l2,grd],λh=>by simp at h⟩) n x ⟨x,rfl,hx⟩ (by simp;omega)
 simpa using this
theorem ref_skip_ok {n} {t:List UInt8} {a} (ha:a≤t.length) (hl:t.length<1000000) (hn:1000000≤n) :
  ∃ k:Nat,ref02_skip n t a=some (k:Int)∧a≤k∧k≤t.length∧(∀ h:k<t.length,blackP (t[k].toNat:Nat)=true)∧(∀ h:a<t.length,blackP (t[a].toNat:Nat)=true→k=a):=by
 have:=loopF_M (body:=ref02_skip.l1 n t) (λs:Int=>t.length - s.toNat) (λs=>∃ i:Nat,s=i∧i≤t.length)
  (λs o=>∃ k:Nat,o=some (k:Int)∧s.toNat≤k∧k≤t.length∧(∀ h:k<t.length,blackP (t[k].toNat:Nat)=true)∧(∀ h:s.toNat<t.length,blackP (t[s.toNat].toNat:Nat)=true→k=s.toNat)) (λr s hI hr=>by
  obtain ⟨i,rfl,hi⟩:=hI;by_cases hlt:i<t.length
  ·simp only [ref02_skip.l1,lt_len hlt,sidx_nat hlt,ref02_white,yi,yt,grd,if_true,yh,yy,ya,add64_1 (i:=i) (by omega),yC];by_cases hb:blackP (t[i].toNat:Nat)=true
   ·rw [if_neg (by
     simp only [blackP,yz,uf,uc] at hb;simp only [yr,beq_iff_eq];omega)]
    exact ⟨i,rfl,yk _,hi,λ_=>hb,λ_ _=>rfl⟩
   ·rw [if_pos (by
     simp only [blackP,yz,uf,uc] at hb;simp only [yr,beq_iff_eq];omega)]
    by_cases hh:(t[i].toNat:Nat)=35
    ·rw [if_pos (by simp [hh])];obtain ⟨y,y1,y2,y3,y4⟩:=ref_comment (n:=n) (rec:=r) hi hl hn;have y5:=y4 hlt hh;rw [y3];obtain ⟨k,e,k1,k2,k3,-⟩:=hr (y:Int) ⟨y,rfl,y2⟩ (by simp only [yC];omega);simp only [yC] at k1;exact ⟨k,e,by omega,k2,k3,λ_ h=>absurd h hb⟩
    ·rw [if_neg (by simp;omega)];obtain ⟨k,e,k1,k2,k3,-⟩:=hr ((i+1:Nat):Int) ⟨_,rfl,by omega⟩ (by simp only [yC];omega);simp only [yC] at k1;exact ⟨k,e,by omega,k2,k3,λ_ h=>absurd h hb⟩
  ·have:i=t.length:=by omega
   subst this;exact ⟨t.length,by simp [ref02_skip.l1,grd],by simp,yk _,λh=>absurd h (by omega),λh=>by simp at h⟩) n a ⟨a,rfl,ha⟩ (by simp;omega)
 simpa [ref02_skip] using this
theorem ref_symbol_ok {n} {t:List UInt8} {a} (ha:a≤t.length) (hl:t.length<1000000) (hn:1000000≤n):∃ v:Nat,ref02_symbol n t a=some (v:Int)∧a+v≤t.length:=by
 unfold ref02_symbol;simp only [ref02_Symbols,ya];generalize hL:([[61,61],[33,61],[60,61],[62,61],[46,46],[60],[62],[61],[43],[45],[42],[40],[41],[123],[125],[44],[58],[59]]:List (List UInt8))=L;have hLl:L.length=18:=by rw [← hL];rfl
 have hL2:∀ x∈L,x.length≤2:=by rw [← hL];decide
 refine loopF_M (body:=ref02_symbol.l1 n t a L) (λs:Int=>18 - s.toNat) (λs=>∃ i:Nat,s=i∧i≤18) (λs o=>∃ v:Nat,o=some (v:Int)∧a+v≤t.length) (λr s hI hr=>?_) n 0 ⟨0,rfl,by omega⟩ (by simp;omega);obtain ⟨i,rfl,hi⟩:=hI;by_cases hlt:i<L.length
 ·have h2:=hL2 _ (yA hlt);simp only [ref02_symbol.l1,lt_len hlt,if_true,idx_nat hlt,ya,yi,yh,yt,add64_1 (i:=i) (by omega),add64_nat (show a+L[i].length<9223372036854775808 by omega)];by_cases hle:a+L[i].length≤t.length
  ·simp only [cut_nat (l:=t) (a:=a) (b:=a+L[i].length) (by omega) hle,yi,yt,grd,if_true];split
   ·exact ⟨_,rfl,hle⟩
   ·exact hr _ ⟨i+1,rfl,by omega⟩ (by simp only [yC];omega)
  ·have hd:decide (((a+L[i].length:Nat):Int)≤(t.length:Int))=false:=by simp;omega
   simp only [hd,uu,uB,grd,if_true,yV,ym,if_false];exact hr _ ⟨i+1,rfl,by omega⟩ (by simp only [yC];omega)
 ·have:i=L.length:=by omega
  subst this;exact ⟨0,by simp [ref02_symbol.l1],by omega⟩
theorem ref_Has_eq {n} {L:List (List UInt8)} {w:List UInt8} (hl:L.length<1000000) (hn:1000000≤n):ref02_Has n L w=some (decide (w∈L)):=by
 have:=loopF_g (body:=ref02_Has.l1 n L w) (len:=L.length) (st:=λi=>(i:Int)) (g:=λi=>some (decide (w∈L.drop i))) (λrec i hi hr=>?_) (λrec=>?_) n 0 (yw _) (by omega)
 ·simpa [ref02_Has] using this
 ·simp only [ref02_Has.l1,lt_len hi,if_true,idx_nat hi,ya,add64_1 (i:=i) (by omega),hr];rw [drop_cons hi];by_cases h:L[i]=w
  ·rw [if_pos (by simpa using h)];simp only [yJ,h,true_or,decide_true]
  ·have h':¬ w=L[i]:=λe=>h e.symm
   rw [if_neg (by simpa using h)];simp only [yJ,h',false_or]
 ·simp [ref02_Has.l1]
theorem ref_keywords_eq {n}:ref02_Keywords n=some kwL:=rfl
theorem ref_token_ok {n} {t:List UInt8} {a} (ha:a<t.length) (hb:blackP (t[a].toNat:Nat)=true) (hl:t.length<1000000) (hn:1000000≤n) :
  ∃ (k:Int) (e:Nat),ref02_token n t a=some (k,(e:Int))∧a<e∧e≤t.length∧(letterP (t[a].toNat:Nat)=true→e=a+runP partP (t.drop a))∧(k=1↔letterP (t[a].toNat:Nat)=true∧(t.drop a).take (e - a)∉kwL):=by
 unfold ref02_token;simp only [sidx_nat ha,ya,ref_letter_eq,ref_digit_eq];by_cases hlet:letterP ((t[a].toNat:Nat):Int)=true
 ·rw [if_pos hlet];have hlp:letterP (t[a].toNat:Nat)=true:=hlet;have hrun1:1≤runP partP (t.drop a):=by
   rw [drop_cons ha,runP,if_pos (by simp [partP,hlp])];omega
  have hle:=runP_le partP (t.drop a);simp only [yO] at hle;have:=loopF_I (body:=ref02_token.l1 n t a) (len:=t.length) (st:=λ(_:Unit) i=>(i:Int)) (g:=λi _=>some (if decide ((t.drop a).take (i+runP partP (t.drop i) - a)∈kwL)=true then (2,((i+runP partP (t.drop i):Nat):Int)) else (1,((i+runP partP (t.drop i):Nat):Int)))) (λi _=>a≤i) (λrec i _ hi hai hr=>?_) (λrec _ hai=>?_) n a () (by omega) (by omega) (yk _)
  ·rw [this];refine ⟨if decide ((t.drop a).take (a+runP partP (t.drop a) - a)∈kwL)=true then 2 else 1,a+runP partP (t.drop a),?_,by omega,by omega,λ_=>rfl,?_⟩
   ·split <;> rfl
   ·rw [hlp];by_cases hk:(t.drop a).take (a+runP partP (t.drop a) - a)∈kwL
    ·simp [hk]
    ·simp [hk]
  ·have hr:=hr () (by omega);have hle':=runP_le partP (t.drop i);simp only [yO] at hle';simp only [ref02_token.l1,lt_len hi,sidx_nat hi,ref_letter_eq,ref_digit_eq,yi,yt,grd,if_true,yh,yy,add64_1 (i:=i) (by omega),hr];rw [drop_cons hi,runP];have hpe:(letterP ((t[i].toNat:Nat):Int)||digitP ((t[i].toNat:Nat):Int)||((t[i].toNat:Nat):Int)==95)=partP ((t[i].toNat:Nat):Int):=rfl;rw [hpe];by_cases hp:partP (t[i].toNat:Nat)=true
   ·rw [if_pos hp,if_pos hp,show i+(runP partP (t.drop (i+1))+1)=i+1+runP partP (t.drop (i+1)) by omega]
   ·rw [if_neg hp,if_neg hp];simp only [uo,ref_keywords_eq,ya,cut_nat hai (Nat.le_of_lt hi)];rw [ref_Has_eq (by decide) hn,ya];cases decide ((t.drop a).take (i - a)∈kwL) <;> rfl
  ·simp only [ref02_token.l1,ge_len,uu,uB,grd,if_true,yV,ym,if_false,ref_keywords_eq,ya,cut_nat hai (yk _)];rw [ref_Has_eq (by decide) hn,ya];simp only [List.drop_length,runP,uo];cases decide ((t.drop a).take (t.length - a)∈kwL) <;> rfl
 ·rw [if_neg hlet];have hlp:letterP (t[a].toNat:Nat)=false:=by simpa using hlet
  simp only [hlp,ym,false_implies,false_and,iff_false,true_and];by_cases hdig:digitP ((t[a].toNat:Nat):Int)=true
  ·rw [if_pos hdig];have:=loopF_M (body:=ref02_token.l2 n t) (λs:Int=>t.length - s.toNat) (λs=>∃ i:Nat,s=i∧i≤t.length) (λs o=>∃ e:Nat,o=some (3,(e:Int))∧s.toNat≤e∧e≤t.length∧∀ h:s.toNat<t.length,digitP (t[s.toNat].toNat:Nat)=true→s.toNat<e) (λr s hI hr=>by
    obtain ⟨i,rfl,hi⟩:=hI;by_cases hlt:i<t.length
    ·simp only [ref02_token.l2,lt_len hlt,sidx_nat hlt,ref_digit_eq,yi,yt,grd,if_true,yh,yy,add64_1 (i:=i) (by omega),yC];split
     ·obtain ⟨e,e1,e2,e3,-⟩:=hr ((i+1:Nat):Int) ⟨_,rfl,by omega⟩ (by simp only [yC];omega);simp only [yC] at e2;exact ⟨e,e1,by omega,e3,λ_ _=>by omega⟩
     ·rename_i hno;exact ⟨i,rfl,yk _,hi,λ_ h=>absurd h hno⟩
    ·have:i=t.length:=by omega
     subst this;exact ⟨t.length,by simp [ref02_token.l2,grd],by simp,yk _,λh=>by simp at h⟩) n a ⟨a,rfl,Nat.le_of_lt ha⟩ (by simp;omega)
   obtain ⟨e,e1,-,e3,e4⟩:=this;exact ⟨3,e,e1,e4 ha hdig,e3,by decide⟩
  ·rw [if_neg hdig];obtain ⟨v,hv,hv2⟩:=ref_symbol_ok (n:=n) (t:=t) (a:=a) (Nat.le_of_lt ha) hl hn;rw [hv,ya];by_cases hv0:0<v
   ·rw [if_pos (by simpa using hv0),add64_nat (by omega)];exact ⟨4,a+v,rfl,by omega,hv2,by decide⟩
   ·have hv0:v=0:=by omega
    subst hv0;rw [if_neg (by simp)];have:=loopF_M (body:=ref02_token.l3 n t) (λs:Int=>t.length - s.toNat) (λs=>∃ i:Nat,s=i∧i≤t.length) (λs o=>∃ e:Nat,o=some (5,(e:Int))∧s.toNat≤e∧e≤t.length∧(s=a→a<e)) (λr s hI hr=>by
     obtain ⟨i,rfl,hi⟩:=hI;by_cases hlt:i<t.length
     ·obtain ⟨u,hu,-⟩:=ref_symbol_ok (n:=n) (t:=t) (a:=i) hi hl hn;simp only [ref02_token.l3,lt_len hlt,sidx_nat hlt,ref02_white,ref_letter_eq,ref_digit_eq,hu,yi,yt,grd,if_true,yh,yy,add64_1 (i:=i) (by omega),yC];split
      ·obtain ⟨e,e1,e2,e3,-⟩:=hr ((i+1:Nat):Int) ⟨_,rfl,by omega⟩ (by simp only [yC];omega);simp only [yC] at e2;exact ⟨e,e1,by omega,e3,λh=>by omega⟩
      ·rename_i hno;refine ⟨i,rfl,yk _,hi,λh=>?_⟩;have hia:i=a:=by omega
       subst hia;exfalso;apply hno;rw [hv] at hu;simp only [yg,Int.natCast_inj] at hu;subst hu;simp only [blackP,yz,uf,uc] at hb;simp only [yc,bne_iff_ne,ne_eq,yz,uf,uc];simp only [yH] at hlet hdig;exact ⟨⟨⟨⟨by omega,by omega⟩,hlet⟩,hdig⟩,by simp⟩
     ·have:i=t.length:=by omega
      subst this;exact ⟨t.length,by simp [ref02_token.l3,grd],by simp,yk _,λh=>by omega⟩) n a ⟨a,rfl,Nat.le_of_lt ha⟩ (by simp;omega)
    obtain ⟨e,e1,-,e3,e4⟩:=this;exact ⟨5,e,e1,e4 rfl,e3,by decide⟩
theorem app_some {α:Type} {b:Nat} {xs ys:List α} (h:(xs.length+ys.length)*b≤140737488355328):Go.Proofs.YtbnhmfnagdgcmaaGreatDoor.app b xs ys=some (xs++ys):=by
 unfold Go.Proofs.YtbnhmfnagdgcmaaGreatDoor.app;rw [if_pos h]
theorem ref_Scan_ok {n:Nat} {t:List UInt8} (hl:t.length<1000000) (hn:1000000≤n):∀ (m:Nat) (b:List Token) (a:Nat),a≤t.length→b.length≤a→t.length - a<m→∃ r,r≠[]∧loopF (ref02_Scan.l1 n t) m (b,(a:Int))=some (b++r,0)
 | 0,_,_,_,_,h=>by omega
 | m+1,b,a,ha,hb,h=>by
  obtain ⟨k,e,k1,k2,k3,-⟩:=ref_skip_ok (n:=n) ha hl hn;simp only [loopF,ref02_Scan.l1,e,ya];by_cases hlt:k<t.length
  ·obtain ⟨q,z,hz,z1,z2,-,-⟩:=ref_token_ok (n:=n) hlt (k3 hlt) hl hn;simp only [lt_len hlt,if_true,hz,ya];rw [app_some (by simp;omega),ya];obtain ⟨r,-,hr⟩:=ref_Scan_ok hl hn m (b++[(⟨q,(a:Int),(k:Int),(z:Int)⟩:Token)]) z z2 (by simp;omega) (by omega);rw [hr];exact ⟨_::r,by simp,by rw [yW];rfl⟩
  ·rw [ge_nat (by omega),if_neg (by simp),app_some (by simp;omega),ya];exact ⟨_,by simp,rfl⟩
theorem ref_Kind_ok {n:Nat} {w:List UInt8} (hl:w.length≤4096) (hn:1000000≤n):∃ k,ref02_Kind n w=some k∧(k=1↔wordP w=true∧w∉kwL):=by
 unfold ref02_Kind ref02_Scan;rw [if_neg (by simp;omega),loopF_1 (by omega)];obtain ⟨k,e,-,k2,k3,k4⟩:=ref_skip_ok (n:=n) (t:=w) (a:=0) (by omega) (by omega) hn;simp only [Int.natCast_zero] at e;simp only [ref02_Scan.l1,e,ya];by_cases hlt:k<w.length
 ·obtain ⟨q,z,hz,z1,z2,z3,z4⟩:=ref_token_ok (n:=n) hlt (k3 hlt) (by omega) hn;simp only [lt_len hlt,if_true,hz,ya,y9];rw [app_some (by simp),ya];obtain ⟨r,r0,hr⟩:=ref_Scan_ok (n:=n) (t:=w) (by omega) hn (n - 1) [(⟨q,0,(k:Int),(z:Int)⟩:Token)] z z2 (by simp;omega) (by omega);simp only [y9];rw [hr];have h0:idx ([(⟨q,0,(k:Int),(z:Int)⟩:Token)]++r) 0=some ⟨q,0,(k:Int),(z:Int)⟩:=by simp [idx]
  simp only [ya,h0,yi,yt,grd,if_true,yh];rw [wordP_cons w (by omega)];have hw0:k=0→z=w.length→(letterP (w[k].toNat:Nat)=true∧(w.drop k).take (z - k)∉kwL↔(letterP (w[0].toNat:Nat)&&decide (runP partP w=w.length))=true∧w∉kwL):=by
   intro e1 e2;subst e1;rw [e2];simp only [List.drop_zero,Nat.sub_zero,List.take_length,yc,yd];constructor
   ·rintro ⟨h1,h2⟩;have:=z3 h1;simp only [List.drop_zero] at this;exact ⟨⟨h1,by omega⟩,h2⟩
   ·rintro ⟨⟨h1,-⟩,h2⟩;exact ⟨h1,h2⟩
  by_cases hc:((((((0:Int) != 0)||((([(⟨q,0,(k:Int),(z:Int)⟩:Token)]++r).length:Int) != 2))||((k:Int) != 0))||((z:Int) != (w.length:Int))))=true
  ·rw [if_pos hc];refine ⟨0,rfl,?_⟩;constructor
   ·intro h;exact absurd h (by decide)
   ·rintro ⟨h1,h2⟩;exfalso;simp only [yc,yd] at h1;have hk0:k=0:=k4 (by omega) (letter_black h1.1);subst hk0;have hzw:=z3 h1.1;simp only [List.drop_zero] at hzw;have hzl:z=w.length:=by omega
    subst hzl;rw [loopF_1 (by omega)] at hr;obtain ⟨k',e',p1,p2,-,-⟩:=ref_skip_ok (n:=n) (t:=w) (a:=w.length) (yk _) (by omega) hn;have:k'=w.length:=by omega
    subst this;simp only [ref02_Scan.l1,e',ya,ge_len,ym,if_false] at hr;rw [app_some (by simp),ya] at hr;simp only [yg,yq,and_true,List.append_cancel_left_eq] at hr;subst hr;simp at hc
  ·rw [if_neg hc];refine ⟨q,rfl,?_⟩;simp only [yr,bne_iff_ne,ne_eq,not_or,Decidable.not_not] at hc;rw [z4];exact hw0 (by omega) (by omega)
 ·rw [ge_nat (by omega),if_neg (by simp),app_some (by simp),ya];simp only [y9,ya];refine ⟨0,by simp [grd,idx],?_⟩;constructor
  ·intro h;exact absurd h (by decide)
  ·rintro ⟨h1,-⟩;exfalso;cases w with
   | nil=>simp [wordP] at h1
   | cons x l=>
    simp only [wordP,yc] at h1;have:=k4 (by simp) (letter_black h1.1);simp at hlt;omega
theorem ref02_Name_eq {n} {w:List UInt8} (hl:w.length≤4096) (hn:1000000≤n):ref02_Name n w=some (nameP w):=by
 unfold ref02_Name nameP;obtain ⟨k,hk,hiff⟩:=ref_Kind_ok (n:=n) hl hn;rw [hk,ya];have h16:decide ((w.length:Int)≤16)=decide (w.length≤16):=decide_eq_decide.2 (by omega);rw [h16,Bool.and_comm];congr 2;rw [Bool.eq_iff_iff];simp only [beq_iff_eq,hiff,yc,yz,yD]
theorem SetIs.getS {m:GMap (List UInt8) Bool} {l:List (List UInt8)} (h:SetIs m l) (k:List UInt8):(m.get? k).getD false=decide (k∈l):=(h.get k).trans (decide_eq_decide.2 Iff.rfl)
def distP:List (List UInt8)→List (List UInt8)→Bool
 | _,[]=>true
 | seen,s::l=>nameP s&&!decide (s∈seen)&&distP (seen++[s]) l
theorem model_distinct_eq {n} {l:List (List UInt8)} (hF:Fuel n) (hl:l.length<1000000):model_distinct n l=some (distP [] l):=by
 have hn:=hF.big;have:=loopF_I (body:=model_distinct.l1 n l) (len:=l.length) (st:=λm i=>(m,(i:Int))) (g:=λi _=>some (distP (l.take i) (l.drop i))) (λi m=>SetIs m (l.take i)) (λrec i m hi hm hr=>?_) (λrec m _=>?_) n 0 (GMap.empty) (yw _) (by omega) (by simpa using SetIs.empty)
 ·simpa [model_distinct] using this
 ·simp only [model_distinct.l1,lt_len hi,if_true,idx_nat hi,ya,lexer_Name_eq hF,hm.getS,add64_1 (i:=i) (by omega)];rw [hr _ (by rw [yB hi];exact hm.put _),drop_cons hi,distP,yB hi];cases nameP l[i] <;> cases hd:decide (l[i]∈l.take i) <;> simp
 ·simp [model_distinct.l1,distP]
theorem ref13_distinct_eq {n} {l:List (List UInt8)} (hn:1000000≤n) (hl:l.length<1000000) (hw:∀ w∈l,w.length≤4096):ref13_distinct n l=some (distP [] l):=by
 have:=loopF_g (body:=ref13_distinct.l1 n l) (len:=l.length) (st:=λi=>(i:Int)) (g:=λi=>some (distP (l.take i) (l.drop i))) (λrec i hi hr=>?_) (λrec=>?_) n 0 (yw _) (by omega)
 ·simpa [ref13_distinct] using this
 ·have hc:=cut_nat (l:=l) (a:=0) (b:=i) (by omega) (Nat.le_of_lt hi)
  simp only [Int.natCast_zero,List.drop_zero,Nat.sub_zero] at hc;simp only [ref13_distinct.l1,lt_len hi,if_true,idx_nat hi,ya,ref02_Name_eq (hw _ (yA hi)) hn,hc,yi,yh,yt,grd,ref_Has_eq (show (l.take i).length<1000000 by simp;omega) hn,add64_1 (i:=i) (by omega),hr];rw [drop_cons hi,distP,yB hi];cases nameP l[i] <;> cases hd:decide (l[i]∈l.take i) <;> simp
 ·simp [ref13_distinct.l1,distP]
theorem IndexB_eq {n l v} (hl:l.length<1000000) (hn:1000000≤n):slices_Index_Lbool_bool n l v=some (ixP (λx=>v==x) l 0):=by
 have:=loopF_g (body:=slices_Index_Lbool_bool.l1 n l v) (len:=l.length) (st:=λi=>(i:Int)) (g:=λi=>some (ixP (λx=>v==x) (l.drop i) i)) (λrec i hi hr=>?_) (λrec=>?_) n 0 (yw _) (by omega)
 ·simpa [slices_Index_Lbool_bool] using this
 ·simp only [slices_Index_Lbool_bool.l1,lt_len hi,if_true,idx_nat hi,ya,add64_1 (i:=i) (by omega),hr];rw [drop_cons hi];simp only [ixP];split <;> rfl
 ·simp [slices_Index_Lbool_bool.l1,ixP]
theorem cells_all_eq {n l} (hl:l.length<1000000) (hn:1000000≤n):cells_all n l=some (l.all id):=by
 unfold cells_all slices_Contains_Lbool_bool;rw [IndexB_eq hl hn];simp only [ya,ixP_any,yg];rw [← any_not];congr 2;funext x;cases x <;> rfl
def b6:Nat→Int→Int
 | 0,A=>A
 | k+1,A=>b6 k (A*6)
theorem b6_le:∀ (k:Nat) (A:Int),1≤A→A≤b6 k A
 | 0,_,_=>Int.le_refl _
 | k+1,A,h=>Int.le_trans (by omega) (b6_le k (A*6) (by omega))
theorem mul_small {a b A:Int} (h1:1≤a) (h2:a≤A) (h3:1≤b) (h4:b≤6):1≤a*b∧a*b≤A*6:=by
 have e1:1*1≤a*b:=Int.mul_le_mul h1 h3 (by omega) (by omega);have e2:a*b≤A*6:=Int.mul_le_mul h2 h4 (by omega) (by omega);omega
theorem widthP_b6 (sizes:List Int) (hs:sizes.all sizeOK=true):∀ (cols:List Int) (s A:Int),cols.all (colOK sizes)=true→1≤s→s≤A→b6 cols.length A≤1000000→1≤widthP sizes cols s∧widthP sizes cols s≤b6 cols.length A
 | [],s,A,_,h1,h2,_=>by simpa [widthP,b6] using ⟨h1,h2⟩
 | c::l,s,A,hc,h1,h2,h3=>by
  simp only [um,yc] at hc;have hcol:=hc.1;simp only [colOK,yc,yd] at hcol;obtain ⟨k,rfl⟩:=yZ hcol.1;have hk:k<sizes.length:=by omega
  have hz:=yu.1 hs _ (yA hk);simp only [sizeOK,yc,yd] at hz;have hg:sizes.getD (k:Int).toNat 0=sizes[k]:=by simp [List.getD,hk]
  have hm:=mul_small h1 h2 hz.1 hz.2;simp only [yT,b6] at h3 ⊢;have hb:=b6_le l.length (A*6) (by omega);simp only [widthP,hg];unfold mul64;rw [w64_id (by omega) (by omega)];exact widthP_b6 sizes hs l _ _ hc.2 hm.1 hm.2 h3
theorem widthP_bound {sizes cols} (hs:sizes.all sizeOK=true) (hc:cols.all (colOK sizes)=true) (h3:cols.length≤3):1≤widthP sizes cols 1∧widthP sizes cols 1≤216:=by
 have h:b6 cols.length 1≤216:=by
  match cols,h3 with
  | [],_=>decide
  | [_],_=>simp [b6]
  | [_,_],_=>simp [b6]
  | [_,_,_],_=>simp [b6]
  | _::_::_::_::_,h=>simp at h
 have:=widthP_b6 sizes hs cols 1 1 hc (by decide) (by decide) (by omega);omega
def strictP (k:Int):Bool:=k==0||k==1
def rangedP (t:Table):Bool:=if (t.kind==1||t.kind==4||t.kind==5)=true then (decide (t.range.lo≤t.range.hi)&&decide (-9999≤t.range.lo))&&decide (t.range.hi≤9999) else decide (t.range=(⟨0,1⟩:Range))
def tabP (sizes:List Int) (t:Table):Bool:=nameP t.name&&(decide (0≤t.kind)&&decide (t.kind≤5))&&(decide (t.columns.length≤3)&&t.columns.all (colOK sizes))&&rangedP t
def layP (sizes:List Int):List (List UInt8)→Int→Int→List Table→Bool
 | _,a,b,[]=>decide (a≤128)&&decide (b≤64)
 | seen,a,b,t::l=>(tabP sizes t&&!decide (t.name∈seen))&&(if strictP t.kind=true then t.first==a&&layP sizes (seen++[t.name]) (add64 a (widthP sizes t.columns 1)) b l else t.first==b&&layP sizes (seen++[t.name]) a (add64 b (widthP sizes t.columns 1)) l)
def layoutP (sizes:List Int) (tables:List Table):Bool:=decide (sizes.length≤4)&&decide (tables.length≤12)&&sizes.all sizeOK&&layP sizes [] 0 0 tables
theorem cells_ranged_eq {n t}:cells_ranged n t=some (rangedP t):=by
 unfold cells_ranged rangedP jn;by_cases h1:t.kind=1
 ·simp [h1]
 ·by_cases h4:t.kind=4
  ·simp [h4]
  ·by_cases h5:t.kind=5
   ·simp [h5]
   ·simp [h1,h4,h5]
theorem cells_Valid_eq {n sizes tables} (hF:Fuel n) (hs:sizes.length≤1000) (ht:tables.length≤1000) (hc:∀ t∈tables,t.columns.length≤1000):cells_Valid n sizes tables=some (layoutP sizes tables):=by
 have hn:=hF.big;unfold cells_Valid layoutP;rw [cells_sized_eq (by omega) (by omega),ya,cells_all_eq (by simp) (by omega),ya];simp only [um,List.all_nil,id,ut];have e1:decide ((sizes.length:Int)≤4)=decide (sizes.length≤4):=decide_eq_decide.2 (by omega);have e2:decide ((tables.length:Int)≤12)=decide (tables.length≤12):=decide_eq_decide.2 (by omega);rw [e1,e2,← Bool.and_assoc];by_cases h:(decide (sizes.length≤4)&&decide (tables.length≤12)&&sizes.all sizeOK)=true
 ·rw [h,if_neg (by simp),yy];have:=loopF_I (body:=cells_Valid.l1 n sizes tables) (len:=tables.length) (st:=λ(s:GMap (List UInt8) Bool×Int×Int) i=>(s.1,s.2.1,s.2.2,(i:Int))) (g:=λi s=>some (layP sizes ((tables.take i).map (·.name)) s.2.1 s.2.2 (tables.drop i))) (λi s=>SetIs s.1 ((tables.take i).map (·.name))) (λrec i s hi hm hr=>?_) (λrec s _=>?_) n 0 (GMap.empty,0,0) (yw _) (by omega) (by simpa using SetIs.empty)
  ·simpa using this
  ·obtain ⟨m,a,b⟩:=s;simp only [] at hm;have hmem:=yA hi;have hcols:=hc _ hmem;simp only [cells_Valid.l1,jn,lt_len hi,if_true,idx_nat hi,ya,lexer_Name_eq hF,hm.getS,cells_within,cells_columned_eq (show tables[i].columns.length<4611686018427387904 by omega) (show tables[i].columns.length<n by omega),cells_ranged_eq,cells_isStrict,add64_1 (i:=i) (by omega)];rw [cells_all_eq (by simp) (by omega),ya];simp only [um,List.all_nil,id,ut];have hput:=hm.put tables[i].name;have htk:((tables.take (i+1)).map (·.name))=(tables.take i).map (·.name)++[tables[i].name]:=by rw [yB hi,ue];rfl
   rw [← htk] at hput;have hT:(nameP tables[i].name&&(!decide (tables[i].name∈(tables.take i).map (·.name))&&(decide (0≤tables[i].kind)&&decide (tables[i].kind≤5)&&(decide (tables[i].columns.length≤3)&&tables[i].columns.all (colOK sizes)&&rangedP tables[i]))))=(tabP sizes tables[i]&&!decide (tables[i].name∈(tables.take i).map (·.name))):=by
    unfold tabP;cases nameP tables[i].name <;> cases decide (tables[i].name∈(tables.take i).map (·.name)) <;> simp [Bool.and_assoc]
   rw [hT,drop_cons hi,layP];by_cases hv:(tabP sizes tables[i]&&!decide (tables[i].name∈(tables.take i).map (·.name)))=true
   ·rw [hv,if_neg (by simp),yy];have hcol:tables[i].columns.all (colOK sizes)=true:=by
     simp only [tabP,yc] at hv;exact hv.1.1.2.2
    simp only [cells_width_eq hcol (show tables[i].columns.length<4611686018427387904 by omega) (show tables[i].columns.length<n by omega),ya,← htk];unfold strictP;by_cases hk:(tables[i].kind==0||tables[i].kind==1)=true
    ·rw [if_pos hk,if_pos hk];by_cases hf:tables[i].first=a
     ·rw [if_neg (by simp [hf]),hr (m.put tables[i].name true,add64 a (widthP sizes tables[i].columns 1),b) hput];simp [hf]
     ·rw [if_pos (by simp [hf])];simp [hf]
    ·rw [if_neg hk,if_neg hk];by_cases hf:tables[i].first=b
     ·rw [if_neg (by simp [hf]),hr (m.put tables[i].name true,a,add64 b (widthP sizes tables[i].columns 1)) hput];simp [hf]
     ·rw [if_pos (by simp [hf])];simp [hf]
   ·simp only [yH] at hv;rw [hv,if_pos (by simp),yV]
  ·simp [cells_Valid.l1,layP]
 ·simp only [yH] at h;rw [h,if_pos (by simp),yV]
theorem ref09_Valid_eq {n sizes tables} (hn:1000000≤n) (hs:sizes.length≤1000) (ht:tables.length≤1000) (hc:∀ t∈tables,t.columns.length≤1000∧t.name.length≤4096):ref09_Valid n sizes tables=some (layoutP sizes tables):=by
 unfold ref09_Valid layoutP;have e1:decide (4<(sizes.length:Int)) = !decide (sizes.length≤4):=by rw [← decide_not];exact decide_eq_decide.2 (by omega)
 have e2:decide (12<(tables.length:Int)) = !decide (tables.length≤12):=by rw [← decide_not];exact decide_eq_decide.2 (by omega)
 rw [ref09_sound_eq (by omega) (by omega),e1,e2];simp only [yi,yt,grd,if_true,yh];by_cases h:(decide (sizes.length≤4)&&decide (tables.length≤12)&&sizes.all sizeOK)=true
 ·rw [h,yy];simp only [yc] at h;obtain ⟨⟨h1,h2⟩,h3⟩:=h;rw [h1,h2,h3,if_neg (by simp)];have:=loopF_I (body:=ref09_Valid.l1 n sizes tables) (len:=tables.length) (st:=λ(s:Int×Int) i=>(s.1,s.2,(i:Int))) (g:=λi s=>some (layP sizes ((tables.take i).map (·.name)) s.1 s.2 (tables.drop i))) (λ_ _=>True) (λrec i s hi _ hr=>?_) (λrec s _=>?_) n 0 (0,0) (yw _) (by omega) trivial
  ·simpa using this
  ·obtain ⟨a,b⟩:=s;have hmem:=yA hi;obtain ⟨hcols,hname⟩:=hc _ hmem;simp only [ref09_Valid.l1,jn,lt_len hi,if_true,idx_nat hi,ya];generalize hK:(λ(v:Int×Int)=>rec (v.1,v.2,add64 (i:Int) 1))=K;have inner:=loopF_g (body:=ref09_Valid.l2 n sizes tables a b i K tables[i]) (len:=i) (st:=λk=>(k:Int)) (g:=λk=>if decide (tables[i].name∈((tables.take i).drop k).map (·.name))=true then some false else ref09_Valid.l2 n sizes tables a b i K tables[i] (λ_=>none) (i:Int)) (λrec' k hk hr'=>?_) (λrec'=>?_) n 0 (yw _) (by omega)
   ·rw [show ((0:Nat):Int)=0 from rfl] at inner;rw [inner,drop_cons hi,layP,List.drop_zero];have htk:((tables.take (i+1)).map (·.name))=(tables.take i).map (·.name)++[tables[i].name]:=by rw [yB hi,ue];rfl
    cases hseen:decide (tables[i].name∈(tables.take i).map (·.name)) with
    | true=>simp
    | false=>
     simp only [ym,if_false,uu,ut];have hnum:=ref09_number_eq (n:=n) (sizes:=sizes) (cols:=tables[i].columns) (by omega) (by omega) (by omega) (by omega);rw [h3,ut] at hnum;simp only [ref09_Valid.l2,ge_nat (yk i),ym,if_false,hnum,ya,ref02_Name_eq hname hn,ref09_strict];unfold tabP;by_cases hcol:(decide (tables[i].columns.length≤3)&&tables[i].columns.all (colOK sizes))=true
     ·simp only [hcol,if_true,ut];have hcol':=hcol;simp only [yc,yd] at hcol';have hw:=widthP_bound h3 hcol'.2 hcol'.1;have hw0:(widthP sizes tables[i].columns 1==0)=false:=by simp;omega
      rw [hw0,Bool.or_false];by_cases hnk:(nameP tables[i].name&&(decide (0≤tables[i].kind)&&decide (tables[i].kind≤5)))=true
      ·rw [hnk,yy];simp only [yc,yd] at hnk;rw [if_neg (by simp [hnk.1];omega)];by_cases hrg:rangedP tables[i]=true
       ·rw [hrg,yy];unfold rangedP at hrg;rw [if_neg (by
         split at hrg
         ·simp only [yc,yd] at hrg;simp only [yr,yd];omega
         ·simp only [yd] at hrg;rw [hrg];decide),if_neg (by
         split at hrg
         ·rename_i hk;simp only [yr,beq_iff_eq] at hk;simp only [yc,yr,beq_iff_eq];omega
         ·simp only [yd] at hrg;rw [hrg];simp)]
        unfold strictP;by_cases hk:(tables[i].kind==0||tables[i].kind==1)=true
        ·rw [if_pos hk,if_pos hk];by_cases hf:tables[i].first=a
         ·rw [if_neg (by simp [hf]),← hK];simp only [add64_1 (i:=i) (by omega)];have:=hr (add64 a (widthP sizes tables[i].columns 1),b) trivial;simp only [] at this;rw [this,htk];simp [hf]
         ·rw [if_pos (by simp [hf])];simp [hf]
        ·rw [if_neg hk,if_neg hk];by_cases hf:tables[i].first=b
         ·rw [if_neg (by simp [hf]),← hK];simp only [add64_1 (i:=i) (by omega)];have:=hr (a,add64 b (widthP sizes tables[i].columns 1)) trivial;simp only [] at this;rw [this,htk];simp [hf]
         ·rw [if_pos (by simp [hf])];simp [hf]
       ·simp only [yH] at hrg;rw [hrg,yV];unfold rangedP at hrg;split at hrg
        ·rename_i hk;rw [if_pos (by
          simp only [uh,yD] at hrg;simp only [yr,yd];omega)]
        ·rename_i hk;simp only [yr,beq_iff_eq,not_or] at hk;have hr01:¬ (tables[i].range.lo=0∧tables[i].range.hi=1):=by
          rintro ⟨q1,q2⟩;simp only [yD] at hrg;apply hrg;cases hrr:tables[i].range;rw [hrr] at q1 q2;simp only [] at q1 q2;rw [q1,q2]
         split
         ·rfl
         ·rw [if_pos (by
           simp only [yc,yr,beq_iff_eq,bne_iff_ne,ne_eq];omega)]
      ·simp only [yH] at hnk;rw [hnk,yV,yV];rw [if_pos (by
        simp only [uh,yD] at hnk;simp only [yr,yz,yd];rcases hnk with h | h | h
        ·exact .inl (.inl h)
        ·exact .inl (.inr (by omega))
        ·exact .inr (by omega))]
     ·simp only [yH] at hcol;simp only [hcol,Bool.and_false,yV,ym,if_false];rw [if_pos (by simp)]
   ·have hk':k<tables.length:=by omega
    simp only [ref09_Valid.l2,lt_nat hk,if_true,idx_nat hk',ya,add64_1 (i:=k) (by omega),hr'];have hk2:k<(tables.take i).length:=by simp;omega
    rw [drop_cons hk2];simp only [List.getElem_take,yI,yJ];by_cases hnm:tables[k].name=tables[i].name
    ·rw [if_pos (by simpa using hnm),if_pos (by simp [hnm])]
    ·rw [if_neg (by simpa using hnm)];have hnm':¬ tables[i].name=tables[k].name:=λe=>hnm e.symm
     simp only [hnm',false_or]
   ·rw [if_neg (by simp)];simp only [ref09_Valid.l2,ge_nat (yk i),ym,if_false]
  ·simp [ref09_Valid.l1,layP]
 ·simp only [yH] at h;rw [h,yV];rw [if_pos (by
   simp only [uh] at h;simp only [yr,yz];rcases h with (h | h) | h
   ·exact .inl (.inl h)
   ·exact .inr h
   ·exact .inl (.inr h))]
def rangesP (sizes:List Int) (s:Bool):List Table→List Range
 | []=>[]
 | t::l=>if (strictP t.kind==s)=true then List.replicate (widthP sizes t.columns 1).toNat t.range++rangesP sizes s l else rangesP sizes s l
theorem layP_tab {sizes}:∀ {l:List Table} {seen:List (List UInt8)} {a b:Int},layP sizes seen a b l=true→∀ t∈l,tabP sizes t=true
 | [],_,_,_,_,_,ht=>by simp at ht
 | x::l,seen,a,b,h,t,ht=>by
  simp only [layP,yc] at h;simp only [yJ] at ht;rcases ht with rfl | ht
  ·exact h.1.1
  ·have h2:=h.2;split at h2
   ·simp only [yc] at h2;exact layP_tab h2.2 t ht
   ·simp only [yc] at h2;exact layP_tab h2.2 t ht
theorem layoutP_tab {sizes tables} (h:layoutP sizes tables=true):sizes.length≤4∧tables.length≤12∧sizes.all sizeOK=true∧∀ t∈tables,nameP t.name=true∧(0≤t.kind∧t.kind≤5)∧t.columns.length≤3∧t.columns.all (colOK sizes)=true∧1≤widthP sizes t.columns 1∧widthP sizes t.columns 1≤216:=by
 simp only [layoutP,yc,yd] at h;obtain ⟨⟨⟨h1,h2⟩,h3⟩,h4⟩:=h;refine ⟨h1,h2,h3,λt ht=>?_⟩;have:=layP_tab h4 t ht;simp only [tabP,yc,yd] at this;obtain ⟨⟨⟨p1,p2⟩,p3⟩,-⟩:=this;exact ⟨p1,p2,p3.1,p3.2,widthP_bound h3 p3.2 p3.1⟩
theorem rangesP_len {sizes s}:∀ {l:List Table},(∀ t∈l,1≤widthP sizes t.columns 1∧widthP sizes t.columns 1≤216)→(rangesP sizes s l).length≤l.length*216
 | [],_=>by simp [rangesP]
 | t::l,h=>by
  have ih:=rangesP_len (s:=s) (l:=l) λx hx=>h x (by simp [hx])
  have ht:=h t (by simp);simp only [rangesP,yT];split
  ·simp only [yS,un];omega
  ·omega
theorem Mul_eq {n}:∀ w:Fin 217,math_bits_Mul n 1 ((w.1:Nat):Int)=some (0,((w.1:Nat):Int)):=by
 intro w;unfold math_bits_Mul math_bits_Mul64;revert w;decide +kernel
theorem wk_small:∀ w:Fin 217,wk .u64 ((w.1:Nat):Int)=((w.1:Nat):Int)∧wk .i64 ((w.1:Nat):Int)=((w.1:Nat):Int):=by decide +kernel
theorem Repeat_eq {n x w} (h1:1≤w) (h2:w≤216) (hn:1000000≤n):slices_Repeat_LRange_api_Range n [x] w=some (List.replicate w.toNat x):=by
 obtain ⟨W,rfl⟩:=yZ (show 0≤w by omega);have hW:W<217:=by omega
 have hwk:=wk_small ⟨W,hW⟩;simp only [] at hwk;have h1k:wk .u64 (([x]:List Range).length:Int)=1:=(wk_small ⟨1,by decide⟩).1;unfold slices_Repeat_LRange_api_Range;rw [if_neg (by simp),h1k,hwk.1,Mul_eq ⟨W,hW⟩];simp only [ya];rw [if_neg (by simp;omega),hwk.2];have hm:mkl 16 (W:Int) (⟨0,0⟩:Range)=some (List.replicate W ⟨0,0⟩):=by
  unfold mkl;rw [if_pos (by omega)];simp
 rw [hm,ya];simp only [un,List.length_singleton,Nat.sub_zero,yC];rw [show min W 1=1 by omega];refine loopF_M (body:=slices_Repeat_LRange_api_Range.l1 n) (λs=>W - s.2.toNat) (λs=>∃ k:Nat,s.2=(k:Int)∧1≤k∧k≤W∧s.1.length=W∧s.1.take k=List.replicate k x) (λ_ o=>o=some (List.replicate W x)) (λrec s hI hr=>?_) n _ ⟨1,rfl,by omega,by omega,?_,?_⟩ (by simp;omega)
 ·obtain ⟨b,kk⟩:=s;obtain ⟨k,rfl,k1,k2,hb,hk⟩:=hI;simp only [] at hb hk;simp only [slices_Repeat_LRange_api_Range.l1];by_cases hlt:k<W
  ·have hcE:cut b (k:Int) (W:Int)=some (b.drop k):=by rw [← hb];exact cut_end (by omega)
   have hc:=cut_nat (l:=b) (a:=0) (b:=k) (by omega) (by omega)
   simp only [Int.natCast_zero] at hc;simp only [hb,lt_nat hlt,if_true,hcE,hc,ya,yC,List.drop_zero,Nat.sub_zero,hk,un];rw [add64_nat (by omega)];refine hr (_,((k+min (W - k) k:Nat):Int)) ⟨k+min (W - k) k,rfl,by omega,by omega,?_,?_⟩ (by simp only [yC];omega)
   ·simp only [];rw [copyTo_length (by omega) (by omega),hb]
   ·simp only [copyTo,hk,List.take_replicate,un];rw [show min (W - k) k=min (W - k) k from rfl,← yW,List.replicate_append_replicate];rw [List.take_append_of_le_length (by simp)];simp
  ·have:k=W:=by omega
   subst this;have hd:decide ((k:Int)<(b.length:Int))=false:=by rw [hb];exact ge_nat (yk _)
   simp only [hd,ym,if_false];rw [← hk,List.take_of_length_le (by omega)]
 ·rw [copyTo_length (by omega) (by simp)];simp
 ·simp [copyTo,List.take_append];rw [List.take_of_length_le (l:=[x]) (by simp;omega),show min W 1=1 by omega];simp
theorem rangesP_append (sizes s):∀ (l m:List Table),rangesP sizes s (l++m)=rangesP sizes s l++rangesP sizes s m
 | [],_=>rfl
 | t::l,m=>by
  simp only [yX,rangesP,rangesP_append sizes s l m];split <;> simp
theorem rangesP_snoc {sizes:List Int} {s:Bool} {l:List Table} {i:Nat} (hi:i<l.length):rangesP sizes s (l.take (i+1))=if (strictP l[i].kind==s)=true then rangesP sizes s (l.take i)++List.replicate (widthP sizes l[i].columns 1).toNat l[i].range else rangesP sizes s (l.take i):=by
 rw [yB hi,rangesP_append];simp only [rangesP];split <;> simp
theorem cells_Ranges_eq {n:Nat} {sizes:List Int} {tables:List Table} {s:Bool} (hF:Fuel n) (hs:sizes.length≤1000) (ht:tables.length≤1000) (hc:∀ t∈tables,t.columns.length≤1000) :
  cells_Ranges n sizes tables s=some (if layoutP sizes tables=true then rangesP sizes s tables else []):=by
 have hn:=hF.big;unfold cells_Ranges;rw [cells_Valid_eq hF hs ht hc,ya];cases hL:layoutP sizes tables with
 | false=>simp
 | true=>
  obtain ⟨l1,l2,l3,l4⟩:=layoutP_tab hL;have:=loopF_g (body:=cells_Ranges.l1 n sizes tables s) (len:=tables.length) (st:=λi=>(rangesP sizes s (tables.take i),(i:Int))) (g:=λ_=>some (rangesP sizes s tables)) (λrec i hi hr=>?_) (λrec=>?_) n 0 (yw _) (by omega)
  ·simpa [rangesP] using this
  ·obtain ⟨-,-,c1,c2,c3,c4⟩:=l4 _ (yA hi);have hlen:=rangesP_len (sizes:=sizes) (s:=s) (l:=tables.take i) λx hx=>(l4 x (List.mem_of_mem_take hx)).2.2.2.2
   simp only [yN] at hlen;rw [rangesP_snoc hi] at hr;simp only [cells_Ranges.l1,jn,lt_len hi,if_true,idx_nat hi,ya,cells_isStrict,add64_1 (i:=i) (by omega)];unfold strictP at hr;by_cases hk:((tables[i].kind==0||tables[i].kind==1)==s)=true
   ·rw [if_pos hk] at hr ⊢;rw [cells_width_eq c2 (by omega) (by omega),ya,Repeat_eq c3 c4 (by omega),ya,app_some (by simp only [un];omega),ya,hr]
   ·rw [if_neg hk] at hr ⊢;rw [hr]
  ·simp [cells_Ranges.l1]
theorem ref09_Ranges_eq {n:Nat} {sizes:List Int} {tables:List Table} {s:Bool} (hn:1000000≤n) (hs:sizes.length≤1000) (ht:tables.length≤1000) (hc:∀ t∈tables,t.columns.length≤1000∧t.name.length≤4096) :
  ref09_Ranges n sizes tables s=some (if layoutP sizes tables=true then rangesP sizes s tables else []):=by
 unfold ref09_Ranges;rw [ref09_Valid_eq hn hs ht hc,ya];cases hL:layoutP sizes tables with
 | false=>simp
 | true=>
  obtain ⟨l1,l2,l3,l4⟩:=layoutP_tab hL;have:=loopF_g (body:=ref09_Ranges.l1 n sizes tables s) (len:=tables.length) (st:=λi=>(rangesP sizes s (tables.take i),(i:Int))) (g:=λ_=>some (rangesP sizes s tables)) (λrec i hi hr=>?_) (λrec=>?_) n 0 (yw _) (by omega)
  ·simpa [rangesP] using this
  ·obtain ⟨-,-,c1,c2,c3,c4⟩:=l4 _ (yA hi);have hlen:=rangesP_len (sizes:=sizes) (s:=s) (l:=tables.take i) λx hx=>(l4 x (List.mem_of_mem_take hx)).2.2.2.2
   simp only [yN] at hlen;rw [rangesP_snoc hi] at hr;simp only [ref09_Ranges.l1,lt_len hi,if_true];obtain ⟨W,hW⟩:=yZ (show 0≤widthP sizes tables[i].columns 1 by omega);have hnum:=ref09_number_eq (n:=n) (sizes:=sizes) (cols:=tables[i].columns) (by omega) (by omega) (by omega) (by omega);simp only [l3,c2,c1,decide_true,ut,if_true] at hnum;have inner:=loopF_g (body:=ref09_Ranges.l2 n sizes tables s i rec) (len:=if (strictP tables[i].kind==s)=true then W else 0) (st:=λk=>(rangesP sizes s (tables.take i)++List.replicate k tables[i].range,(k:Int))) (g:=λ_=>some (rangesP sizes s tables)) (λrec' k hk hr'=>?_) (λrec'=>?_) n 0 (yw _) (by split <;> omega)
   ·simpa using inner
   ·split at hk
    ·rename_i hst;simp only [strictP] at hst;simp only [ref09_Ranges.l2,idx_nat hi,ya,ref09_strict,hst,yi,yt,grd,if_true,yh,hnum,yy,hW,lt_nat hk,add64_1 (i:=k) (by omega)];rw [app_some (by simp only [yS,un,List.length_singleton];omega),ya,yW,← List.replicate_succ',hr']
    ·omega
   ·by_cases hst:((tables[i].kind==0||tables[i].kind==1)==s)=true
    ·have hst':(strictP tables[i].kind==s)=true:=hst;rw [if_pos hst'] at hr ⊢;simp only [ref09_Ranges.l2,idx_nat hi,ya,ref09_strict,hst,yi,yt,grd,if_true,yh,hnum,yy,hW,ge_nat (yk W),ym,if_false,add64_1 (i:=i) (by omega)];rw [hW] at hr;simpa using hr
    ·have hst':¬ (strictP tables[i].kind==s)=true:=hst;rw [if_neg hst'] at hr ⊢;simp only [yH] at hst;simp only [ref09_Ranges.l2,idx_nat hi,ya,ref09_strict,hst,uu,uB,grd,if_true,yV,ym,if_false,add64_1 (i:=i) (by omega)];simpa using hr
  ·simp [ref09_Ranges.l1]

structure Good (n:Nat) (m:Model):Prop where
 acts:∀ a∈m.actions,a.effect.delta.length<4611686018427387904∧a.effect.delta.length<n∧(∀ k,addP k a.effect.delta 0=addedP a.effect.delta k)∧∀ r∈a.effect.hold,r.terms.length<4611686018427387904∧r.terms.length<n
 cons:∀ c∈m.constraints,(c.kind=0∨c.kind=1)∧c.row.terms.length<4611686018427387904∧c.row.terms.length<n∧∃ K:Nat,mul64 c.size c.size=(K:Int)∧K<17592186044416∧K<n
theorem idx_mem {α:Type} {l:List α} {i:Int} {x:α} (h:idx l i=some x):x∈l:=by
 obtain ⟨n,rfl,hn,rfl⟩:=idxS h;exact yA hn
theorem idx_some {α:Type} {l:List α} {i:Int} (h0:0≤i) (h1:i<(l.length:Int)):∃ x,idx l i=some x:=by
 obtain ⟨n,rfl⟩:=yZ h0;exact ⟨_,idx_nat (by omega)⟩
def allR (p:Nat→Bool) (i:Nat):Nat→Bool
 | 0=>true
 | k+1=>p i&&allR p (i+1) k
theorem allR_iff {p}:∀ {k i:Nat},allR p i k=true↔∀ j,i≤j→j<i+k→p j=true
 | 0,i=>by simp [allR];omega
 | k+1,i=>by
  simp only [allR,yc,allR_iff (k:=k) (i:=i+1)];constructor
  ·rintro ⟨h1,h2⟩ j hj hk;by_cases e:j=i
   ·rw [e];exact h1
   ·exact h2 j (by omega) (by omega)
  ·intro h;exact ⟨h i (yk _) (by omega),λj hj hk=>h j (by omega) (by omega)⟩
theorem allR_0 {p k}:allR p 0 k=true↔∀ j,j<k→p j=true:=by
 rw [allR_iff];simp
theorem loopF_all {S R:Type} {body:(S→Option R)→S→Option R} {len n:Nat} {st:Nat→S} (p:Nat→Bool) (F T:Option R)
  (hb:∀ rec i,i<len→body rec (st i)=if p i=true then rec (st (i+1)) else F) (he:∀ rec,body rec (st len)=T) (hn:len<n):loopF body n (st 0)=if allR p 0 len=true then T else F:=by
 have:=loopF_g (body:=body) (len:=len) (st:=st) (g:=λi=>if allR p i (len - i)=true then T else F) (λrec i hi hr=>?_) (λrec=>?_) n 0 (yw _) (by omega)
 ·simpa using this
 ·rw [hb rec i hi,show len - i=(len - (i+1))+1 by omega,allR,hr];cases p i <;> simp
 ·rw [he];simp [allR]
theorem IndexFunc_LTable_api_Table_eq {n l f p} (hf:∀ x∈l,f x=some (p x)) (hl:l.length<1000000) (hn:1000000≤n):slices_IndexFunc_LTable_api_Table n l f=some (ixP p l 0):=by
 have:=loopF_g (body:=slices_IndexFunc_LTable_api_Table.l1 n l f) (len:=l.length) (st:=λi=>(i:Int)) (g:=λi=>some (ixP p (l.drop i) i)) (λrec i hi hr=>?_) (λrec=>?_) n 0 (yw _) (by omega)
 ·simpa [slices_IndexFunc_LTable_api_Table] using this
 ·simp only [slices_IndexFunc_LTable_api_Table.l1,lt_len hi,if_true,idx_nat hi,ya,hf _ (yA hi),add64_1 (i:=i) (by omega),hr];rw [drop_cons hi];simp only [ixP];split <;> rfl
 ·simp [slices_IndexFunc_LTable_api_Table.l1,ixP]
theorem ContainsFunc_LTable_api_Table_eq {n l f p} (hf:∀ x∈l,f x=some (p x)) (hl:l.length<1000000) (hn:1000000≤n):slices_ContainsFunc_LTable_api_Table n l f=some (l.any p):=by
 unfold slices_ContainsFunc_LTable_api_Table;rw [IndexFunc_LTable_api_Table_eq hf hl hn,ya,ixP_any]
theorem IndexFunc_LRow_api_Row_eq {n l f p} (hf:∀ x∈l,f x=some (p x)) (hl:l.length<1000000) (hn:1000000≤n):slices_IndexFunc_LRow_api_Row n l f=some (ixP p l 0):=by
 have:=loopF_g (body:=slices_IndexFunc_LRow_api_Row.l1 n l f) (len:=l.length) (st:=λi=>(i:Int)) (g:=λi=>some (ixP p (l.drop i) i)) (λrec i hi hr=>?_) (λrec=>?_) n 0 (yw _) (by omega)
 ·simpa [slices_IndexFunc_LRow_api_Row] using this
 ·simp only [slices_IndexFunc_LRow_api_Row.l1,lt_len hi,if_true,idx_nat hi,ya,hf _ (yA hi),add64_1 (i:=i) (by omega),hr];rw [drop_cons hi];simp only [ixP];split <;> rfl
 ·simp [slices_IndexFunc_LRow_api_Row.l1,ixP]
theorem ContainsFunc_LRow_api_Row_eq {n l f p} (hf:∀ x∈l,f x=some (p x)) (hl:l.length<1000000) (hn:1000000≤n):slices_ContainsFunc_LRow_api_Row n l f=some (l.any p):=by
 unfold slices_ContainsFunc_LRow_api_Row;rw [IndexFunc_LRow_api_Row_eq hf hl hn,ya,ixP_any]
theorem IndexFunc_LHide_api_Hide_eq {n l f p} (hf:∀ x∈l,f x=some (p x)) (hl:l.length<1000000) (hn:1000000≤n):slices_IndexFunc_LHide_api_Hide n l f=some (ixP p l 0):=by
 have:=loopF_g (body:=slices_IndexFunc_LHide_api_Hide.l1 n l f) (len:=l.length) (st:=λi=>(i:Int)) (g:=λi=>some (ixP p (l.drop i) i)) (λrec i hi hr=>?_) (λrec=>?_) n 0 (yw _) (by omega)
 ·simpa [slices_IndexFunc_LHide_api_Hide] using this
 ·simp only [slices_IndexFunc_LHide_api_Hide.l1,lt_len hi,if_true,idx_nat hi,ya,hf _ (yA hi),add64_1 (i:=i) (by omega),hr];rw [drop_cons hi];simp only [ixP];split <;> rfl
 ·simp [slices_IndexFunc_LHide_api_Hide.l1,ixP]
theorem ContainsFunc_LHide_api_Hide_eq {n l f p} (hf:∀ x∈l,f x=some (p x)) (hl:l.length<1000000) (hn:1000000≤n):slices_ContainsFunc_LHide_api_Hide n l f=some (l.any p):=by
 unfold slices_ContainsFunc_LHide_api_Hide;rw [IndexFunc_LHide_api_Hide_eq hf hl hn,ya,ixP_any]
def aroundP (x most:Int):Bool:=decide (-most≤x)&&decide (x≤most)
theorem around3 {n x}:model_around n x 1000=some (aroundP x 1000):=rfl
theorem around9 {n x}:model_around n x 1000000000=some (aroundP x 1000000000):=rfl
theorem around4 {n x}:model_around n x 9999=some (aroundP x 9999):=rfl
theorem between3 {n x}:ref13_between n x 1000=some (aroundP x 1000):=rfl
theorem between9 {n x}:ref13_between n x 1000000000=some (aroundP x 1000000000):=rfl
theorem between4 {n x}:ref13_between n x 9999=some (aroundP x 9999):=rfl
def rowP (K:Nat):Int→List Term→Bool
 | _,[]=>true
 | last,t::l=>(decide (last<t.cell)&&decide (t.cell<(K:Int))&&(t.factor != 0)&&aroundP t.factor 1000)&&rowP K t.cell l
def rowOK (K:Nat) (r:Row):Bool:=rowP K (-1) r.terms&&aroundP r.bound 1000000000
theorem sub64_1 {i:Nat} (h0:0<i) (h:i<4611686018427387904):sub64 (i:Int) 1=((i - 1:Nat):Int):=by
 unfold sub64;rw [w64_id (by omega) (by omega)];omega
theorem model_row_eq {n} {j:Judge} {r} (hl:r.terms.length<1000000) (hn:1000000≤n):model_judge_row n j r=some (rowOK j.strict.length r):=by
 have:=loopF_I (body:=model_judge_row.l1 n j r) (len:=r.terms.length) (st:=λ(s:Int) i=>(s,(i:Int))) (g:=λi s=>some (rowP j.strict.length s (r.terms.drop i)&&aroundP r.bound 1000000000)) (λ_ _=>True) (λrec i s hi _ hr=>?_) (λrec s _=>?_) n 0 (-1) (yw _) (by omega) trivial
 ·simpa [model_judge_row,rowOK] using this
 ·simp only [model_judge_row.l1,lt_len hi,if_true,idx_nat hi,ya,around3,yi,yt,grd,yh,add64_1 (i:=i) (by omega),hr r.terms[i].cell trivial];rw [drop_cons hi,rowP];by_cases h:(decide (s<r.terms[i].cell)&&decide (r.terms[i].cell<(j.strict.length:Int))&&(r.terms[i].factor != 0)&&aroundP r.terms[i].factor 1000)=true
  ·rw [h,yy];simp only [yc,yd,bne_iff_ne] at h;rw [if_neg (by simp [h.2,h.1.2];omega)]
  ·rw [if_pos (by
    simp only [yc,yd,bne_iff_ne,ne_eq] at h;simp only [yr,yd,beq_iff_eq,yz,← yH];by_cases ha:aroundP r.terms[i].factor 1000=true
    ·left;simp only [ha,and_true] at h;omega
    ·exact .inr ha)]
   simp only [yH] at h;rw [h];rfl
 ·simp [model_judge_row.l1,around9,rowP]
theorem ref_row_eq {n K:Nat} {r} (hl:r.terms.length<1000000) (hn:1000000≤n):ref13_row n r (K:Int)=some (rowOK K r):=by
 have:=loopF_I (body:=ref13_row.l1 n r (K:Int)) (len:=r.terms.length) (st:=λ(_:Int) i=>(i:Int)) (g:=λi s=>some (rowP K s (r.terms.drop i)&&aroundP r.bound 1000000000)) (λi s=>-1≤s∧((i=0∧s = -1)∨(0<i∧∃ x,idx r.terms (sub64 (i:Int) 1)=some x∧x.cell=s))) (λrec i s hi hI hr=>?_) (λrec s _=>?_) n 0 (-1) (yw _) (by omega) ⟨by omega,.inl ⟨rfl,rfl⟩⟩
 ·simpa [ref13_row,rowOK] using this
 ·obtain ⟨h1,h2⟩:=hI;have hprev:(decide (0<(i:Int))&&decide (r.terms[i].cell≤((idx r.terms (sub64 (i:Int) 1)).getD default).cell))=(decide (0<i)&&decide (r.terms[i].cell≤s))∧(!(decide (0<(i:Int)))||(idx r.terms (sub64 (i:Int) 1)).isSome)=true:=by
   rcases h2 with ⟨h2,h3⟩ | ⟨h2,x,h3,h4⟩
   ·subst h2;simp
   ·rw [h3];simp [h4,h2]
  simp only [ref13_row.l1,lt_len hi,if_true,idx_nat hi,ya,between3,yi,yt,grd,yh,hprev.1,hprev.2,add64_1 (i:=i) (by omega)];rw [drop_cons hi,rowP];by_cases h:(decide (s<r.terms[i].cell)&&decide (r.terms[i].cell<(K:Int))&&(r.terms[i].factor != 0)&&aroundP r.terms[i].factor 1000)=true
  ·rw [h,yy];simp only [yc,yd,bne_iff_ne] at h;rw [if_neg (by simp [h.2,h.1.2];omega),hr r.terms[i].cell ⟨by omega,.inr ⟨by omega,r.terms[i],by
    rw [sub64_1 (by omega) (by omega),show i+1 - 1=i by omega,idx_nat hi],rfl⟩⟩]
  ·rw [if_pos (by
    simp only [yc,yd,bne_iff_ne,ne_eq] at h;simp only [yr,yc,yd,beq_iff_eq,yz,← yH];by_cases ha:aroundP r.terms[i].factor 1000=true
    ·left;simp only [ha,and_true] at h;rcases h2 with ⟨h2,h3⟩ | ⟨h2,-⟩ <;> omega
    ·exact .inr ha)]
   simp only [yH] at h;rw [h];rfl
 ·simp [ref13_row.l1,between9,rowP]
def graphT (sorts:List Int) (c:Constraint) (t:Table):Bool:=(t.kind==0&&((t.columns.length:Int)==2))&&(((idx t.columns 0).getD default==(idx t.columns 1).getD default)&&t.first==c.first&&((idx sorts ((idx t.columns 0).getD default)).getD default==c.size))
def graphP (m:Model) (c:Constraint):Bool:=(((c.row.terms.length:Int)==0)&&(c.row.bound==0))&&m.tables.any (graphT m.sorts c)
theorem graph_cols {sorts:List Int} {t:Table} (hc:t.columns.all (colOK sorts)=true) (h2:(t.columns.length:Int)=2):(∃ x,idx t.columns 0=some x)∧(∃ x,idx t.columns 1=some x)∧∃ x,idx sorts ((idx t.columns 0).getD default)=some x:=by
 obtain ⟨x,hx⟩:=idx_some (l:=t.columns) (i:=0) (by omega) (by omega);obtain ⟨y,hy⟩:=idx_some (l:=t.columns) (i:=1) (by omega) (by omega);refine ⟨⟨x,hx⟩,⟨y,hy⟩,?_⟩;rw [hx];exact ⟨_,idx_col (yu.1 hc x (idx_mem hx))⟩
theorem graph_1_eq {n} {j:Judge} {c t} (hc:t.columns.all (colOK j.model.sorts)=true):model_judge_graph_1 n t c j=some (graphT j.model.sorts c t):=by
 unfold model_judge_graph_1 graphT;by_cases h2:(t.kind==0&&((t.columns.length:Int)==2))=true
 ·have h2':=h2;simp only [yc,beq_iff_eq] at h2';obtain ⟨⟨x,hx⟩,⟨y,hy⟩,z,hz⟩:=graph_cols hc h2'.2;rw [hx] at hz;simp only [yh] at hz;simp [h2,hx,hy,hz,grd,Bool.and_assoc]
 ·simp only [yH] at h2;simp [h2,grd]
theorem model_graph_eq {n} {j:Judge} {c} (hc:∀ t∈j.model.tables,t.columns.all (colOK j.model.sorts)=true) (hl:j.model.tables.length<1000000) (hn:1000000≤n):model_judge_graph n j c=some (graphP j.model c):=by
 unfold model_judge_graph graphP;rw [ContainsFunc_LTable_api_Table_eq (p:=graphT j.model.sorts c) (λt ht=>graph_1_eq (hc t ht)) hl hn];simp [grd]
theorem ref_graph_eq {n m c} (hc:∀ t∈m.tables,t.columns.all (colOK m.sorts)=true) (hl:m.tables.length<1000000) (hn:1000000≤n):ref13_graph n m c=some (graphP m c):=by
 unfold ref13_graph graphP;by_cases h:(((c.row.terms.length:Int)==0)&&(c.row.bound==0))=true
 ·rw [h,yy];simp only [yc,beq_iff_eq] at h;rw [if_neg (by rw [h.1,h.2];decide)];have:=loopF_g (body:=ref13_graph.l1 n m c) (len:=m.tables.length) (st:=λi=>(i:Int)) (g:=λi=>some ((m.tables.drop i).any (graphT m.sorts c))) (λrec i hi hr=>?_) (λrec=>?_) n 0 (yw _) (by omega)
  ·simpa using this
  ·simp only [ref13_graph.l1,lt_len hi,if_true,idx_nat hi,ya,add64_1 (i:=i) (by omega),hr];rw [drop_cons hi,List.any_cons];have hcol:=hc _ (yA hi);by_cases h2:(m.tables[i].kind==0&&((m.tables[i].columns.length:Int)==2))=true
   ·have h2':=h2;simp only [yc,beq_iff_eq] at h2';obtain ⟨⟨x,hx⟩,⟨y,hy⟩,z,hz⟩:=graph_cols hcol h2'.2;rw [hx] at hz;simp only [yh] at hz;simp only [h2,hx,hy,hz,grd,yi,yt,if_true,yh,yy,graphT];cases (x==y&&m.tables[i].first==c.first&&z==c.size) <;> simp
   ·simp only [yH] at h2;simp [h2,grd,graphT]
  ·simp [ref13_graph.l1]
 ·simp only [yH] at h;rw [h,yV,if_pos (by
   simp only [uh,uc] at h;simp only [yr,yd,bne_iff_ne];omega)]
theorem EqualTerm_eq {n a b} (hl:a.length<1000000) (hn:1000000≤n):slices_Equal_LTerm_api_Term n a b=some (decide (a=b)):=by
 unfold slices_Equal_LTerm_api_Term;by_cases h:a.length=b.length
 ·rw [if_neg (by simp [h])];have:=loopF_g (body:=slices_Equal_LTerm_api_Term.l1 n a b) (len:=a.length) (st:=λi=>(i:Int)) (g:=λi=>some (decide (a.drop i=b.drop i))) (λrec i hi hr=>?_) (λrec=>?_) n 0 (yw _) (by omega)
  ·simpa using this
  ·have hib:i<b.length:=by omega
   simp only [slices_Equal_LTerm_api_Term.l1,lt_len hi,if_true,idx_nat hi,idx_nat hib,ya,add64_1 (i:=i) (by omega),hr];rw [drop_cons hi,drop_cons hib];by_cases e:a[i]=b[i]
   ·simp only [e,decide_true,y7,ym,if_false,List.cons.injEq,true_and]
   ·simp only [e,decide_false,uu,if_true,List.cons.injEq,false_and]
  ·simp [slices_Equal_LTerm_api_Term.l1,h]
 ·rw [if_pos (by simp;omega)];have:¬ a=b:=λe=>h (by rw [e])
  simp [this]
theorem SameTerms_eq {n a b} (hl:a.length<1000000) (hn:1000000≤n):ref11_SameTerms n a b=some (decide (a=b)):=by
 unfold ref11_SameTerms;by_cases h:a.length=b.length
 ·rw [if_neg (by simp [h])];have:=loopF_g (body:=ref11_SameTerms.l1 n a b) (len:=a.length) (st:=λi=>(i:Int)) (g:=λi=>some (decide (a.drop i=b.drop i))) (λrec i hi hr=>?_) (λrec=>?_) n 0 (yw _) (by omega)
  ·simpa using this
  ·have hib:i<b.length:=by omega
   simp only [ref11_SameTerms.l1,lt_len hi,if_true,idx_nat hi,idx_nat hib,ya,add64_1 (i:=i) (by omega),hr];rw [drop_cons hi,drop_cons hib];by_cases e:a[i]=b[i]
   ·simp only [e,decide_true,y7,ym,if_false,List.cons.injEq,true_and]
   ·simp only [e,decide_false,uu,if_true,List.cons.injEq,false_and]
  ·simp [ref11_SameTerms.l1,h]
 ·rw [if_pos (by simp;omega)];have:¬ a=b:=λe=>h (by rw [e])
  simp [this]
theorem single_eq {n r c f b} (hl:r.terms.length<1000000) (hn:1000000≤n):model_single n r c f b=some (decide (r=(⟨[⟨c,f⟩],b⟩:Row))):=by
 unfold model_single;rw [EqualTerm_eq hl hn,ya];congr 1;rw [Bool.eq_iff_iff];cases r;simp
theorem SameRow_eq {n a b} (hl:a.terms.length<1000000) (hn:1000000≤n):ref11_SameRow n a b=some (decide (a=b)):=by
 unfold ref11_SameRow;rw [SameTerms_eq hl hn];simp only [yi,yt,grd,if_true,yh];congr 1;rw [Bool.eq_iff_iff];cases a;cases b;simp [and_comm]
structure SmallM (m:Model):Prop where
 sorts:m.sorts.length≤8
 tables:m.tables.length≤6
 tab:∀ t∈m.tables,t.name.length≤40∧t.columns.length≤12
 families:m.families.length≤20
 fam:∀ s∈m.families,s.length≤40
 constraints:m.constraints.length≤60
 con:∀ c∈m.constraints,c.row.terms.length≤20
 operations:m.operations.length≤8
 op:∀ o∈m.operations,o.name.length≤40∧o.sorts.length≤6
 actions:m.actions.length≤30
 act:∀ a∈m.actions,a.arguments.length≤6∧a.effect.delta.length≤20∧a.effect.hold.length≤10∧a.effect.updates.length≤40∧∀ r∈a.effect.hold,r.terms.length≤20
 hides:m.hides.length≤12
def boundRow (l:List Range) (i:Nat):Row:=⟨[⟨((i / 2:Nat):Int),if i % 2=0 then -1 else 1⟩],if i % 2=0 then neg64 ((idx l ((i / 2:Nat):Int)).getD default).lo else ((idx l ((i / 2:Nat):Int)).getD default).hi⟩
def famP (m:Model) (c:Constraint):Bool:=decide (0≤c.family)&&decide (c.family<(m.families.length:Int))
def plainP (K:Nat) (c:Constraint):Bool:=(((c.kind==0)&&(c.first==0))&&(c.size==0))&&rowOK K c.row
def acyP (m:Model) (c:Constraint):Bool:=c.kind==1&&graphP m c
def conP (m:Model) (l:List Range) (i:Nat) (c:Constraint):Bool:=famP m c&&(plainP l.length c||acyP m c)&&(!decide (i / 2<l.length)||(c.kind==0&&decide (c.row=boundRow l i)))
def consP (m:Model) (l:List Range):Bool:=decide (m.constraints.length≤512)&&decide (2*l.length≤m.constraints.length)&&allR (λi=>conP m l i ((idx m.constraints (i:Int)).getD default)) 0 m.constraints.length
theorem quo2 {i:Nat} (h:i<1000000):quo64 (i:Int) 2=some ((i / 2:Nat):Int):=by
 unfold quo64;rw [if_neg (by decide),Int.tdiv_eq_ediv_of_nonneg (by omega),w64_id (by omega) (by omega)];congr 1
theorem rem2 {i:Nat}:rem64 (i:Int) 2=some ((i % 2:Nat):Int):=by
 unfold rem64;rw [if_neg (by decide),Int.tmod_eq_emod_of_nonneg (by omega)];congr 1
theorem mul2 {i:Nat} (h:i<1000000):mul64 2 (i:Int)=((2*i:Nat):Int):=by
 unfold mul64;rw [w64_id (by omega) (by omega)];omega
theorem model_constraints_eq {n:Nat} {m} {l:List Range} (hS:SmallM m) (hc:∀ t∈m.tables,t.columns.all (colOK m.sorts)=true) (hK:l.length<100000) (hn:1000000≤n):model_judge_constraints n ⟨m,l⟩=some (consP m l):=by
 have hcl:=hS.constraints;have htl:=hS.tables;unfold model_judge_constraints consP;simp only [mul2 (show l.length<1000000 by omega)];by_cases h0:(decide (m.constraints.length≤512)&&decide (2*l.length≤m.constraints.length))=true
 ·rw [h0,yy];simp only [yc,yd] at h0;rw [if_neg (by simp;omega)];have:=loopF_all (body:=model_judge_constraints.l1 n ⟨m,l⟩) (len:=m.constraints.length) (n:=n) (st:=λi=>(i:Int)) (λi=>conP m l i ((idx m.constraints (i:Int)).getD default)) (some false) (some true) (λrec i hi=>?_) (λrec=>?_) (by omega)
  ·simp only [Int.natCast_zero] at this;rw [this];cases allR (λi=>conP m l i ((idx m.constraints (i:Int)).getD default)) 0 m.constraints.length <;> rfl
  ·have hterms:=hS.con _ (yA hi);simp only [model_judge_constraints.l1,jn,lt_len hi,if_true,idx_nat hi,ya,model_index,yh,model_row_eq (j:=⟨m,l⟩) (r:=m.constraints[i].row) (show m.constraints[i].row.terms.length<1000000 by omega) hn,model_graph_eq (j:=⟨m,l⟩) (c:=m.constraints[i]) hc (show m.tables.length<1000000 by omega) hn,yi,yt,grd,quo2 (show i<1000000 by omega),rem2,single_eq (r:=m.constraints[i].row) (show m.constraints[i].row.terms.length<1000000 by omega) hn,add64_1 (i:=i) (by omega)];have hfam:(decide (0≤m.constraints[i].family)&&decide (m.constraints[i].family<(m.families.length:Int)))=famP m m.constraints[i]:=rfl;rw [hfam];cases hf:famP m m.constraints[i] with
   | false=>simp [conP,hf]
   | true=>
    simp only [y7,ym,if_false];have hrest:∀ (X:Bool),X=(plainP l.length m.constraints[i]||acyP m m.constraints[i]) →
      (if X=true then (if decide (((i / 2:Nat):Int)<(l.length:Int))=true then (idx l ((i / 2:Nat):Int)).bind λx81=>(if (((i % 2:Nat):Int)==0)=true then (if (m.constraints[i].kind != 0||!decide (m.constraints[i].row=(⟨[⟨((i / 2:Nat):Int),-1⟩],neg64 x81.lo⟩:Row)))=true then some false else rec ((i+1:Nat):Int)) else (if (m.constraints[i].kind != 0||!decide (m.constraints[i].row=(⟨[⟨((i / 2:Nat):Int),1⟩],x81.hi⟩:Row)))=true then some false else rec ((i+1:Nat):Int))) else rec ((i+1:Nat):Int)) else some false)=if conP m l i m.constraints[i]=true then rec ((i+1:Nat):Int) else some false:=by
     intro X hX;unfold conP;rw [hf,← hX];cases X with
     | false=>simp
     | true=>
      simp only [if_true,yy];by_cases hlt:i / 2<l.length
      ·rw [if_pos (lt_nat hlt),idx_nat hlt,ya];simp only [hlt,decide_true,y7,ud,boundRow,idx_nat hlt,yh];by_cases hm:i % 2=0
       ·rw [if_pos (by simp [hm])];simp only [hm,if_true];cases hkk:(m.constraints[i].kind==0) <;> simp [bne,hkk]
       ·rw [if_neg (by simp;omega)];simp only [hm,if_false];cases hkk:(m.constraints[i].kind==0) <;> simp [bne,hkk]
      ·rw [if_neg (by rw [ge_nat (by omega)];simp)];simp [hlt]
    by_cases hk:m.constraints[i].kind=0
    ·rw [if_pos (by simp [hk])];have hX:(plainP l.length m.constraints[i]||acyP m m.constraints[i])=((m.constraints[i].first==0&&m.constraints[i].size==0)&&rowOK l.length m.constraints[i].row):=by
      simp [plainP,acyP,hk]
     rw [← hrest _ hX.symm];cases h1:(m.constraints[i].first==0) <;> cases h2:(m.constraints[i].size==0) <;> cases h3:rowOK l.length m.constraints[i].row <;> simp [bne,h1,h2]
    ·rw [if_neg (by simp [hk])];have hX:(plainP l.length m.constraints[i]||acyP m m.constraints[i])=(m.constraints[i].kind==1&&graphP m m.constraints[i]):=by
      simp [plainP,acyP,hk]
     rw [← hrest _ hX.symm];cases h1:(m.constraints[i].kind==1) <;> cases h3:graphP m m.constraints[i] <;> simp [bne,h1]
  ·simp [model_judge_constraints.l1]
 ·rw [if_pos (by
   simp only [yc,yd] at h0;simp only [yr,yd];omega)]
  simp only [yH] at h0;rw [h0,yV]
theorem consP_ref {m l} (h2:2*l.length≤m.constraints.length) :
  allR (λi=>conP m l i ((idx m.constraints (i:Int)).getD default)) 0 m.constraints.length=(allR (λi=>decide (((idx m.constraints ((2*i:Nat):Int)).getD default).row=boundRow l (2*i))&&decide (((idx m.constraints ((2*i+1:Nat):Int)).getD default).row=boundRow l (2*i+1))) 0 l.length
   && allR (λi=>famP m ((idx m.constraints (i:Int)).getD default)&&(plainP l.length ((idx m.constraints (i:Int)).getD default)||(decide (2*l.length≤i)&&acyP m ((idx m.constraints (i:Int)).getD default)))) 0 m.constraints.length):=by
 rw [Bool.eq_iff_iff,yc,allR_0,allR_0,allR_0];constructor
 ·intro h;refine ⟨λj hj=>?_,λi hi=>?_⟩
  ·have ha:=h (2*j) (by omega);have hb:=h (2*j+1) (by omega);simp only [conP,yc,yr,yz,yD,yd] at ha hb ⊢;rcases ha.2 with e | e
   ·omega
   rcases hb.2 with f | f
   ·omega
   exact ⟨e.2,f.2⟩
  ·have ha:=h i hi;simp only [conP,yc,yr,yz,yD,yd] at ha ⊢;refine ⟨ha.1.1,?_⟩;rcases ha.1.2 with e | e
   ·exact .inl e
   ·refine .inr ⟨?_,e⟩;rcases ha.2 with f | f
    ·omega
    ·simp only [acyP,yc,beq_iff_eq] at e;have:=f.1;simp only [beq_iff_eq] at this;omega
 ·rintro ⟨ha,hb⟩ i hi;have hb:=hb i hi;simp only [conP,yc,yr,yz,yD,yd] at hb ⊢;refine ⟨⟨hb.1,hb.2.imp id (·.2)⟩,?_⟩;by_cases hlt:i / 2<l.length
  ·right;have ha:=ha (i / 2) hlt;simp only [yc,yd] at ha;rcases hb.2 with e | e
   ·refine ⟨?_,?_⟩
    ·simp only [plainP,yc] at e;exact e.1.1.1
    ·by_cases hm:i % 2=0
     ·have:=ha.1
      rwa [show 2*(i / 2)=i by omega] at this
     ·have:=ha.2
      rwa [show 2*(i / 2)+1=i by omega] at this
   ·omega
  ·exact .inl hlt
theorem ref13_constraints_eq {n:Nat} {m} (hS:SmallM m) (hL:layoutP m.sorts m.tables=true) (hn:1000000≤n):ref13_constraints n m=some (consP m (rangesP m.sorts true m.tables)):=by
 have hcl:=hS.constraints;have htl:=hS.tables;have hsl:=hS.sorts;obtain ⟨l1,l2,l3,l4⟩:=layoutP_tab hL;have hlen:=rangesP_len (sizes:=m.sorts) (s:=true) (l:=m.tables) λx hx=>(l4 x hx).2.2.2.2
 unfold ref13_constraints ref13_strict consP;rw [ref09_Ranges_eq hn (by omega) (by omega) (λt ht=>by have:=hS.tab t ht;omega),hL,if_pos rfl];generalize rangesP m.sorts true m.tables=l at hlen;simp only [ya,mul2 (show l.length<1000000 by omega)];by_cases h0:(decide (m.constraints.length≤512)&&decide (2*l.length≤m.constraints.length))=true
 ·rw [h0,yy];simp only [yc,yd] at h0;rw [if_neg (by simp;omega),consP_ref h0.2];have first:=loopF_all (body:=ref13_constraints.l1 n m l) (len:=l.length) (n:=n) (st:=λi=>(i:Int)) (λi=>decide (((idx m.constraints ((2*i:Nat):Int)).getD default).row=boundRow l (2*i))&&decide (((idx m.constraints ((2*i+1:Nat):Int)).getD default).row=boundRow l (2*i+1))) (some false) (loopF (ref13_constraints.l2 n m l) n 0) (λrec i hi=>?_) (λrec=>?_) (by omega)
  ·simp only [Int.natCast_zero] at first
   rw [first];have second:=loopF_all (body:=ref13_constraints.l2 n m l) (len:=m.constraints.length) (n:=n) (st:=λi=>(i:Int)) (λi=>famP m ((idx m.constraints (i:Int)).getD default)&&(plainP l.length ((idx m.constraints (i:Int)).getD default)||(decide (2*l.length≤i)&&acyP m ((idx m.constraints (i:Int)).getD default)))) (some false) (some true) (λrec i hi=>?_) (λrec=>?_) (by omega)
   ·simp only [Int.natCast_zero] at second;rw [second];cases allR (λi=>decide (((idx m.constraints ((2*i:Nat):Int)).getD default).row=boundRow l (2*i))&&decide (((idx m.constraints ((2*i+1:Nat):Int)).getD default).row=boundRow l (2*i+1))) 0 l.length <;> cases allR (λi=>famP m ((idx m.constraints (i:Int)).getD default)&&(plainP l.length ((idx m.constraints (i:Int)).getD default)||(decide (2*l.length≤i)&&acyP m ((idx m.constraints (i:Int)).getD default)))) 0 m.constraints.length <;> rfl
   ·have hterms:=hS.con _ (yA hi);have hd:decide (mul64 2 (l.length:Int)≤(i:Int))=decide (2*l.length≤i):=by rw [mul2 (by omega)];exact decide_eq_decide.2 (by omega)
    simp only [ref13_constraints.l2,lt_len hi,if_true,idx_nat hi,ya,yh,ref_row_eq (r:=m.constraints[i].row) (show m.constraints[i].row.terms.length<1000000 by omega) hn,ref_graph_eq (m:=m) (c:=m.constraints[i]) (λt ht=>(l4 t ht).2.2.2.1) (show m.tables.length<1000000 by omega) hn,yi,yt,grd,add64_1 (i:=i) (by omega),hd];have hfam:(decide (m.constraints[i].family<0)||decide ((m.families.length:Int)≤m.constraints[i].family)) = !famP m m.constraints[i]:=by
     unfold famP;rw [Bool.not_and,← decide_not,← decide_not];congr 1
     ·exact decide_eq_decide.2 (by omega)
     ·exact decide_eq_decide.2 (by omega)
    rw [hfam];cases famP m m.constraints[i] with
    | false=>simp
    | true=>
     have hp:((((m.constraints[i].kind==0)&&(m.constraints[i].first==0))&&(m.constraints[i].size==0))&&rowOK l.length m.constraints[i].row)=plainP l.length m.constraints[i]:=rfl;rw [hp];unfold acyP;cases plainP l.length m.constraints[i] <;> cases decide (2*l.length≤i) <;> cases (m.constraints[i].kind==1) <;> cases graphP m m.constraints[i] <;> simp
   ·simp [ref13_constraints.l2]
  ·have h2i:2*i<m.constraints.length:=by omega
   have h2j:2*i+1<m.constraints.length:=by omega
   have t1:=hS.con _ (yA h2i);have t2:=hS.con _ (yA h2j);have e1:boundRow l (2*i)=⟨[⟨(i:Int),-1⟩],neg64 l[i].lo⟩:=by
    unfold boundRow;rw [show 2*i / 2=i by omega,if_pos (by omega),if_pos (by omega),idx_nat hi];rfl
   have e2:boundRow l (2*i+1)=⟨[⟨(i:Int),1⟩],l[i].hi⟩:=by
    unfold boundRow;rw [show (2*i+1) / 2=i by omega,if_neg (by omega),if_neg (by omega),idx_nat hi];rfl
   have hadd:add64 ((2*i:Nat):Int) 1=((2*i+1:Nat):Int):=add64_1 (by omega);simp only [ref13_constraints.l1,lt_len hi,if_true,idx_nat hi,mul2 (show i<1000000 by omega),idx_nat h2i,hadd,idx_nat h2j,ya,yh,SameRow_eq (show m.constraints[2*i].row.terms.length<1000000 by omega) hn,SameRow_eq (show m.constraints[2*i+1].row.terms.length<1000000 by omega) hn,yi,yt,grd,add64_1 (i:=i) (by omega),e1,e2];cases decide (m.constraints[2*i].row=⟨[⟨(i:Int),-1⟩],neg64 l[i].lo⟩) <;> cases decide (m.constraints[2*i+1].row=⟨[⟨(i:Int),1⟩],l[i].hi⟩) <;> simp
  ·simp [ref13_constraints.l1]
 ·rw [if_pos (by
   simp only [yc,yd] at h0;simp only [yr,yd];omega)]
  simp only [yH] at h0;rw [h0,yV]
theorem loopF_lall {α S R:Type} {body:(S→Option R)→S→Option R} {l:List α} {n:Nat} {st:Nat→S} (p:α→Bool) (F T:Option R)
  (hb:∀ rec i (hi:i<l.length),body rec (st i)=if p l[i]=true then rec (st (i+1)) else F) (he:∀ rec,body rec (st l.length)=T) (hn:l.length<n):loopF body n (st 0)=if l.all p=true then T else F:=by
 have:=loopF_g (body:=body) (len:=l.length) (st:=st) (g:=λi=>if (l.drop i).all p=true then T else F) (λrec i hi hr=>?_) (λrec=>?_) n 0 (yw _) (by omega)
 ·simpa using this
 ·rw [hb rec i hi,drop_cons hi,um,hr];cases p l[i] <;> simp
 ·rw [he];simp
def sizeAt (sizes:List Int) (c:Int):Int:=sizes.getD c.toNat 0
def digR (sizes:List Int):List Int→Int→List Int
 | [],_=>[]
 | c::l,k=>k.tmod (sizeAt sizes c)::digR sizes l (w64 (k.tdiv (sizeAt sizes c)))
def tupleP (sizes cols:List Int) (k:Int):List Int:=(digR sizes cols.reverse k).reverse
theorem sizeAt_ne {sizes:List Int} (hs:sizes.all sizeOK=true) {c:Int} (hc:colOK sizes c=true):1≤sizeAt sizes c∧sizeAt sizes c≤6:=by
 simp only [colOK,yc,yd] at hc;obtain ⟨k,rfl⟩:=yZ hc.1;have hk:k<sizes.length:=by omega
 have hz:=yu.1 hs _ (yA hk);simp only [sizeOK,yc,yd] at hz;have hg:sizeAt sizes (k:Int)=sizes[k]:=by simp [sizeAt,List.getD,hk]
 rw [hg];exact hz
theorem sto_mid {r:Nat} {done:List Int} {x:Int}:sto (List.replicate (r+1) 0++done) (r:Int) x=some (List.replicate r 0++x::done):=by
 unfold sto;rw [if_pos (by simp;omega)];simp only [yC,yg];rw [List.replicate_succ',yW,List.set_append_right _ _ (by simp)];simp
theorem idx_mid {r:Nat} {done:List Int}:∃ x,idx (List.replicate (r+1) 0++done) (r:Int)=some x:=⟨_,idx_nat (by simp;omega)⟩
theorem take_rev {α:Type} {l:List α} {r:Nat} (h:r<l.length):(l.take (r+1)).reverse=l[r]::(l.take r).reverse:=by
 rw [yB h];simp
theorem cells_digits {n:Nat} {sizes:List Int} {t:Table} {i:Int} (hs:sizes.all sizeOK=true) (hc:t.columns.all (colOK sizes)=true) (hl:t.columns.length<1000000):∀ (m r:Nat) (done:List Int) (k:Int),r<m→r≤t.columns.length →
  loopF (cells_Tuple.l2 n sizes i t) m (List.replicate r 0++done,k,(r:Int) - 1)=some (i,(digR sizes (t.columns.take r).reverse k).reverse++done,true)
 | 0,_,_,_,h,_=>by omega
 | m+1,0,done,k,_,_=>by simp [loopF,cells_Tuple.l2,digR]
 | m+1,r+1,done,k,h,hr=>by
  have hrl:r<t.columns.length:=by omega
  have hcol:=yu.1 hc _ (yA hrl);have hsz:=sizeAt_ne hs hcol;have e:(((r+1:Nat):Int)) - 1=(r:Int):=by omega
  obtain ⟨x,hx⟩:=idx_mid (r:=r) (done:=done);have hrem:rem64 k (sizeAt sizes t.columns[r])=some (k.tmod (sizeAt sizes t.columns[r])):=by unfold rem64;rw [if_neg (by omega)]
  have hquo:quo64 k (sizeAt sizes t.columns[r])=some (w64 (k.tdiv (sizeAt sizes t.columns[r]))):=by unfold quo64;rw [if_neg (by omega)]
  have hcs:=idx_col hcol;have hsub:sub64 (r:Int) 1=(r:Int) - 1:=by unfold sub64;rw [w64_id (by omega) (by omega)]
  have hd:decide (0≤(r:Int))=true:=by simp
  unfold sizeAt at hrem hquo;simp only [loopF,cells_Tuple.l2,e,hd,if_true,idx_nat hrl,hcs,hrem,hquo,hx,sto_mid,ya,hsub];rw [cells_digits hs hc hl m r _ _ (by omega) (by omega),take_rev hrl];simp only [digR,sizeAt,List.reverse_cons,yW,List.singleton_append]
theorem ref_digits {n:Nat} {sizes cols:List Int} (hs:sizes.all sizeOK=true) (hc:cols.all (colOK sizes)=true) (hl:cols.length<1000000):∀ (m r:Nat) (done:List Int) (k:Int),r<m→r≤cols.length →
  loopF (ref09_nth.l1 n sizes cols) m (List.replicate r 0++done,k,(r:Int) - 1)=some ((digR sizes (cols.take r).reverse k).reverse++done)
 | 0,_,_,_,h,_=>by omega
 | m+1,0,done,k,_,_=>by simp [loopF,ref09_nth.l1,digR]
 | m+1,r+1,done,k,h,hr=>by
  have hrl:r<cols.length:=by omega
  have hcol:=yu.1 hc _ (yA hrl);have hsz:=sizeAt_ne hs hcol;have e:(((r+1:Nat):Int)) - 1=(r:Int):=by omega
  obtain ⟨x,hx⟩:=idx_mid (r:=r) (done:=done);have hrem:rem64 k (sizeAt sizes cols[r])=some (k.tmod (sizeAt sizes cols[r])):=by unfold rem64;rw [if_neg (by omega)]
  have hquo:quo64 k (sizeAt sizes cols[r])=some (w64 (k.tdiv (sizeAt sizes cols[r]))):=by unfold quo64;rw [if_neg (by omega)]
  have hcs:=idx_col hcol;have hsub:sub64 (r:Int) 1=(r:Int) - 1:=by unfold sub64;rw [w64_id (by omega) (by omega)]
  have hd:decide (0≤(r:Int))=true:=by simp
  unfold sizeAt at hrem hquo;simp only [loopF,ref09_nth.l1,e,hd,if_true,idx_nat hrl,hcs,hrem,hquo,hx,sto_mid,ya,hsub];rw [ref_digits hs hc hl m r _ _ (by omega) (by omega),take_rev hrl];simp only [digR,sizeAt,List.reverse_cons,yW,List.singleton_append]
theorem mkl_0 {b k:Nat} (h:k*b≤140737488355328):mkl b (k:Int) (0:Int)=some (List.replicate k 0):=by
 have e:((k*b:Nat):Int)=(k:Int)*(b:Int):=uG k b;unfold mkl;rw [if_pos ⟨by omega,by omega⟩];simp
theorem sub64_len {k:Nat} (h:k<1000000):sub64 (k:Int) 1=(k:Int) - 1:=by
 unfold sub64;rw [w64_id (by omega) (by omega)]
theorem ref09_nth_eq {n:Nat} {sizes cols:List Int} {k:Int} (hs:sizes.all sizeOK=true) (hc:cols.all (colOK sizes)=true) (hl:cols.length≤1000) (hn:1000000≤n):ref09_nth n sizes cols k=some (tupleP sizes cols k):=by
 unfold ref09_nth;rw [mkl_0 (by omega),ya,sub64_len (by omega)];have:=ref_digits (n:=n) hs hc (by omega) n cols.length [] k (by omega) (yk _);simpa [tupleP] using this
def hitP (sizes:List Int) (s:Bool) (cell:Int) (t:Table):Bool:=(strictP t.kind==s)&&(decide (0≤sub64 cell t.first)&&decide (sub64 cell t.first<widthP sizes t.columns 1))
def resT (sizes:List Int) (s:Bool) (cell:Int):List Table→Nat→Int×List Int×Bool
 | [],_=>(0,[],false)
 | t::l,i=>if hitP sizes s cell t=true then ((i:Int),tupleP sizes t.columns (sub64 cell t.first),true) else resT sizes s cell l (i+1)
def cellP (sizes:List Int) (tables:List Table) (s:Bool) (cell:Int):Int×List Int×Bool:=if (layoutP sizes tables&&decide (0≤cell))=true then resT sizes s cell tables 0 else (0,[],false)
theorem cells_Tuple_eq {n:Nat} {sizes:List Int} {tables:List Table} {s:Bool} {cell:Int} (hF:Fuel n) (hs:sizes.length≤1000) (ht:tables.length≤1000) (hc:∀ t∈tables,t.columns.length≤1000):cells_Tuple n sizes tables s cell=some (cellP sizes tables s cell):=by
 have hn:=hF.big;unfold cells_Tuple cellP;rw [cells_Valid_eq hF hs ht hc,ya];cases hL:layoutP sizes tables with
 | false=>simp
 | true=>
  obtain ⟨l1,l2,l3,l4⟩:=layoutP_tab hL;by_cases h0:0≤cell
  ·rw [if_neg (by simp;omega),if_pos (by simp [h0])];have:=loopF_g (body:=cells_Tuple.l1 n sizes tables s cell) (len:=tables.length) (st:=λi=>(i:Int)) (g:=λi=>some (resT sizes s cell (tables.drop i) i)) (λrec i hi hr=>?_) (λrec=>?_) n 0 (yw _) (by omega)
   ·simpa using this
   ·obtain ⟨-,-,c1,c2,c3,c4⟩:=l4 _ (yA hi);simp only [cells_Tuple.l1,lt_len hi,if_true,idx_nat hi,ya,cells_isStrict,cells_width_eq c2 (show tables[i].columns.length<4611686018427387904 by omega) (show tables[i].columns.length<n by omega),yi,yt,grd,yh,add64_1 (i:=i) (by omega),hr,mkl_0 (b:=8) (k:=tables[i].columns.length) (by omega),un,sub64_len (show tables[i].columns.length<1000000 by omega)];have hdig:=cells_digits (n:=n) (i:=(i:Int)) l3 c2 (by omega) n tables[i].columns.length [] (sub64 cell tables[i].first) (by omega) (yk _);simp only [ul,List.take_length] at hdig;rw [hdig,drop_cons hi,resT];have hh:(((tables[i].kind==0||tables[i].kind==1) != s||decide (sub64 cell tables[i].first<0))||decide (widthP sizes tables[i].columns 1≤sub64 cell tables[i].first)) = !hitP sizes s cell tables[i]:=by
     unfold hitP strictP;rw [Bool.not_and,Bool.not_and,← decide_not,← decide_not,Bool.or_assoc];congr 1;congr 1
     ·exact decide_eq_decide.2 (by omega)
     ·exact decide_eq_decide.2 (by omega)
    rw [hh];cases hitP sizes s cell tables[i] <;> simp [tupleP]
   ·simp [cells_Tuple.l1,resT]
  ·rw [if_pos (by simp;omega),if_neg (by simp;omega)]
theorem ref09_Tuple_eq {n:Nat} {sizes:List Int} {tables:List Table} {s:Bool} {cell:Int} (hn:1000000≤n) (hs:sizes.length≤1000) (ht:tables.length≤1000) (hc:∀ t∈tables,t.columns.length≤1000∧t.name.length≤4096):ref09_Tuple n sizes tables s cell=some (cellP sizes tables s cell):=by
 unfold ref09_Tuple cellP;rw [ref09_Valid_eq hn hs ht hc,ya];cases hL:layoutP sizes tables with
 | false=>simp
 | true=>
  obtain ⟨l1,l2,l3,l4⟩:=layoutP_tab hL;rw [if_neg (by simp)];have:=loopF_g (body:=ref09_Tuple.l1 n sizes tables s cell) (len:=tables.length) (st:=λi=>(i:Int)) (g:=λi=>some (if decide (0≤cell)=true then resT sizes s cell (tables.drop i) i else (0,[],false))) (λrec i hi hr=>?_) (λrec=>?_) n 0 (yw _) (by omega)
  ·simpa using this
  ·obtain ⟨-,-,c1,c2,c3,c4⟩:=l4 _ (yA hi);have hnum:=ref09_number_eq (n:=n) (sizes:=sizes) (cols:=tables[i].columns) (by omega) (by omega) (by omega) (by omega);simp only [l3,c2,c1,decide_true,ut,if_true] at hnum;simp only [ref09_Tuple.l1,lt_len hi,if_true,idx_nat hi,ya,ref09_strict,hnum,yi,yt,grd,yh,add64_1 (i:=i) (by omega),hr,ref09_nth_eq l3 c2 (show tables[i].columns.length≤1000 by omega) hn];rw [drop_cons hi,resT];unfold hitP strictP;cases decide (0≤cell) with
   | false=>simp
   | true=>
    simp only [if_true,ut];by_cases h1:((tables[i].kind==0||tables[i].kind==1)==s&&decide (0≤sub64 cell tables[i].first)&&decide (sub64 cell tables[i].first<widthP sizes tables[i].columns 1))=true
    ·rw [if_pos h1,if_pos (by rw [← Bool.and_assoc];exact h1)]
    ·rw [if_neg h1,if_neg (by rw [← Bool.and_assoc];exact h1)]
  ·simp [ref09_Tuple.l1,resT]
theorem resT_lt {sizes:List Int} {s:Bool} {cell:Int}:∀ (l:List Table) (i:Nat),(resT sizes s cell l i).2.2=true→∃ k:Nat,(resT sizes s cell l i).1=(k:Int)∧i≤k∧k<i+l.length
 | [],_,h=>by simp [resT] at h
 | t::l,i,h=>by
  rw [resT] at h ⊢;split at h
  ·rename_i hh;rw [if_pos hh];exact ⟨i,rfl,yk _,by simp⟩
  ·rename_i hh;rw [if_neg hh];obtain ⟨k,e,k1,k2⟩:=resT_lt l (i+1) h;exact ⟨k,e,by omega,by simp only [yT];omega⟩
theorem cellP_idx {sizes:List Int} {tables:List Table} {s:Bool} {cell:Int} (h:(cellP sizes tables s cell).2.2=true):∃ t,idx tables (cellP sizes tables s cell).1=some t:=by
 unfold cellP at h ⊢;split at h
 ·rename_i hh;rw [if_pos hh];obtain ⟨k,e,-,k2⟩:=resT_lt tables 0 h;rw [e];exact ⟨_,idx_nat (by omega)⟩
 ·simp at h
theorem cellP_neg {sizes:List Int} {tables:List Table} {s:Bool} {cell:Int} (h:cell<0):(cellP sizes tables s cell).2.2=false:=by
 unfold cellP;rw [if_neg (by simp;omega)]
def updT (t:Table) (u:Update):Bool:=if (t.kind==2||t.kind==3)=true then ((u.kind==0)||(u.kind==1))&&(u.value==0) else ((u.kind==2)&&decide (t.range.lo≤u.value))&&decide (u.value≤t.range.hi)
def updP (m:Model) (u:Update):Bool:=(cellP m.sorts m.tables false u.cell).2.2&&updT ((idx m.tables (cellP m.sorts m.tables false u.cell).1).getD default) u
def updsP (m:Model):Int→List Update→Bool
 | _,[]=>true
 | last,u::l=>(decide (last<u.cell)&&updP m u)&&updsP m u.cell l
theorem model_update_eq {n:Nat} {m:Model} {l:List Range} {u:Update} (hF:Fuel n) (hS:SmallM m):model_judge_update n ⟨m,l⟩ u=some (updP m u):=by
 unfold model_judge_update updP;have hs:=hS.sorts;have ht:=hS.tables;simp only [];rw [cells_Tuple_eq hF (by omega) (by omega) (λt h=>by have:=hS.tab t h;omega),ya];cases hok:(cellP m.sorts m.tables false u.cell).2.2 with
 | false=>simp
 | true=>
  obtain ⟨t,ht⟩:=cellP_idx hok;simp only [ht,y7,ym,if_false,ya,yh,yy,jn,updT];by_cases h2:t.kind=2
  ·simp [h2]
  ·by_cases h3:t.kind=3
   ·simp [h3]
   ·simp [h2,h3]
def opP (m:Model) (o:Operation):Bool:=decide (o.sorts.length≤3)&&o.sorts.all λs=>decide (-1≤s)&&decide (s<(m.sorts.length:Int))
def opsP (m:Model):Bool:=m.operations.all (opP m)&&(decide (m.operations.length≤8)&&distP [] (m.operations.map (·.name)))
theorem map_take_snoc {α β:Type} {f:α→β} {l:List α} {i:Nat} (hi:i<l.length):(l.take i).map f++[f l[i]]=(l.take (i+1)).map f:=by
 rw [yB hi,ue];rfl
theorem model_operations_eq {n:Nat} {m:Model} {l:List Range} (hF:Fuel n) (hS:SmallM m):model_judge_operations n ⟨m,l⟩=some (opsP m):=by
 have hn:=hF.big;have hol:=hS.operations;unfold model_judge_operations opsP;have:=loopF_lall (body:=model_judge_operations.l1 n ⟨m,l⟩) (l:=m.operations) (n:=n) (st:=λi=>((m.operations.take i).map (·.name),(i:Int))) (opP m) (some false) (some (decide (m.operations.length≤8)&&distP [] (m.operations.map (·.name)))) (λrec i hi=>?_) (λrec=>?_) (by omega)
 ·simp only [List.take_zero,List.map_nil,Int.natCast_zero] at this;rw [this];cases m.operations.all (opP m) <;> rfl
 ·have hop:=hS.op _ (yA hi);simp only [model_judge_operations.l1,lt_len hi,if_true,idx_nat hi,ya];rw [app_some (by simp;omega),ya,ContainsFunc_Lint_eq (p:=λs=>!(decide (-1≤s)&&decide (s<(m.sorts.length:Int)))) (λx _=>by
   simp only [model_judge_operations_1,yg,Bool.not_and,← decide_not];congr 1
   ·exact decide_eq_decide.2 (by omega)
   ·exact decide_eq_decide.2 (by omega)) (by omega) (by omega)]
  simp only [yi,yt,grd,if_true,yh,add64_1 (i:=i) (by omega),map_take_snoc hi];have h3:decide (3<(m.operations[i].sorts.length:Int)) = !decide (m.operations[i].sorts.length≤3):=by rw [← decide_not];exact decide_eq_decide.2 (by omega)
  rw [h3,← Bool.not_not (m.operations[i].sorts.any _),any_not,← Bool.not_and];unfold opP;cases (decide (m.operations[i].sorts.length≤3)&&m.operations[i].sorts.all λs=>decide (-1≤s)&&decide (s<(m.sorts.length:Int))) <;> rfl
 ·simp only [model_judge_operations.l1,ge_len,ym,if_false,List.take_length];rw [model_distinct_eq hF (by simp;omega)];simp only [yi,yt,grd,if_true,yh,yQ,yg];congr 1;exact decide_eq_decide.2 (by omega)
def deltaP (K:Nat):Int→List Change→Bool
 | _,[]=>true
 | last,d::l=>(decide (last<d.cell)&&decide (d.cell<(K:Int))&&(d.add != 0)&&aroundP d.add 1000000000)&&deltaP K d.cell l
def effP (m:Model) (K:Nat) (x:Effect):Bool:=deltaP K (-1) x.delta&&(updsP m (-1) x.updates&&(decide (x.hold.length≤8)&&decide (x.updates.length≤32)&&x.hold.all (rowOK K)))
theorem model_effect_eq {n m l x} (hF:Fuel n) (hS:SmallM m) (h1:x.delta.length≤1000) (h2:x.updates.length≤1000) (h3:x.hold.length≤1000) (h4:∀ r∈x.hold,r.terms.length≤1000):model_judge_effect n ⟨m,l⟩ x=some (effP m l.length x):=by
 have hn:=hF.big;have T:loopF (model_judge_effect.l2 n ⟨m,l⟩ x) n (-1,0)=some (updsP m (-1) x.updates&&(decide (x.hold.length≤8)&&decide (x.updates.length≤32)&&x.hold.all (rowOK l.length))):=by
  have:=loopF_I (body:=model_judge_effect.l2 n ⟨m,l⟩ x) (len:=x.updates.length) (st:=λ(s:Int) i=>(s,(i:Int))) (g:=λi s=>some (updsP m s (x.updates.drop i)&&(decide (x.hold.length≤8)&&decide (x.updates.length≤32)&&x.hold.all (rowOK l.length)))) (λ_ _=>True) (λrec i s hi _ hr=>?_) (λrec s _=>?_) n 0 (-1) (yw _) (by omega) trivial
  ·simpa using this
  ·simp only [model_judge_effect.l2,lt_len hi,if_true,idx_nat hi,ya,model_update_eq hF hS,yi,yt,grd,yh,add64_1 (i:=i) (by omega),hr x.updates[i].cell trivial];rw [drop_cons hi,updsP];by_cases hlt:s<x.updates[i].cell
   ·have hd:decide (x.updates[i].cell≤s)=false:=by simp;omega
    rw [hd];cases updP m x.updates[i] <;> simp [hlt]
   ·have hd:decide (x.updates[i].cell≤s)=true:=by simp;omega
    rw [hd];simp [hlt]
  ·have hc:slices_ContainsFunc_LRow_api_Row n x.hold (λq0=>model_judge_effect_1 n q0 ⟨m,l⟩)=some (x.hold.any λr=>!rowOK l.length r):=ContainsFunc_LRow_api_Row_eq (λr hr=>by
    unfold model_judge_effect_1;rw [model_row_eq (by have:=h4 r hr;omega) (by omega)];rfl) (by omega) (by omega)
   simp only [model_judge_effect.l2,ge_len,ym,if_false,hc,yi,yt,grd,if_true,yh,any_not,List.drop_length,updsP,yy,yg];congr 2
   ·exact decide_eq_decide.2 (by omega)
   ·exact decide_eq_decide.2 (by omega)
 have:=loopF_I (body:=model_judge_effect.l1 n ⟨m,l⟩ x) (len:=x.delta.length) (st:=λ(s:Int) i=>(s,(i:Int))) (g:=λi s=>some (deltaP l.length s (x.delta.drop i)&&(updsP m (-1) x.updates&&(decide (x.hold.length≤8)&&decide (x.updates.length≤32)&&x.hold.all (rowOK l.length))))) (λ_ _=>True) (λrec i s hi _ hr=>?_) (λrec s _=>?_) n 0 (-1) (yw _) (by omega) trivial
 ·simpa [model_judge_effect,effP] using this
 ·simp only [model_judge_effect.l1,lt_len hi,if_true,idx_nat hi,ya,around9,yi,yt,grd,yh,add64_1 (i:=i) (by omega),hr x.delta[i].cell trivial];rw [drop_cons hi,deltaP];by_cases h:(decide (s<x.delta[i].cell)&&decide (x.delta[i].cell<(l.length:Int))&&(x.delta[i].add != 0)&&aroundP x.delta[i].add 1000000000)=true
  ·rw [h,yy];simp only [yc,yd,bne_iff_ne] at h;rw [if_neg (by simp [h.2,h.1.2];omega)]
  ·rw [if_pos (by
    simp only [yc,yd,bne_iff_ne,ne_eq] at h;simp only [yr,yd,beq_iff_eq,yz,← yH];by_cases ha:aroundP x.delta[i].add 1000000000=true
    ·left;simp only [ha,and_true] at h;omega
    ·exact .inr ha)]
   simp only [yH] at h;rw [h];rfl
 ·simp only [model_judge_effect.l1,ge_len,ym,if_false,T,List.drop_length,deltaP,yy]
theorem ref_effect_eq {n m x} (hn:1000000≤n) (hS:SmallM m) (hL:layoutP m.sorts m.tables=true) (h1:x.delta.length≤1000) (h2:x.updates.length≤1000) (h3:x.hold.length≤1000) (h4:∀ r∈x.hold,r.terms.length≤1000):ref13_effect n m x=some (effP m (rangesP m.sorts true m.tables).length x):=by
 have htl:=hS.tables;have hsl:=hS.sorts;have hcs:∀ t∈m.tables,t.columns.length≤1000∧t.name.length≤4096:=λt ht=>by have:=hS.tab t ht;omega
 unfold ref13_effect ref13_strict;rw [ref09_Ranges_eq hn (by omega) (by omega) hcs,hL,if_pos rfl];generalize rangesP m.sorts true m.tables=l;simp only [ya];have T3:loopF (ref13_effect.l3 n m x) n 0=some (updsP m (-1) x.updates&&(decide (x.hold.length≤8)&&decide (x.updates.length≤32))):=by
  have:=loopF_I (body:=ref13_effect.l3 n m x) (len:=x.updates.length) (st:=λ(_:Int) i=>(i:Int)) (g:=λi s=>some (updsP m s (x.updates.drop i)&&(decide (x.hold.length≤8)&&decide (x.updates.length≤32)))) (λi s=>-1≤s∧((i=0∧s = -1)∨(0<i∧∃ y,idx x.updates (sub64 (i:Int) 1)=some y∧y.cell=s))) (λrec i s hi hI hr=>?_) (λrec s _=>?_) n 0 (-1) (yw _) (by omega) ⟨by omega,.inl ⟨rfl,rfl⟩⟩
  ·simpa using this
  ·obtain ⟨h1,h2⟩:=hI;have hprev:(decide (0<(i:Int))&&decide (x.updates[i].cell≤((idx x.updates (sub64 (i:Int) 1)).getD default).cell))=(decide (0<i)&&decide (x.updates[i].cell≤s))∧(!(decide (0<(i:Int)))||(idx x.updates (sub64 (i:Int) 1)).isSome)=true:=by
    rcases h2 with ⟨h2,h3⟩ | ⟨h2,y,h3,h4⟩
    ·subst h2;simp
    ·rw [h3];simp [h4,h2]
   have hnext:(-1≤x.updates[i].cell)→rec ((i+1:Nat):Int)=some (updsP m x.updates[i].cell (x.updates.drop (i+1))&&(decide (x.hold.length≤8)&&decide (x.updates.length≤32))):=λh=>hr x.updates[i].cell ⟨h,.inr ⟨by omega,x.updates[i],by
     rw [sub64_1 (by omega) (by omega),show i+1 - 1=i by omega,idx_nat hi],rfl⟩⟩
   simp only [ref13_effect.l3,lt_len hi,if_true,idx_nat hi,ya,ref09_Tuple_eq (cell:=x.updates[i].cell) (s:=false) hn (show m.sorts.length≤1000 by omega) (show m.tables.length≤1000 by omega) hcs,hprev.1,hprev.2,yt,grd,ref13_set,add64_1 (i:=i) (by omega)];rw [drop_cons hi,updsP];unfold updP;cases hok:(cellP m.sorts m.tables false x.updates[i].cell).2.2 with
   | false=>simp
   | true=>
    obtain ⟨t,ht⟩:=cellP_idx hok;have hge:0≤x.updates[i].cell:=by
     by_cases h:x.updates[i].cell<0
     ·rw [cellP_neg h] at hok;cases hok
     ·omega
    have hasc:(decide (0<i)&&decide (x.updates[i].cell≤s)) = !decide (s<x.updates[i].cell):=by
     rw [← decide_not,← Bool.decide_and];refine decide_eq_decide.2 ?_;rcases h2 with ⟨h2,h3⟩ | ⟨h2,-⟩ <;> omega
    rw [hasc,hnext (by omega)];simp only [ht,y7,ud,ya,yh,yy];cases decide (s<x.updates[i].cell) with
    | false=>simp
    | true=>
     simp only [y7,ym,if_false,yy];unfold updT;by_cases hset:(t.kind==2||t.kind==3)=true
     ·rw [hset];simp only [if_true,yy,y7,yV,ym,if_false];cases hk0:(x.updates[i].kind==0) <;> cases hk1:(x.updates[i].kind==1) <;> cases hv:(x.updates[i].value==0) <;> simp [bne,hk0,hk1,hv]
     ·simp only [yH] at hset;rw [hset];simp only [yV,ym,if_false,uu,yy];have e1:decide (x.updates[i].value<t.range.lo) = !decide (t.range.lo≤x.updates[i].value):=by rw [← decide_not];exact decide_eq_decide.2 (by omega)
      have e2:decide (t.range.hi<x.updates[i].value) = !decide (x.updates[i].value≤t.range.hi):=by rw [← decide_not];exact decide_eq_decide.2 (by omega)
      rw [e1,e2];cases hk0:(x.updates[i].kind==2) <;> cases decide (t.range.lo≤x.updates[i].value) <;> cases decide (x.updates[i].value≤t.range.hi) <;> simp [bne,hk0]
  ·simp only [ref13_effect.l3,ge_len,ym,if_false,List.drop_length,updsP,yy,yg];congr 1
   ·exact decide_eq_decide.2 (by omega)
   ·exact decide_eq_decide.2 (by omega)
 have T2:loopF (ref13_effect.l2 n m x l) n 0=if x.hold.all (rowOK l.length)=true then some (updsP m (-1) x.updates&&(decide (x.hold.length≤8)&&decide (x.updates.length≤32))) else some false:=by
  have:=loopF_lall (body:=ref13_effect.l2 n m x l) (l:=x.hold) (n:=n) (st:=λi=>(i:Int)) (rowOK l.length) (some false) (some (updsP m (-1) x.updates&&(decide (x.hold.length≤8)&&decide (x.updates.length≤32)))) (λrec i hi=>?_) (λrec=>?_) (by omega)
  ·simpa using this
  ·simp only [ref13_effect.l2,lt_len hi,if_true,idx_nat hi,ya,ref_row_eq (show x.hold[i].terms.length<1000000 by have:=h4 _ (yA hi);omega) hn,add64_1 (i:=i) (by omega)];cases rowOK l.length x.hold[i] <;> simp
  ·simp only [ref13_effect.l2,ge_len,ym,if_false,T3]
 have:=loopF_I (body:=ref13_effect.l1 n m x l) (len:=x.delta.length) (st:=λ(_:Int) i=>(i:Int)) (g:=λi s=>some (deltaP l.length s (x.delta.drop i)&&(updsP m (-1) x.updates&&(decide (x.hold.length≤8)&&decide (x.updates.length≤32)&&x.hold.all (rowOK l.length))))) (λi s=>-1≤s∧((i=0∧s = -1)∨(0<i∧∃ y,idx x.delta (sub64 (i:Int) 1)=some y∧y.cell=s))) (λrec i s hi hI hr=>?_) (λrec s _=>?_) n 0 (-1) (yw _) (by omega) ⟨by omega,.inl ⟨rfl,rfl⟩⟩
 ·simpa [effP] using this
 ·obtain ⟨h1,h2⟩:=hI;have hprev:(decide (0<(i:Int))&&decide (x.delta[i].cell≤((idx x.delta (sub64 (i:Int) 1)).getD default).cell))=(decide (0<i)&&decide (x.delta[i].cell≤s))∧(!(decide (0<(i:Int)))||(idx x.delta (sub64 (i:Int) 1)).isSome)=true:=by
   rcases h2 with ⟨h2,h3⟩ | ⟨h2,y,h3,h4⟩
   ·subst h2;simp
   ·rw [h3];simp [h4,h2]
  simp only [ref13_effect.l1,lt_len hi,if_true,idx_nat hi,ya,between9,yi,yt,grd,yh,hprev.1,hprev.2,add64_1 (i:=i) (by omega)];rw [drop_cons hi,deltaP];by_cases h:(decide (s<x.delta[i].cell)&&decide (x.delta[i].cell<(l.length:Int))&&(x.delta[i].add != 0)&&aroundP x.delta[i].add 1000000000)=true
  ·rw [h,yy];simp only [yc,yd,bne_iff_ne] at h;rw [if_neg (by simp [h.2,h.1.2];omega),hr x.delta[i].cell ⟨by omega,.inr ⟨by omega,x.delta[i],by
    rw [sub64_1 (by omega) (by omega),show i+1 - 1=i by omega,idx_nat hi],rfl⟩⟩]
  ·rw [if_pos (by
    simp only [yc,yd,bne_iff_ne,ne_eq] at h;simp only [yr,yc,yd,beq_iff_eq,yz,← yH];by_cases ha:aroundP x.delta[i].add 1000000000=true
    ·left;simp only [ha,and_true] at h;rcases h2 with ⟨h2,h3⟩ | ⟨h2,-⟩ <;> omega
    ·exact .inr ha)]
   simp only [yH] at h;rw [h];rfl
 ·simp only [ref13_effect.l1,ge_len,ym,if_false,T2,List.drop_length,deltaP,yy];cases x.hold.all (rowOK l.length) <;> simp
def cmpP:List Int→List Int→Int
 | [],[]=>0
 | [],_::_=>-1
 | _::_,[]=>1
 | x::l,y::k=>if x<y then -1 else if y<x then 1 else cmpP l k
def lessP:List Int→List Int→Bool
 | [],[]=>false
 | [],_::_=>true
 | _::_,[]=>false
 | x::l,y::k=>if x=y then lessP l k else decide (x<y)
theorem cmp_less:∀ a b:List Int,decide (0≤cmpP a b) = !lessP a b
 | [],[]=>rfl
 | [],_::_=>rfl
 | _::_,[]=>rfl
 | x::l,y::k=>by
  simp only [cmpP,lessP];by_cases h:x=y
  ·subst h;simp [cmp_less l k]
  ·by_cases h2:x<y
   ·simp [h,h2]
   ·have:y<x:=by omega
    simp [h,h2,this]
theorem Compare_eq {n a b} (hl:a.length<1000000) (hn:1000000≤n):slices_Compare_Lint_int n a b=some (cmpP a b):=by
 have:=loopF_g (body:=slices_Compare_Lint_int.l1 n a b) (len:=a.length) (st:=λi=>(i:Int)) (g:=λi=>some (cmpP (a.drop i) (b.drop i))) (λrec i hi hr=>?_) (λrec=>?_) n 0 (yw _) (by omega)
 ·simpa [slices_Compare_Lint_int] using this
 ·simp only [slices_Compare_Lint_int.l1,lt_len hi,if_true,idx_nat hi,ya,add64_1 (i:=i) (by omega),hr];rw [drop_cons hi];by_cases hb:i<b.length
  ·rw [if_neg (by simp;omega),idx_nat hb,drop_cons hb];simp only [ya,cmp_Compare_int,cmp_isNaN_int,bne_self_eq_false,ym,if_false,cmpP,yd];by_cases h1:a[i]<b[i]
   ·simp [h1]
   ·by_cases h2:b[i]<a[i]
    ·simp [h1,h2]
    ·simp [h1,h2]
  ·rw [if_pos (by simp;omega),show b.drop i=[] from List.drop_eq_nil_of_le (by omega)];rfl
 ·simp only [slices_Compare_Lint_int.l1,ge_len,ym,if_false,List.drop_length];by_cases hb:a.length<b.length
  ·rw [if_pos (by simpa using hb),drop_cons hb];rfl
  ·rw [if_neg (by simpa using hb),List.drop_eq_nil_of_le (by omega)];rfl
theorem ref_less_eq {n a b} (hl:a.length<1000000) (hn:1000000≤n):ref13_less n a b=some (lessP a b):=by
 have:=loopF_g (body:=ref13_less.l1 n a b) (len:=min a.length b.length) (st:=λi=>(i:Int)) (g:=λi=>some (lessP (a.drop i) (b.drop i))) (λrec i hi hr=>?_) (λrec=>?_) n 0 (yw _) (by omega)
 ·simpa [ref13_less] using this
 ·have ha:i<a.length:=by omega
  have hb:i<b.length:=by omega
  simp only [ref13_less.l1,lt_len ha,lt_len hb,uI,if_true,idx_nat ha,idx_nat hb,ya,add64_1 (i:=i) (by omega),hr];rw [drop_cons ha,drop_cons hb];by_cases h:a[i]=b[i]
  ·simp [h,lessP]
  ·simp [h,lessP]
 ·simp only [ref13_less.l1];rw [if_neg (by simp;omega)];by_cases ha:a.length≤b.length
  ·rw [Nat.min_eq_left ha,List.drop_length];by_cases hb:a.length<b.length
   ·rw [drop_cons hb];simp [lessP,hb]
   ·rw [List.drop_eq_nil_of_le (by omega)];simp [lessP];omega
  ·rw [Nat.min_eq_right (by omega),List.drop_length,drop_cons (by omega)];simp [lessP];omega
def argP (m:Model) (s x:Int):Bool:=(!decide (s<0)||aroundP x 9999)&&(!decide (0≤s)||(decide (0≤x)&&decide (x<(idx m.sorts s).getD default)))
def argsP (m:Model):List Int→List Int→Bool
 | s::l,x::k=>argP m s x&&argsP m l k
 | _,_=>true
def opAt (m:Model) (a:Action):Operation:=(idx m.operations a.operation).getD default
def ordP (b a:Action):Bool:=!decide (a.operation<b.operation)&&(!(b.operation==a.operation)||lessP b.arguments a.arguments)
def actP (m:Model) (K:Nat) (i:Nat) (a:Action):Bool:=
 (decide (0≤a.operation)&&decide (a.operation<(m.operations.length:Int)))&&(a.arguments.length==(opAt m a).sorts.length)&&argsP m (opAt m a).sorts a.arguments&&(decide (i=0)||ordP ((idx m.actions ((i - 1:Nat):Int)).getD default) a)&&effP m K a.effect
def actsP (m:Model) (K:Nat):Bool:=decide (m.actions.length≤256)&&allR (λi=>actP m K i ((idx m.actions (i:Int)).getD default)) 0 m.actions.length
theorem argsP_drop {m} {s x:List Int} {k:Nat} (h1:k<s.length) (h2:k<x.length):argsP m (s.drop k) (x.drop k)=(argP m s[k] x[k]&&argsP m (s.drop (k+1)) (x.drop (k+1))):=by
 rw [drop_cons h1,drop_cons h2];rfl
theorem opAt_idx {m a} (h:(decide (0≤a.operation)&&decide (a.operation<(m.operations.length:Int)))=true):idx m.operations a.operation=some (opAt m a)∧opAt m a∈m.operations:=by
 simp only [yc,yd] at h;obtain ⟨o,ho⟩:=idx_some h.1 h.2;refine ⟨by rw [ho,opAt,ho];rfl,?_⟩;rw [opAt,ho];exact idx_mem ho
theorem idx_sort {m:Model} {s:Int} (h0:0≤s) (h:s<(m.sorts.length:Int)):idx m.sorts s=some ((idx m.sorts s).getD default):=by
 obtain ⟨x,hx⟩:=idx_some h0 h;rw [hx];rfl
theorem opsP_sorts {m} (h:opsP m=true):∀ o∈m.operations,o.sorts.length≤3∧∀ s∈o.sorts,-1≤s∧s<(m.sorts.length:Int):=by
 simp only [opsP,yc,yu] at h;intro o ho;have:=h.1 o ho;simp only [opP,yc,yd,yu] at this;exact this
theorem ord_model {b a}:((decide (a.operation<b.operation))||((b.operation==a.operation)&&(decide (0≤cmpP b.arguments a.arguments)))) = !ordP b a:=by
 rw [cmp_less];unfold ordP;cases decide (a.operation<b.operation) <;> cases (b.operation==a.operation) <;> cases lessP b.arguments a.arguments <;> rfl
theorem ord_ref {b a}:((decide (a.operation<b.operation))||((b.operation==a.operation)&&(!lessP b.arguments a.arguments))) = !ordP b a:=by
 unfold ordP;cases decide (a.operation<b.operation) <;> cases (b.operation==a.operation) <;> cases lessP b.arguments a.arguments <;> rfl
theorem model_actions_eq {n:Nat} {m} {l:List Range} (hF:Fuel n) (hS:SmallM m) (hO:opsP m=true):model_judge_actions n ⟨m,l⟩=some (actsP m l.length):=by
 have hn:=hF.big;have hal:=hS.actions;unfold model_judge_actions actsP;by_cases h0:m.actions.length≤256
 ·rw [if_neg (by simp;omega),decide_eq_true h0,yy];have:=loopF_all (body:=model_judge_actions.l1 n ⟨m,l⟩) (len:=m.actions.length) (n:=n) (st:=λi=>(i:Int)) (λi=>actP m l.length i ((idx m.actions (i:Int)).getD default)) (some false) (some true) (λrec i hi=>?_) (λrec=>?_) (by omega)
  ·simp only [Int.natCast_zero] at this;rw [this];cases allR (λi=>actP m l.length i ((idx m.actions (i:Int)).getD default)) 0 m.actions.length <;> rfl
  ·have hmem:=yA hi;obtain ⟨a1,a2,a3,a4,a5⟩:=hS.act _ hmem;simp only [model_judge_actions.l1,lt_len hi,if_true,idx_nat hi,ya,model_index,yh];unfold actP;cases hop:(decide (0≤m.actions[i].operation)&&decide (m.actions[i].operation<(m.operations.length:Int))) with
   | false=>simp [grd]
   | true=>
    obtain ⟨ho,hom⟩:=opAt_idx hop;obtain ⟨o1,o2⟩:=opsP_sorts hO _ hom;simp only [ho,yi,yt,grd,if_true,yh,y7,ud,yy,ya];by_cases hlen:m.actions[i].arguments.length=(opAt m m.actions[i]).sorts.length
    ·rw [if_neg (by simp [hlen])];have hle:(m.actions[i].arguments.length==(opAt m m.actions[i]).sorts.length)=true:=by simp [hlen]
     rw [hle,yy];have inner:=loopF_g (body:=model_judge_actions.l2 n ⟨m,l⟩ i rec m.actions[i] (opAt m m.actions[i])) (len:=(opAt m m.actions[i]).sorts.length) (st:=λk=>(k:Int)) (g:=λk=>if argsP m ((opAt m m.actions[i]).sorts.drop k) (m.actions[i].arguments.drop k)=true then (if ((decide (i=0)||ordP ((idx m.actions ((i - 1:Nat):Int)).getD default) m.actions[i])&&effP m l.length m.actions[i].effect)=true then rec ((i+1:Nat):Int) else some false) else some false) (λrec' k hk hr'=>?_) (λrec'=>?_) n 0 (yw _) (by omega)
     ·simp only [Int.natCast_zero,List.drop_zero] at inner;rw [inner];cases argsP m (opAt m m.actions[i]).sorts m.actions[i].arguments <;> simp
     ·have hk2:k<m.actions[i].arguments.length:=by omega
      have hs2:=o2 _ (yA hk);simp only [model_judge_actions.l2,lt_len hk,if_true,idx_nat hk,idx_nat hk2,ya,around4,yi,yt,grd,yh,add64_1 (i:=k) (by omega),hr',model_index];rw [argsP_drop hk hk2];unfold argP;by_cases hneg:(opAt m m.actions[i]).sorts[k]<0
      ·have hd1:decide ((opAt m m.actions[i]).sorts[k]<0)=true:=by simp [hneg]
       have hd2:decide (0≤(opAt m m.actions[i]).sorts[k])=false:=by simp;omega
       rw [hd1,hd2];cases aroundP m.actions[i].arguments[k] 9999 <;> simp
      ·have hd1:decide ((opAt m m.actions[i]).sorts[k]<0)=false:=by simp;omega
       have hd2:decide (0≤(opAt m m.actions[i]).sorts[k])=true:=by simp;omega
       obtain ⟨z,hz⟩:=idx_some (l:=m.sorts) (i:=(opAt m m.actions[i]).sorts[k]) (by omega) hs2.2;rw [hz,hd1,hd2];by_cases h1:0≤m.actions[i].arguments[k]
       ·by_cases h2:m.actions[i].arguments[k]<z
        ·have h2':¬ z≤m.actions[i].arguments[k]:=by omega
         simp [h1,h2,h2']
        ·have h2':z≤m.actions[i].arguments[k]:=by omega
         simp [h1,h2,h2']
       ·simp [h1]
     ·simp only [model_judge_actions.l2,ge_len,ym,if_false,jn,List.drop_length];rw [model_effect_eq hF hS (by omega) (by omega) (by omega) (λr hr=>by have:=a5 r hr;omega)];simp only [ya,add64_1 (i:=i) (by omega)];have hargs:argsP m [] (m.actions[i].arguments.drop (opAt m m.actions[i]).sorts.length)=true:=rfl;rw [hargs,if_pos rfl];by_cases h0i:i=0
      ·subst h0i;rw [if_neg (by simp)];cases effP m l.length m.actions[0].effect <;> simp
      ·rw [if_pos (by simp;omega),sub64_1 (by omega) (by omega)];have hi1:i - 1<m.actions.length:=by omega
       have b1:=(hS.act _ (yA hi1)).1;simp only [idx_nat hi1,ya,ord_model,yh,Compare_eq (a:=m.actions[i - 1].arguments) (b:=m.actions[i].arguments) (show m.actions[i - 1].arguments.length<1000000 by omega) (show 1000000≤n by omega),yi,yt,if_true,h0i,decide_false,ud];cases ordP m.actions[i - 1] m.actions[i] <;> cases effP m l.length m.actions[i].effect <;> simp [grd]
    ·rw [if_pos (by simp;omega)];have hle:(m.actions[i].arguments.length==(opAt m m.actions[i]).sorts.length)=false:=by simp [hlen]
     rw [hle];simp
  ·simp [model_judge_actions.l1]
 ·rw [if_pos (by simp;omega),decide_eq_false h0,yV]
theorem ref13_actions_eq {n:Nat} {m:Model} (hn:1000000≤n) (hS:SmallM m) (hL:layoutP m.sorts m.tables=true):ref13_actions n m=some (opsP m&&actsP m (rangesP m.sorts true m.tables).length):=by
 have hal:=hS.actions;have hol:=hS.operations;have hef:∀ a∈m.actions,ref13_effect n m a.effect=some (effP m (rangesP m.sorts true m.tables).length a.effect):=λa ha=>by
  obtain ⟨a1,a2,a3,a4,a5⟩:=hS.act _ ha;exact ref_effect_eq hn hS hL (by omega) (by omega) (by omega) (λr hr=>by have:=a5 r hr;omega)
 generalize (rangesP m.sorts true m.tables).length=K at hef;have T:opsP m=true→loopF (ref13_actions.l3 n m) n 0=some (allR (λi=>actP m K i ((idx m.actions (i:Int)).getD default)) 0 m.actions.length):=λhO=>by
  have:=loopF_all (body:=ref13_actions.l3 n m) (len:=m.actions.length) (n:=n) (st:=λi=>(i:Int)) (λi=>actP m K i ((idx m.actions (i:Int)).getD default)) (some false) (some true) (λrec i hi=>?_) (λrec=>?_) (by omega)
  ·simp only [Int.natCast_zero] at this;rw [this];cases allR (λi=>actP m K i ((idx m.actions (i:Int)).getD default)) 0 m.actions.length <;> rfl
  ·have hmem:=yA hi;obtain ⟨a1,a2,a3,a4,a5⟩:=hS.act _ hmem;simp only [ref13_actions.l3,lt_len hi,if_true,idx_nat hi,ya,yh];have hneg:(decide (m.actions[i].operation<0)||decide ((m.operations.length:Int)≤m.actions[i].operation)) = !(decide (0≤m.actions[i].operation)&&decide (m.actions[i].operation<(m.operations.length:Int))):=by
    rw [Bool.not_and,← decide_not,← decide_not];congr 1
    ·exact decide_eq_decide.2 (by omega)
    ·exact decide_eq_decide.2 (by omega)
   rw [hneg];unfold actP;cases hop:(decide (0≤m.actions[i].operation)&&decide (m.actions[i].operation<(m.operations.length:Int))) with
   | false=>simp [grd]
   | true=>
    obtain ⟨ho,hom⟩:=opAt_idx hop;obtain ⟨o1,o2⟩:=opsP_sorts hO _ hom;simp only [ho,yi,yt,grd,if_true,yh,y7,ud,yy];by_cases hlen:m.actions[i].arguments.length=(opAt m m.actions[i]).sorts.length
    ·rw [if_neg (by simp [hlen])];have hle:(m.actions[i].arguments.length==(opAt m m.actions[i]).sorts.length)=true:=by simp [hlen]
     rw [hle,yy];have inner:=loopF_g (body:=ref13_actions.l4 n m i rec m.actions[i]) (len:=m.actions[i].arguments.length) (st:=λk=>(k:Int)) (g:=λk=>if argsP m ((opAt m m.actions[i]).sorts.drop k) (m.actions[i].arguments.drop k)=true then (if ((decide (i=0)||ordP ((idx m.actions ((i - 1:Nat):Int)).getD default) m.actions[i])&&effP m K m.actions[i].effect)=true then rec ((i+1:Nat):Int) else some false) else some false) (λrec' k hk2 hr'=>?_) (λrec'=>?_) n 0 (yw _) (by omega)
     ·simp only [Int.natCast_zero,List.drop_zero] at inner;rw [inner];cases argsP m (opAt m m.actions[i]).sorts m.actions[i].arguments <;> simp
     ·have hk:k<(opAt m m.actions[i]).sorts.length:=by omega
      have hs2:=o2 _ (yA hk);simp only [ref13_actions.l4,lt_len hk2,if_true,ho,idx_nat hk,idx_nat hk2,ya,between4,yi,yt,grd,yh,add64_1 (i:=k) (by omega),hr'];rw [argsP_drop hk hk2];unfold argP;by_cases hneg:(opAt m m.actions[i]).sorts[k]<0
      ·have hd1:decide ((opAt m m.actions[i]).sorts[k]<0)=true:=by simp [hneg]
       have hd2:decide (0≤(opAt m m.actions[i]).sorts[k])=false:=by simp;omega
       rw [hd1,hd2];cases aroundP m.actions[i].arguments[k] 9999 <;> simp
      ·have hd1:decide ((opAt m m.actions[i]).sorts[k]<0)=false:=by simp;omega
       have hd2:decide (0≤(opAt m m.actions[i]).sorts[k])=true:=by simp;omega
       rw [idx_sort (m:=m) (s:=(opAt m m.actions[i]).sorts[k]) (by omega) hs2.2,hd1,hd2];simp only [yh];generalize (idx m.sorts (opAt m m.actions[i]).sorts[k]).getD default=z;by_cases h1:m.actions[i].arguments[k]<0
       ·have h1':¬ 0≤m.actions[i].arguments[k]:=by omega
        simp [h1,h1']
       ·have h1':0≤m.actions[i].arguments[k]:=by omega
        by_cases h2:z≤m.actions[i].arguments[k]
        ·have h2':¬ m.actions[i].arguments[k]<z:=by omega
         simp [h1,h1',h2,h2']
        ·have h2':m.actions[i].arguments[k]<z:=by omega
         simp [h1,h1',h2,h2']
     ·simp only [ref13_actions.l4,ge_len,ym,if_false,jn,List.drop_length,hef _ hmem];simp only [ya,add64_1 (i:=i) (by omega)];have hargs:argsP m ((opAt m m.actions[i]).sorts.drop m.actions[i].arguments.length) []=true:=by cases (opAt m m.actions[i]).sorts.drop m.actions[i].arguments.length <;> rfl
      rw [hargs,if_pos rfl];by_cases h0i:i=0
      ·subst h0i;rw [if_neg (by simp)];cases effP m K m.actions[0].effect <;> simp
      ·rw [if_pos (by simp;omega),sub64_1 (by omega) (by omega)];have hi1:i - 1<m.actions.length:=by omega
       have b1:=(hS.act _ (yA hi1)).1;simp only [idx_nat hi1,ya,ord_ref,yh,ref_less_eq (a:=m.actions[i - 1].arguments) (b:=m.actions[i].arguments) (show m.actions[i - 1].arguments.length<1000000 by omega) (show 1000000≤n by omega),yi,yt,if_true,h0i,decide_false,ud];cases ordP m.actions[i - 1] m.actions[i] <;> cases effP m K m.actions[i].effect <;> simp [grd]
    ·rw [if_pos (by simp;omega)];have hle:(m.actions[i].arguments.length==(opAt m m.actions[i]).sorts.length)=false:=by simp [hlen]
     rw [hle];simp
  ·simp [ref13_actions.l3]
 unfold ref13_actions;have:=loopF_lall (body:=ref13_actions.l1 n m) (l:=m.operations) (n:=n) (st:=λi=>((m.operations.take i).map (·.name),(i:Int))) (opP m) (some false) (if (decide (m.operations.length≤8)&&distP [] (m.operations.map (·.name))&&decide (m.actions.length≤256))=true then loopF (ref13_actions.l3 n m) n 0 else some false) (λrec i hi=>?_) (λrec=>?_) (by omega)
 ·simp only [List.take_zero,List.map_nil,Int.natCast_zero] at this;rw [this];unfold actsP;cases hO:opsP m with
  | true=>
   have hO':=hO;simp only [opsP,yc] at hO';rw [hO'.1,hO'.2.1,hO'.2.2,T hO];cases decide (m.actions.length≤256) <;> rfl
  | false=>
   unfold opsP at hO;cases h1:m.operations.all (opP m) with
   | false=>simp
   | true=>
    rw [h1,yy] at hO;rw [hO];simp
 ·have hop:=hS.op _ (yA hi);simp only [ref13_actions.l1,lt_len hi,if_true,idx_nat hi,ya];rw [app_some (by simp;omega),ya,map_take_snoc hi];generalize hX:(m.operations.take (i+1)).map (·.name)=X;have inner:=loopF_lall (body:=ref13_actions.l2 n m i rec m.operations[i] X) (l:=m.operations[i].sorts) (n:=n) (st:=λk=>(k:Int)) (λs=>decide (-1≤s)&&decide (s<(m.sorts.length:Int))) (some false) (if decide (m.operations[i].sorts.length≤3)=true then rec (X,((i+1:Nat):Int)) else some false) (λrec' k hk=>?_) (λrec'=>?_) (by omega)
  ·simp only [Int.natCast_zero] at inner;rw [inner];unfold opP;cases decide (m.operations[i].sorts.length≤3) <;> cases (m.operations[i].sorts.all λs=>decide (-1≤s)&&decide (s<(m.sorts.length:Int))) <;> simp
  ·simp only [ref13_actions.l2,lt_len hk,if_true,idx_nat hk,ya,yi,yt,grd,yh,add64_1 (i:=k) (by omega)];have e1:decide (m.operations[i].sorts[k] < -1) = !decide (-1≤m.operations[i].sorts[k]):=by rw [← decide_not];exact decide_eq_decide.2 (by omega)
   have e2:decide ((m.sorts.length:Int)≤m.operations[i].sorts[k]) = !decide (m.operations[i].sorts[k]<(m.sorts.length:Int)):=by rw [← decide_not];exact decide_eq_decide.2 (by omega)
   rw [e1,e2];cases decide (-1≤m.operations[i].sorts[k]) <;> cases decide (m.operations[i].sorts[k]<(m.sorts.length:Int)) <;> simp
  ·simp only [ref13_actions.l2,ge_len,ym,if_false,add64_1 (i:=i) (by omega)];by_cases h3:m.operations[i].sorts.length≤3
   ·rw [if_neg (by simp;omega),if_pos (by simp [h3])]
   ·rw [if_pos (by simp;omega),if_neg (by simp [h3])]
 ·simp only [ref13_actions.l1,ge_len,ym,if_false,List.take_length];rw [ref13_distinct_eq hn (by simp;omega) (λw hw=>by
   simp only [yY] at hw;obtain ⟨o,ho,rfl⟩:=hw;have:=(hS.op o ho).1;omega)]
  simp only [yi,yt,grd,if_true,yh];have e1:decide (8<(m.operations.length:Int)) = !decide (m.operations.length≤8):=by rw [← decide_not];exact decide_eq_decide.2 (by omega)
  have e2:decide (256<(m.actions.length:Int)) = !decide (m.actions.length≤256):=by rw [← decide_not];exact decide_eq_decide.2 (by omega)
  rw [e1,e2];cases decide (m.operations.length≤8) <;> cases distP [] (m.operations.map (·.name)) <;> cases decide (m.actions.length≤256) <;> simp
def leadsP (hs:List Hide):Nat→Int→Int→Bool
 | 0,a,b=>a==b
 | k+1,a,b=>a==b||hs.any λh=>h.table==a&&leadsP hs k h.to b
def hideP (m:Model) (h:Hide):Bool:=
 (((decide (0≤h.table)&&decide (h.table<(m.tables.length:Int)))&&(decide (0≤h.to)&&decide (h.to<(m.tables.length:Int))))&&(h.table != h.to)) &&
 (((((idx m.tables h.table).getD default).kind==0)&&(((idx m.tables h.to).getD default).kind==0))&&((decide (0≤h.column)&&decide (h.column<(((idx m.tables h.table).getD default).columns.length:Int)))&&(((((idx m.tables h.to).getD default).columns.length:Int)==1)&&((idx ((idx m.tables h.to).getD default).columns 0).getD default==(idx ((idx m.tables h.table).getD default).columns h.column).getD default))))
def hidesP (m:Model):Bool:=decide (m.hides.length≤12)&&(m.hides.all (hideP m)&&m.hides.all λh=>!leadsP m.hides m.tables.length h.to h.table)
theorem leads_loop {m n self a b k} (hl:m.hides.length<n) (hl2:m.hides.length<1000000) (hk:k+1<1000000) (hself:∀ x,self m x b (k:Int)=some (leadsP m.hides k x b)) :
  loopF (ref13_leads.l1 n self m a b ((k+1:Nat):Int)) n 0=some (m.hides.any λh=>h.table==a&&leadsP m.hides k h.to b):=by
 have:=loopF_g (body:=ref13_leads.l1 n self m a b ((k+1:Nat):Int)) (len:=m.hides.length) (st:=λi=>(i:Int)) (g:=λi=>some ((m.hides.drop i).any λh=>h.table==a&&leadsP m.hides k h.to b)) (λrec i hi hr=>?_) (λrec=>?_) n 0 (yw _) (by omega)
 ·simpa using this
 ·have h0:decide (0<((k+1:Nat):Int))=true:=by simp
  have hsub:sub64 ((k+1:Nat):Int) 1=(k:Int):=by rw [sub64_1 (by omega) (by omega)];simp
  simp only [ref13_leads.l1,lt_len hi,h0,uI,if_true,idx_nat hi,ya,yi,yt,grd,yh,hsub,hself,add64_1 (i:=i) (by omega),hr];rw [drop_cons hi,List.any_cons];cases (m.hides[i].table==a&&leadsP m.hides k m.hides[i].to b) <;> simp
 ·simp [ref13_leads.l1]
theorem ref_leads {m} (hl:m.hides.length<1000000):∀ (k n:Nat) (a b:Int),k<1000000→1000000+k<n→ref13_leads n m a b (k:Int)=some (leadsP m.hides k a b)
 | 0,0,_,_,_,h=>by omega
 | 0,n+1,a,b,_,h=>by
  simp only [ref13_leads,ref13_leads.body,leadsP];by_cases e:a=b
  ·simp [e]
  ·rw [if_neg (by simpa using e)];have hh:(a==b)=false:=by simpa using e
   rw [loopF_1 (by omega),hh];simp [ref13_leads.l1]
 | k+1,0,_,_,_,h=>by omega
 | k+1,n+1,a,b,hk,h=>by
  simp only [ref13_leads,ref13_leads.body,leadsP];by_cases e:a=b
  ·simp [e]
  ·rw [if_neg (by simpa using e),leads_loop (by omega) hl hk λx=>ref_leads hl k n x b (by omega) (by omega)];have hh:(a==b)=false:=by simpa using e
   rw [hh,ud]
theorem hide_idx {m:Model} {h:Hide} (h0:0≤h.table∧h.table<(m.tables.length:Int)) (h1:0≤h.to∧h.to<(m.tables.length:Int)):∃ t u,idx m.tables h.table=some t∧idx m.tables h.to=some u:=by
 obtain ⟨t,ht⟩:=idx_some h0.1 h0.2;obtain ⟨u,hu⟩:=idx_some h1.1 h1.2;exact ⟨t,u,ht,hu⟩
theorem ref13_hidden_eq {n:Nat} {m:Model} (hn:4294967296≤n) (hS:SmallM m):ref13_hidden n m=some (hidesP m):=by
 have hhl:=hS.hides;have htl:=hS.tables;unfold ref13_hidden hidesP;rw [if_neg (by simp;omega),decide_eq_true hhl,yy];have T:loopF (ref13_hidden.l2 n m) n 0=some (m.hides.all λh=>!leadsP m.hides m.tables.length h.to h.table):=by
  have:=loopF_lall (body:=ref13_hidden.l2 n m) (l:=m.hides) (n:=n) (st:=λi=>(i:Int)) (λh=>!leadsP m.hides m.tables.length h.to h.table) (some false) (some true) (λrec i hi=>?_) (λrec=>?_) (by omega)
  ·simp only [Int.natCast_zero] at this;rw [this];cases (m.hides.all λh=>!leadsP m.hides m.tables.length h.to h.table) <;> rfl
  ·simp only [ref13_hidden.l2,lt_len hi,if_true,idx_nat hi,ya,ref_leads (m:=m) (by omega) m.tables.length n m.hides[i].to m.hides[i].table (by omega) (by omega),add64_1 (i:=i) (by omega)];cases leadsP m.hides m.tables.length m.hides[i].to m.hides[i].table <;> simp
  ·simp [ref13_hidden.l2]
 have:=loopF_lall (body:=ref13_hidden.l1 n m) (l:=m.hides) (n:=n) (st:=λi=>(i:Int)) (hideP m) (some false) (some (m.hides.all λh=>!leadsP m.hides m.tables.length h.to h.table)) (λrec i hi=>?_) (λrec=>?_) (by omega)
 ·simp only [Int.natCast_zero] at this;rw [this];cases m.hides.all (hideP m) <;> simp
 ·simp only [ref13_hidden.l1,lt_len hi,if_true,idx_nat hi,ya,add64_1 (i:=i) (by omega)];generalize m.hides[i]=h;by_cases hb:(((0≤h.table∧h.table<(m.tables.length:Int))∧(0≤h.to∧h.to<(m.tables.length:Int)))∧h.table≠h.to)
  ·rw [if_neg (by simp;omega)];obtain ⟨t,u,ht,hu⟩:=hide_idx hb.1.1 hb.1.2;have hhp:hideP m h=(((t.kind==0)&&(u.kind==0))&&((decide (0≤h.column)&&decide (h.column<(t.columns.length:Int)))&&(((u.columns.length:Int)==1)&&((idx u.columns 0).getD default==(idx t.columns h.column).getD default)))):=by
    unfold hideP;rw [ht,hu];simp [hb]
   simp only [ht,hu,ya];rw [hhp];by_cases hk:(((t.kind==0)&&(u.kind==0))&&((decide (0≤h.column)&&decide (h.column<(t.columns.length:Int)))&&((u.columns.length:Int)==1)))=true
   ·have hk':=hk;simp only [yc,yd,beq_iff_eq] at hk';obtain ⟨⟨k1,k2⟩,⟨k3,k4⟩,k5⟩:=hk';obtain ⟨x,hx⟩:=idx_some (l:=u.columns) (i:=0) (by omega) (by omega);obtain ⟨y,hy⟩:=idx_some k3 k4;have n1:¬ h.column<0:=by omega
    have n2:¬ (t.columns.length:Int)≤h.column:=by omega
    simp only [k1,k2,k3,k4,k5,n1,n2,hx,hy,yh,decide_true,decide_false,beq_self_eq_true,bne_self_eq_false,yi,yt,Bool.or_false,yy,grd,if_true];by_cases hxy:x=y
    ·simp [hxy]
    ·simp [hxy]
   ·have hf:(((((t.kind != 0)||(u.kind != 0))||(decide (h.column<0)))||(decide ((t.columns.length:Int)≤h.column)))||((u.columns.length:Int) != 1))=true:=by
     simp only [yc,yd,beq_iff_eq] at hk;simp only [yr,bne_iff_ne,yd];omega
    simp only [hf,uB,grd,if_true];rw [← Bool.and_assoc (decide (0≤h.column)&&decide (h.column<(t.columns.length:Int))),← Bool.and_assoc];simp only [yH] at hk;rw [hk];rfl
  ·rw [if_pos (by simp;omega)];have hhp:hideP m h=false:=by
    unfold hideP;cases hx:(((decide (0≤h.table)&&decide (h.table<(m.tables.length:Int)))&&(decide (0≤h.to)&&decide (h.to<(m.tables.length:Int))))&&(h.table != h.to)) with
    | false=>rfl
    | true=>
     simp only [yc,yd,bne_iff_ne] at hx;exact absurd hx hb
   rw [hhp];rfl
 ·simp only [ref13_hidden.l1,ge_len,ym,if_false,T]
theorem nodup_len:∀ (T:Nat) (l:List Int),l.Nodup→(∀ x∈l,0≤x∧x<(T:Int))→l.length≤T
 | 0,l,_,h=>by
  cases l with
  | nil=>simp
  | cons x l=>have:=h x (by simp);omega
 | T+1,l,hn,h=>by
  by_cases hm:(T:Int)∈l
  ·have h1:=nodup_len T (l.erase (T:Int)) (hn.erase _) (λx hx=>by
    have:=(hn.mem_erase_iff).1 hx;have:=h x this.2;omega)
   rw [List.length_erase_of_mem hm] at h1;omega
  ·have:=nodup_len T l hn (λx hx=>by
    have:=h x hx;have:x≠(T:Int):=λe=>hm (e▸hx)
    omega)
   omega
theorem leadsP_mono {hs}:∀ {k:Nat} {a b:Int},leadsP hs k a b=true→leadsP hs (k+1) a b=true
 | 0,a,b,h=>by
  simp only [leadsP] at h;simp only [leadsP,h,uB]
 | k+1,a,b,h=>by
  rw [leadsP] at h ⊢;simp only [yr,ur,yc] at h ⊢;rcases h with h | ⟨x,hx,h1,h2⟩
  ·exact .inl h
  ·exact .inr ⟨x,hx,h1,leadsP_mono h2⟩
theorem leadsP_le {hs k j a b} (h:leadsP hs k a b=true) (hkj:k≤j):leadsP hs j a b=true:=by
 obtain ⟨d,rfl⟩:=Nat.exists_eq_add_of_le hkj;clear hkj
 induction d with
 | zero=>exact h
 | succ d ih=>exact leadsP_mono ih
theorem leadsP_refl {hs k a}:leadsP hs k a a=true:=by cases k <;> simp [leadsP]
theorem leadsP_snoc {hs h} (hh:h∈hs):∀ {k:Nat} {a:Int},leadsP hs k a h.table=true→leadsP hs (k+1) a h.to=true
 | 0,a,e=>by
  simp only [leadsP,beq_iff_eq] at e;simp only [leadsP,yr,ur,yc,beq_iff_eq];exact .inr ⟨h,hh,e.symm,rfl⟩
 | k+1,a,e=>by
  rw [leadsP] at e ⊢;simp only [yr,ur,yc,beq_iff_eq] at e ⊢;rcases e with e | ⟨x,hx,h1,h2⟩
  ·exact .inr ⟨h,hh,e.symm,leadsP_refl⟩
  ·exact .inr ⟨x,hx,h1,leadsP_snoc hh h2⟩
def walkP (f:Int→Hide) (s:Int):Nat→Int
 | 0=>s
 | k+1=>(f (walkP f s k)).to
theorem sink_ex {hs:List Hide} {T:Nat} {S:List Int} (hS:S≠[]) (hb:∀ t∈S,0≤t∧t<(T:Int)) (hac:∀ h∈hs,leadsP hs T h.to h.table=false):∃ t∈S,∀ h∈hs,¬ (h.table=t∧h.to∈S):=by
 apply Classical.byContradiction;intro hno;have hedge:∀ t,t∈S→∃ h,h∈hs∧h.table=t∧h.to∈S:=λt ht=>by
  apply Classical.byContradiction;intro hn;exact hno ⟨t,ht,λh hh he=>hn ⟨h,hh,he.1,he.2⟩⟩
 obtain ⟨s,hs0⟩:∃ s,s∈S:=by
  cases S with
  | nil=>exact absurd rfl hS
  | cons x l=>exact ⟨x,by simp⟩
 obtain ⟨f,hf⟩:∃ f:Int→Hide,∀ t,t∈S→f t∈hs∧(f t).table=t∧(f t).to∈S:=by
  refine ⟨λt=>if ht:t∈S then Classical.choose (hedge t ht) else default,λt ht=>?_⟩;simp only [ht,dite_true];exact Classical.choose_spec (hedge t ht)
 have hw:∀ k,walkP f s k∈S:=λk=>by
  induction k with
  | zero=>exact hs0
  | succ k ih=>exact (hf _ ih).2.2
 have hlead:∀ d i,leadsP hs d (walkP f s i) (walkP f s (i+d))=true:=λd=>by
  induction d with
  | zero=>intro i;exact leadsP_refl
  | succ d ih=>
   intro i;simp only [leadsP,yr,ur,yc,beq_iff_eq];refine .inr ⟨f (walkP f s i),(hf _ (hw i)).1,(hf _ (hw i)).2.1,?_⟩;have:=ih (i+1);rw [show i+1+d=i+(d+1) by omega] at this;exact this
 have hne:∀ i j,i<j→j≤T→walkP f s i≠walkP f s j:=λi j hij hj e=>by
  have h1:=hlead (j - i - 1) (i+1);rw [show i+1+(j - i - 1)=j by omega,← e] at h1;have h2:=hac _ (hf _ (hw i)).1;rw [(hf _ (hw i)).2.1] at h2;have h3:leadsP hs T (f (walkP f s i)).to (walkP f s i)=true:=leadsP_le h1 (by omega);rw [h3] at h2;cases h2
 have hlen:=nodup_len T ((List.range (T+1)).map (walkP f s)) (by
  rw [List.Nodup,List.pairwise_map];exact List.Pairwise.imp_of_mem (λ{a b} _ hb hab=>hne a b hab (by have:=y8.1 hb;omega)) List.pairwise_lt_range) (λx hx=>by
  simp only [yY] at hx;obtain ⟨k,-,rfl⟩:=hx;exact hb _ (hw k))
 simp at hlen;omega
def keysOf (m:GMap Int Bool):List Int:=m.es.map λe=>e.2.1
structure WfM (m:GMap Int Bool):Prop where
 tru:∀ e∈m.es,e.2.2=true
 nd:(m.es.map (·.1)).Nodup
 lt:∀ e∈m.es,e.1<m.clock
theorem WfM.get {m} (h:WfM m) (k):(m.get? k).getD false=decide (k∈keysOf m):=by
 unfold GMap.get?;rw [findK_get k m.es h.tru];rfl
theorem WfM.empty:WfM (GMap.empty:GMap Int Bool):=⟨λe he=>(by simp [GMap.empty] at he),by simp [GMap.empty],λe he=>(by simp [GMap.empty] at he)⟩
theorem findK_at (k):∀ (es:List (Nat×Int×Bool)) (p:Nat×Bool),findK k es=some p→∃ h:p.1<es.length,es[p.1].2.1=k
 | [],_,h=>by simp [findK] at h
 | e::es,p,h=>by
  simp only [findK] at h;split at h
  ·rename_i hk;cases h;exact ⟨by simp,hk.symm⟩
  ·simp only [Option.map_eq_some_iff] at h;obtain ⟨q,h1,rfl⟩:=h;obtain ⟨h2,h3⟩:=findK_at k es q h1;exact ⟨by simp only [yT];omega,by simpa using h3⟩
theorem modify_births (f) (hf:∀ e,(f e).1=e.1):∀ (es:List (Nat×Int×Bool)) (i:Nat),(es.modify i f).map (·.1)=es.map (·.1)
 | [],_=>by simp
 | e::es,0=>by simp [hf]
 | e::es,i+1=>by simp [modify_births f hf es i]
theorem WfM.put {m} (h:WfM m) (k):WfM (m.put k true)∧(m.put k true).es.length≤m.es.length+1∧∀ t,t∈keysOf (m.put k true)↔t∈keysOf m∨t=k:=by
 unfold GMap.put keysOf;cases hk:findK k m.es with
 | none=>
  simp only [];refine ⟨⟨λe he=>?_,?_,λe he=>?_⟩,by simp,λt=>by simp⟩
  ·simp only [yG,yK] at he;rcases he with he | rfl
   ·exact h.tru e he
   ·rfl
  ·simp only [ue,yI,List.map_nil];rw [List.nodup_append];refine ⟨h.nd,by simp,λa ha b hb=>?_⟩;simp only [yK] at hb;subst hb;simp only [yY] at ha;obtain ⟨e,he,rfl⟩:=ha;have:=h.lt e he;omega
  ·simp only [yG,yK] at he;rcases he with he | rfl
   ·have:=h.lt e he;simp only [];omega
   ·simp
 | some p=>
  obtain ⟨i,b⟩:=p;simp only [];have hb:=modify_births (λe:Nat×Int×Bool=>(e.1,e.2.1,true)) (λe=>rfl) m.es i;refine ⟨⟨modify_all (p:=λe=>e.2.2=true) _ (λe=>rfl) m.es i h.tru,by rw [hb];exact h.nd,λe he=>?_⟩,by simp,λt=>?_⟩
  ·have:e.1∈m.es.map (·.1):=by rw [← hb];exact List.mem_map_of_mem he
   simp only [yY] at this;obtain ⟨x,hx,e1⟩:=this;have:=h.lt x hx;simp only [];omega
  ·rw [modify_keys (λe:Nat×Int×Bool=>(e.1,e.2.1,true)) (λe=>rfl) m.es i];constructor
   ·exact .inl
   ·rintro (h1 | rfl)
    ·exact h1
    ·exact findK_yes _ m.es _ hk
theorem WfM.del {m} (h:WfM m) {e} (he:e∈m.es):WfM (m.del e.2.1)∧(m.del e.2.1).clock=m.clock∧(m.del e.2.1).es.length+1=m.es.length∧(m.del e.2.1).es.Sublist m.es∧∀ t,t∈keysOf m→t≠e.2.1→t∈keysOf (m.del e.2.1):=by
 unfold GMap.del keysOf;cases hk:findK e.2.1 m.es with
 | none=>exact absurd (List.mem_map_of_mem (f:=λe:Nat×Int×Bool=>e.2.1) he) (findK_no _ m.es hk)
 | some p=>
  obtain ⟨i,b⟩:=p;obtain ⟨hi,hik⟩:=findK_at _ m.es _ hk;simp only [] at hi hik ⊢;have hsub:=List.eraseIdx_sublist m.es i;refine ⟨⟨λx hx=>h.tru x (hsub.subset hx),(hsub.map _).nodup h.nd,λx hx=>h.lt x (hsub.subset hx)⟩,trivial,?_,hsub,λt ht hne=>?_⟩
  ·rw [List.length_eraseIdx_of_lt hi];omega
  ·simp only [yY] at ht ⊢;obtain ⟨x,hx,rfl⟩:=ht;obtain ⟨j,hj,rfl⟩:=List.mem_iff_getElem.1 hx;refine ⟨_,?_,rfl⟩;rw [List.mem_eraseIdx_iff_getElem];refine ⟨j,hj,λe1=>hne ?_,rfl⟩;subst e1;exact hik
theorem left_less {m m':GMap Int Bool} {seen:List Nat} {e:Nat×Int×Bool} (he:e∈m.left seen) (hs:m'.es.Sublist m.es):(m'.left (seen++[e.1])).length<(m.left seen).length:=by
 unfold GMap.left at he ⊢;have h1:(m'.es.filter λx=>!(seen++[e.1]).contains x.1).length≤(m.es.filter λx=>!(seen++[e.1]).contains x.1).length:=(hs.filter _).length_le;have h2:(m.es.filter λx=>!(seen++[e.1]).contains x.1)=(m.es.filter λx=>!seen.contains x.1).filter λx=>!(x.1==e.1):=by
  rw [List.filter_filter];congr 1;funext x;rw [Bool.eq_iff_iff];simp;constructor
  ·rintro ⟨a,b⟩;exact ⟨b,a⟩
  ·rintro ⟨a,b⟩;exact ⟨b,a⟩
 have h3:((m.es.filter λx=>!seen.contains x.1).filter λx=>!(x.1==e.1)).length<(m.es.filter λx=>!seen.contains x.1).length:=
  List.length_filter_lt_length_iff_exists.2 ⟨e,he,by simp⟩
 rw [h2] at h1;omega
theorem hidden_round {n:Nat} {j:Judge} {m0:GMap Int Bool} {i:Int} {rec:(GMap Int Bool×Int)→Option Bool} {r:Bool} (hn:1000000≤n) (hh:j.model.hides.length<1000000) (J:GMap Int Bool→List Nat→Prop)
  (hwf:∀ m seen,J m seen→WfM m∧m.clock=m0.clock) (hover:∀ m seen,J m seen→m.left seen=[]→rec (m,add64 i 1)=some r)
  (hstep:∀ m seen e,J m seen→e∈m.left seen→J (if (j.model.hides.any λh=>h.table==e.2.1&&decide (h.to∈keysOf m))=true then m else m.del e.2.1) (seen++[e.1]))
  (h0:J m0 []) (hl:m0.es.length<1000000):loopF (model_judge_hidden.l4 n j m0 i rec) n (m0,[],m0.clock)=some r:=by
 refine loopF_M (body:=model_judge_hidden.l4 n j m0 i rec) (λs=>(s.1.left s.2.1).length) (λs=>J s.1 s.2.1∧s.2.2=m0.clock) (λ_ o=>o=some r) (λrec' s hI hr=>?_) n _ ⟨h0,rfl⟩ ?_
 ·obtain ⟨m,seen,last⟩:=s;obtain ⟨hJ,hlast⟩:=hI;simp only [] at hJ hlast hr;subst hlast;obtain ⟨hw,hc⟩:=hwf m seen hJ;simp only [model_judge_hidden.l4,stepM];have hold:m.old m0.clock m0.clock=true:=by
   simp only [GMap.old,yc,yu,yd];exact ⟨λe he=>by have:=hw.lt e he;omega,yk _⟩
  rw [hold];unfold grd;rw [if_pos rfl];cases hleft:m.left seen with
  | nil=>
   simp only [List.isEmpty_nil,if_true];exact hover m seen hJ hleft
  | cons x l=>
   rw [← hleft,if_neg (by rw [hleft];simp)]
   haveI:Globs:=⟨[]⟩
   refine chooseAll_all (by rw [hleft];simp) (λe he=>?_);have hem:e∈m.es:=(List.mem_filter.1 he).1;rw [if_pos (by simpa using hw.nd),ContainsFunc_LHide_api_Hide_eq (p:=λh=>h.table==e.2.1&&decide (h.to∈keysOf m)) (λh _=>by
    unfold model_judge_hidden_1;rw [hw.get]) hh hn,ya]
   have hst:=hstep m seen e hJ he;cases hb:(j.model.hides.any λh=>h.table==e.2.1&&decide (h.to∈keysOf m)) with
   | true=>
    rw [hb] at hst;rw [if_neg (by simp)];exact hr (m,seen++[e.1],m.clock) ⟨hst,hc⟩ (left_less he (List.Sublist.refl _))
   | false=>
    rw [hb] at hst;rw [if_pos (by simp)];exact hr (m.del e.2.1,seen++[e.1],m.clock) ⟨hst,hc⟩ (left_less he (hw.del hem).2.2.2.1)
 ·have:(m0.left []).length≤m0.es.length:=List.length_filter_le _ _;simp only [];omega
theorem nodup_map_inj {α β:Type} {f:α→β}:∀ {l:List α},(l.map f).Nodup→∀ x∈l,∀ y∈l,f x=f y→x=y
 | [],_,x,hx,_,_,_=>by simp at hx
 | a::l,h,x,hx,y,hy,e=>by
  simp only [yI,List.nodup_cons,yY,not_exists,not_and] at h;simp only [yJ] at hx hy;rcases hx with rfl | hx <;> rcases hy with rfl | hy
  ·rfl
  ·exact absurd e.symm (h.1 y hy)
  ·exact absurd e (h.1 x hx)
  ·exact nodup_map_inj h.2 x hx y hy e
theorem hidden_rounds {n:Nat} {j:Judge} {m:GMap Int Bool} (hn:1000000≤n) (hh:j.model.hides.length≤1000) (hok:∀ h∈j.model.hides,(0≤h.table∧h.table<(j.model.tables.length:Int)))
  (hw:WfM m) (hlen:m.es.length≤j.model.hides.length) (hk:∀ t,t∈keysOf m↔∃ h∈j.model.hides,h.table=t) :
  loopF (model_judge_hidden.l3 n j) n (m,0)=some (j.model.hides.all λh=>!leadsP j.model.hides j.model.tables.length h.to h.table):=by
 cases hac:(j.model.hides.all λh=>!leadsP j.model.hides j.model.tables.length h.to h.table) with
 | true=>
  have hac':∀ h∈j.model.hides,leadsP j.model.hides j.model.tables.length h.to h.table=false:=λh hm=>by
   have:=yu.1 hac h hm;simpa using this
  have hrange:∀ m':GMap Int Bool,(∀ t∈keysOf m',∃ h∈j.model.hides,h.table=t)→m'.es≠[]→∃ e∈m'.es,∀ h∈j.model.hides,¬ (h.table=e.2.1∧h.to∈keysOf m'):=λm' hm' hne=>by
   obtain ⟨t,ht,hs⟩:=sink_ex (hs:=j.model.hides) (T:=j.model.tables.length) (S:=keysOf m') (by simpa [keysOf] using hne) (λt ht=>by
    obtain ⟨h,hh,rfl⟩:=hm' t ht;exact hok h hh) hac'
   simp only [keysOf,yY] at ht;obtain ⟨e,he,rfl⟩:=ht;exact ⟨e,he,hs⟩
  refine loopF_I (body:=model_judge_hidden.l3 n j) (len:=j.model.hides.length) (st:=λm i=>(m,(i:Int))) (g:=λ_ _=>some true) (λi m=>WfM m∧m.es.length+i≤j.model.hides.length∧∀ t∈keysOf m,∃ h∈j.model.hides,h.table=t) (λrec i m hi hI hr=>?_) (λrec m hI=>?_) n 0 m (yw _) (by omega) ⟨hw,by omega,λt ht=>(hk t).1 ht⟩
  ·obtain ⟨h1,h2,h3⟩:=hI;simp only [model_judge_hidden.l3,lt_len hi,if_true];refine hidden_round (r:=true) (by omega) (by omega) (λm' seen=>(WfM m'∧m'.clock=m.clock∧∀ t∈keysOf m',∃ h∈j.model.hides,h.table=t)∧(m'.es.length+i+1≤j.model.hides.length∨(m'.es.length+i≤j.model.hides.length∧∃ e∈m'.left seen,∀ h∈j.model.hides,¬ (h.table=e.2.1∧h.to∈keysOf m')))) (λm' seen hJ=>⟨hJ.1.1,hJ.1.2.1⟩) (λm' seen hJ hl=>?_) (λm' seen e hJ he=>?_) ⟨⟨h1,rfl,h3⟩,?_⟩ (by omega)
   ·rw [add64_1 (by omega)];refine hr m' ⟨hJ.1.1,?_,hJ.1.2.2⟩;rcases hJ.2 with h | ⟨-,e,he,-⟩
    ·omega
    ·rw [hl] at he;cases he
   ·obtain ⟨⟨w1,w2,w3⟩,hd⟩:=hJ;have hem:e∈m'.es:=(List.mem_filter.1 he).1;obtain ⟨d1,d2,d3,d4,-⟩:=w1.del hem;cases hb:(j.model.hides.any λh=>h.table==e.2.1&&decide (h.to∈keysOf m')) with
    | true=>
     rw [if_pos rfl];refine ⟨⟨w1,w2,w3⟩,?_⟩;rcases hd with hd | ⟨hd,x,hx,hs⟩
     ·exact .inl hd
     ·refine .inr ⟨hd,x,?_,hs⟩;simp only [GMap.left,List.mem_filter] at hx ⊢;refine ⟨hx.1,?_⟩;have hne:x.1≠e.1:=λe1=>by
       have:x=e:=nodup_map_inj w1.nd x hx.1 e hem e1;subst this;simp only [ur,yc,beq_iff_eq,yd] at hb;obtain ⟨h,hh,q⟩:=hb;exact hs h hh q
      simp only [yz,List.contains_eq_mem,yD,yG,yK,not_or] at hx ⊢;exact ⟨hx.2,hne⟩
    | false=>
     rw [if_neg (by simp)];refine ⟨⟨d1,by omega,λt ht=>?_⟩,.inl ?_⟩
     ·refine w3 t ?_;simp only [keysOf,yY] at ht ⊢;obtain ⟨x,hx,rfl⟩:=ht;exact ⟨x,d4.subset hx,rfl⟩
     ·rcases hd with hd | ⟨hd,-⟩ <;> omega
   ·by_cases hne:m.es=[]
    ·left;rw [hne];simp;omega
    ·right;refine ⟨h2,?_⟩;obtain ⟨e,he,hs⟩:=hrange m h3 hne;exact ⟨e,by simp [GMap.left,he],hs⟩
  ·have:m.es.length=0:=by omega
   simp [model_judge_hidden.l3,this]
 | false=>
  obtain ⟨h0,hm0,hl0⟩:∃ h∈j.model.hides,leadsP j.model.hides j.model.tables.length h.to h.table=true:=by
   simp only [List.all_eq_false] at hac;obtain ⟨h,hm,hx⟩:=hac;exact ⟨h,hm,by simpa using hx⟩
  have hclosed:∀ t,((∃ k,leadsP j.model.hides k h0.to t=true)∧∃ k,leadsP j.model.hides k t h0.table=true)→∃ h∈j.model.hides,h.table=t∧((∃ k,leadsP j.model.hides k h0.to h.to=true)∧∃ k,leadsP j.model.hides k h.to h0.table=true):=by
   rintro t ⟨⟨a,ha⟩,b,hb⟩;have hcase:t=h0.table∨∃ h∈j.model.hides,h.table=t∧∃ k,leadsP j.model.hides k h.to h0.table=true:=by
    cases b with
    | zero=>left;simpa [leadsP] using hb
    | succ b=>
     simp only [leadsP,yr,beq_iff_eq,ur,yc] at hb;rcases hb with hb | ⟨h,hm,e,hx⟩
     ·exact .inl hb
     ·exact .inr ⟨h,hm,e,b,hx⟩
   rcases hcase with rfl | ⟨h,hm,rfl,k,hx⟩
   ·exact ⟨h0,hm0,rfl,⟨0,leadsP_refl⟩,_,hl0⟩
   ·exact ⟨h,hm,rfl,⟨_,leadsP_snoc hm ha⟩,k,hx⟩
  generalize hC:(λt=>(∃ k,leadsP j.model.hides k h0.to t=true)∧∃ k,leadsP j.model.hides k t h0.table=true)=C at *;have hC':∀ t,C t→∃ h∈j.model.hides,h.table=t∧C h.to:=by
   intro t ht;rw [← hC] at ht ⊢;exact hclosed t ht
  have hCs:C h0.to:=by rw [← hC];exact ⟨⟨0,leadsP_refl⟩,_,hl0⟩
  refine loopF_I (body:=model_judge_hidden.l3 n j) (len:=j.model.hides.length) (st:=λm i=>(m,(i:Int))) (g:=λ_ _=>some false) (λi m=>WfM m∧m.es.length≤1000∧∀ t,C t→t∈keysOf m) (λrec i m hi hI hr=>?_) (λrec m hI=>?_) n 0 m (yw _) (by omega) ⟨hw,by omega,λt ht=>(hk t).2 (by
   obtain ⟨h,hh,e,-⟩:=hC' t ht;exact ⟨h,hh,e⟩)⟩
  ·obtain ⟨h1,h2,h3⟩:=hI;simp only [model_judge_hidden.l3,lt_len hi,if_true];refine hidden_round (r:=false) (by omega) (by omega) (λm' seen=>WfM m'∧m'.clock=m.clock∧m'.es.length≤1000∧∀ t,C t→t∈keysOf m') (λm' seen hJ=>⟨hJ.1,hJ.2.1⟩) (λm' seen hJ hl=>?_) (λm' seen e hJ he=>?_) ⟨h1,rfl,h2,h3⟩ (by omega)
   ·rw [add64_1 (by omega)];exact hr m' ⟨hJ.1,hJ.2.2⟩
   ·obtain ⟨w1,w2,w3,w4⟩:=hJ;have hem:e∈m'.es:=(List.mem_filter.1 he).1;obtain ⟨d1,d2,d3,-,d5⟩:=w1.del hem;cases hb:(j.model.hides.any λh=>h.table==e.2.1&&decide (h.to∈keysOf m')) with
    | true=>
     rw [if_pos rfl];exact ⟨w1,w2,w3,w4⟩
    | false=>
     rw [if_neg (by simp)];refine ⟨d1,by omega,by omega,λt ht=>d5 t (w4 t ht) λe1=>?_⟩;obtain ⟨h,hh,hht,hto⟩:=hC' t ht;have:=List.any_eq_false.1 hb h hh;apply this;simp only [yc,beq_iff_eq,yd];exact ⟨by omega,w4 _ hto⟩
  ·obtain ⟨-,-,h3⟩:=hI;have:=h3 _ hCs;have hne:m.es.length≠0:=λe=>by
    simp only [keysOf,List.length_eq_zero_iff.1 e,List.map_nil,List.not_mem_nil] at this
   simp only [model_judge_hidden.l3,ge_len,ym,if_false,yg,uc];omega
theorem model_hidden_eq {n m l} (hn:1000000≤n) (hS:SmallM m):model_judge_hidden n ⟨m,l⟩=some (hidesP m):=by
 have hhl:=hS.hides;have htl:=hS.tables;unfold model_judge_hidden hidesP;rw [if_neg (by simp;omega),decide_eq_true hhl,yy];have:=loopF_lall (body:=model_judge_hidden.l1 n ⟨m,l⟩) (l:=m.hides) (n:=n) (st:=λi=>(i:Int)) (hideP m) (some false) (loopF (model_judge_hidden.l2 n ⟨m,l⟩) n (GMap.empty,0)) (λrec i hi=>?_) (λrec=>?_) (by omega)
 ·simp only [Int.natCast_zero] at this;rw [this];cases hall:m.hides.all (hideP m) with
  | false=>simp
  | true=>
   rw [if_pos rfl,yy];have hok:∀ h∈m.hides,(0≤h.table∧h.table<(m.tables.length:Int)):=λh hm=>by
    have:=yu.1 hall h hm;simp only [hideP,yc,yd] at this;exact this.1.1.1
   refine loopF_I (body:=model_judge_hidden.l2 n ⟨m,l⟩) (len:=m.hides.length) (st:=λg i=>(g,(i:Int))) (g:=λ_ _=>some (m.hides.all λh=>!leadsP m.hides m.tables.length h.to h.table)) (λi g=>WfM g∧g.es.length≤i∧∀ t,t∈keysOf g↔∃ h∈m.hides.take i,h.table=t) (λrec i g hi hI hr=>?_) (λrec g hI=>?_) n 0 GMap.empty (yw _) (by omega) ⟨WfM.empty,by simp [GMap.empty],λt=>by simp [keysOf,GMap.empty]⟩
   ·obtain ⟨h1,h2,h3⟩:=hI;obtain ⟨p1,p2,p3⟩:=h1.put m.hides[i].table;simp only [model_judge_hidden.l2,lt_len hi,if_true,idx_nat hi,ya,add64_1 (i:=i) (by omega)];refine hr _ ⟨p1,by omega,λt=>?_⟩;rw [p3,h3,yB hi];simp only [yG,yK];constructor
    ·rintro (⟨h,hm,e⟩ | e)
     ·exact ⟨h,.inl hm,e⟩
     ·exact ⟨_,.inr rfl,e.symm⟩
    ·rintro ⟨h,hm | rfl,e⟩
     ·exact .inl ⟨h,hm,e⟩
     ·exact .inr e.symm
   ·obtain ⟨h1,h2,h3⟩:=hI;simp only [model_judge_hidden.l2,ge_len,ym,if_false];exact hidden_rounds (j:=⟨m,l⟩) hn (by simp only [];omega) hok h1 h2 (λt=>by rw [h3,List.take_length])
 ·simp only [model_judge_hidden.l1,model_index,lt_len hi,if_true,idx_nat hi,ya,yi,yt,yh,add64_1 (i:=i) (by omega)];generalize m.hides[i]=h;by_cases hb:(((0≤h.table∧h.table<(m.tables.length:Int))∧(0≤h.to∧h.to<(m.tables.length:Int)))∧h.table≠h.to)
  ·simp only [grd,if_true];rw [if_neg (by simp [hb])];obtain ⟨t,u,ht,hu⟩:=hide_idx hb.1.1 hb.1.2;have hhp:hideP m h=(((t.kind==0)&&(u.kind==0))&&((decide (0≤h.column)&&decide (h.column<(t.columns.length:Int)))&&(((u.columns.length:Int)==1)&&((idx u.columns 0).getD default==(idx t.columns h.column).getD default)))):=by
    unfold hideP;rw [ht,hu];simp [hb]
   simp only [ht,hu,ya];rw [hhp];by_cases hk:(((t.kind==0)&&(u.kind==0))&&((decide (0≤h.column)&&decide (h.column<(t.columns.length:Int)))&&((u.columns.length:Int)==1)))=true
   ·have hk':=hk;simp only [yc,yd,beq_iff_eq] at hk';obtain ⟨⟨k1,k2⟩,⟨k3,k4⟩,k5⟩:=hk';obtain ⟨x,hx⟩:=idx_some (l:=u.columns) (i:=0) (by omega) (by omega);obtain ⟨y,hy⟩:=idx_some k3 k4;simp only [k1,k2,k3,k4,k5,hx,hy,yh,decide_true,beq_self_eq_true,bne_self_eq_false,yi,yt,Bool.or_false,yy,uI,y7,if_true];by_cases hxy:x=y
    ·simp [hxy]
    ·simp [hxy]
   ·have hf:(((((t.kind != 0)||(u.kind != 0))||(!(decide (0≤h.column)&&decide (h.column<(t.columns.length:Int)))))||((u.columns.length:Int) != 1)))=true:=by
     simp only [yc,yd,beq_iff_eq] at hk;simp only [yr,bne_iff_ne,yz,uh,yD];omega
    simp only [hf,uB,if_true];rw [← Bool.and_assoc (decide (0≤h.column)&&decide (h.column<(t.columns.length:Int))),← Bool.and_assoc];simp only [yH] at hk;rw [hk];rfl
  ·have hhp:hideP m h=false:=by
    unfold hideP;cases hx:(((decide (0≤h.table)&&decide (h.table<(m.tables.length:Int)))&&(decide (0≤h.to)&&decide (h.to<(m.tables.length:Int))))&&(h.table != h.to)) with
    | false=>rfl
    | true=>
     simp only [yc,yd,bne_iff_ne] at hx;exact absurd hx hb
   rw [hhp];simp only [grd,if_true];rw [if_pos (by
    simp only [yr,yz,uh,yD,beq_iff_eq];omega)]
   rfl
 ·simp [model_judge_hidden.l1]
def validP (m:Model):Bool:=(layoutP m.sorts m.tables&&(decide (m.families.length≤24)&&distP [] m.families))&&(consP m (rangesP m.sorts true m.tables)&&(opsP m&&(actsP m (rangesP m.sorts true m.tables).length&&hidesP m)))
theorem model_Valid_eq {n m} (hF:Fuel n) (hS:SmallM m):model_Valid n m=some (validP m):=by
 have hn:=hF.big;have hs:=hS.sorts;have ht:=hS.tables;have hf:=hS.families;have hcs:∀ t∈m.tables,t.columns.length≤1000:=λt h=>by have:=hS.tab t h;omega
 unfold model_Valid validP;rw [cells_Valid_eq hF (by omega) (by omega) hcs,model_distinct_eq hF (by omega)];simp only [ya,yi,yt,grd,if_true,yh];have e1:decide (24<(m.families.length:Int)) = !decide (m.families.length≤24):=by rw [← decide_not];exact decide_eq_decide.2 (by omega)
 rw [e1];cases hL:layoutP m.sorts m.tables with
 | false=>simp
 | true=>
  by_cases hd:(decide (m.families.length≤24)&&distP [] m.families)=true
  ·rw [hd];simp only [yc] at hd;rw [hd.1,hd.2,if_neg (by simp),cells_Ranges_eq hF (by omega) (by omega) hcs,hL];simp only [if_true,ya];obtain ⟨l1,l2,l3,l4⟩:=layoutP_tab hL;have hlen:=rangesP_len (sizes:=m.sorts) (s:=true) (l:=m.tables) λx hx=>(l4 x hx).2.2.2.2
   rw [model_constraints_eq hS (λt ht=>(l4 t ht).2.2.2.1) (by omega) (by omega),model_operations_eq hF hS,model_hidden_eq (by omega) hS];simp only [ya,yi,yh,yt,if_true];cases consP m (rangesP m.sorts true m.tables) with
   | false=>simp
   | true=>
    cases hO:opsP m with
    | false=>simp
    | true=>
     rw [model_actions_eq hF hS hO];simp
  ·have h2:(!true||!decide (m.families.length≤24)||!distP [] m.families)=true:=by
    simp only [yc,not_and,yH] at hd;cases h1:decide (m.families.length≤24) with
    | false=>rfl
    | true=>rw [hd h1];rfl
   rw [if_pos h2];simp only [yH] at hd;rw [hd];rfl
theorem ref13_Valid_eq {n m} (hn:4294967296≤n) (hS:SmallM m):ref13_Valid n m=some (validP m):=by
 have hs:=hS.sorts;have ht:=hS.tables;have hf:=hS.families;have hcs:∀ t∈m.tables,t.columns.length≤1000∧t.name.length≤4096:=λt h=>by have:=hS.tab t h;omega
 unfold ref13_Valid validP;rw [ref09_Valid_eq (by omega) (by omega) (by omega) hcs,ref13_distinct_eq (by omega) (by omega) (λw hw=>by have:=hS.fam w hw;omega)];simp only [ya,yi,yt,grd,if_true,yh];have e1:decide (24<(m.families.length:Int)) = !decide (m.families.length≤24):=by rw [← decide_not];exact decide_eq_decide.2 (by omega)
 rw [e1];cases hL:layoutP m.sorts m.tables with
 | false=>simp
 | true=>
  by_cases hd:(decide (m.families.length≤24)&&distP [] m.families)=true
  ·rw [hd];simp only [yc] at hd;rw [hd.1,hd.2,if_neg (by simp),ref13_constraints_eq hS hL (by omega),ref13_actions_eq (by omega) hS hL,ref13_hidden_eq hn hS];simp only [ya,yi,yh,yt,if_true,yy];simp only [Bool.and_assoc]
  ·have h2:(!true||!decide (m.families.length≤24)||!distP [] m.families)=true:=by
    simp only [yc,not_and,yH] at hd;cases h1:decide (m.families.length≤24) with
    | false=>rfl
    | true=>rw [hd h1];rfl
   rw [if_pos h2];simp only [yH] at hd;rw [hd];rfl
def lensP (m:Model):Bool:=(((((((decide (8<(m.sorts.length:Int)))||(decide (6<(m.tables.length:Int))))||(decide (20<(m.families.length:Int))))||(decide (60<(m.constraints.length:Int))))||(decide (8<(m.operations.length:Int))))||(decide (30<(m.actions.length:Int))))||(decide (12<(m.hides.length:Int))))
def tabF (t:Table):Bool:=decide (t.name.length≤40)&&decide (t.columns.length≤12)
def opF (o:Operation):Bool:=decide (o.name.length≤40)&&decide (o.sorts.length≤6)
def actF (a:Action):Bool:=((decide (a.arguments.length≤6)&&decide (a.effect.delta.length≤20))&&(decide (a.effect.hold.length≤10)&&decide (a.effect.updates.length≤40)))&&a.effect.hold.all λr=>decide (r.terms.length≤20)
def boundedP (m:Model):Bool:=!lensP m&&(m.tables.all tabF&&(m.families.all (λs=>decide (s.length≤40))&&(m.constraints.all (λc=>decide (c.row.terms.length≤20))&&(m.operations.all opF&&m.actions.all actF))))
theorem not_lt_le {a b:Nat}:decide ((a:Int)<(b:Int)) = !decide (b≤a):=by rw [← decide_not];exact decide_eq_decide.2 (by omega)
theorem ref13_Bounded_eq {n:Nat} {m:Model} (hn:1000000≤n):ref13_Bounded n m=some (boundedP m):=by
 unfold ref13_Bounded boundedP;have hl:(((((((decide (8<(m.sorts.length:Int)))||(decide (6<(m.tables.length:Int))))||(decide (20<(m.families.length:Int))))||(decide (60<(m.constraints.length:Int))))||(decide (8<(m.operations.length:Int))))||(decide (30<(m.actions.length:Int))))||(decide (12<(m.hides.length:Int))))=lensP m:=rfl;rw [hl];cases hlen:lensP m with
 | true=>simp [grd]
 | false=>
  simp only [lensP,uf,yD] at hlen;obtain ⟨⟨⟨⟨⟨⟨b1,b2⟩,b3⟩,b4⟩,b5⟩,b6⟩,b7⟩:=hlen;have hfew:ref09_Few n m.sorts m.tables=some (m.tables.all tabF):=by
   have:=loopF_lall (body:=ref09_Few.l1 n m.sorts m.tables) (l:=m.tables) (n:=n) (st:=λi=>(i:Int)) tabF (some false) (some true) (λrec i hi=>?_) (λrec=>?_) (by omega)
   ·simp only [Int.natCast_zero] at this;unfold ref09_Few;rw [this];cases m.tables.all tabF <;> rfl
   ·simp only [ref09_Few.l1,lt_len hi,if_true,idx_nat hi,ya,yi,yt,grd,yh,add64_1 (i:=i) (by omega)];unfold tabF;by_cases h1:m.tables[i].name.length≤40
    ·by_cases h2:m.tables[i].columns.length≤12
     ·rw [if_neg (by simp;omega),if_pos (by simp [h1,h2])]
     ·rw [if_pos (by simp;omega),if_neg (by simp [h2])]
    ·rw [if_pos (by simp;omega),if_neg (by simp [h1])]
   ·simp [ref09_Few.l1];omega
  rw [hfew];simp only [yi,yt,grd,if_true,yh,ud,uu,yy];cases m.tables.all tabF with
  | false=>simp
  | true=>
   rw [if_neg (by simp),yy];have h4:loopF (ref13_Bounded.l4 n m) n 0=some (m.actions.all actF):=by
    have:=loopF_lall (body:=ref13_Bounded.l4 n m) (l:=m.actions) (n:=n) (st:=λi=>(i:Int)) actF (some false) (some true) (λrec i hi=>?_) (λrec=>?_) (by omega)
    ·simp only [Int.natCast_zero] at this;rw [this];cases m.actions.all actF <;> rfl
    ·simp only [ref13_Bounded.l4,lt_len hi,if_true,idx_nat hi,ya];unfold actF;by_cases hx:((decide (m.actions[i].arguments.length≤6)&&decide (m.actions[i].effect.delta.length≤20))&&(decide (m.actions[i].effect.hold.length≤10)&&decide (m.actions[i].effect.updates.length≤40)))=true
     ·rw [hx,yy];simp only [yc,yd] at hx;rw [if_neg (by simp;omega)];have:=loopF_lall (body:=ref13_Bounded.l5 n i rec m.actions[i]) (l:=m.actions[i].effect.hold) (n:=n) (st:=λk=>(k:Int)) (λr=>decide (r.terms.length≤20)) (some false) (rec ((i+1:Nat):Int)) (λrec' k hk=>?_) (λrec'=>?_) (by omega)
      ·simpa using this
      ·simp only [ref13_Bounded.l5,lt_len hk,if_true,idx_nat hk,ya,add64_1 (i:=k) (by omega)];by_cases h:m.actions[i].effect.hold[k].terms.length≤20
       ·rw [if_neg (by simp;omega),if_pos (by simp [h])]
       ·rw [if_pos (by simp;omega),if_neg (by simp [h])]
      ·simp only [ref13_Bounded.l5,ge_len,ym,if_false,add64_1 (i:=i) (by omega)]
     ·rw [if_pos (by
       simp only [yc,yd] at hx;simp only [yr,yd];omega)]
      simp only [yH] at hx;rw [hx,yV,if_neg (by simp)]
    ·simp [ref13_Bounded.l4]
   have h3:loopF (ref13_Bounded.l3 n m) n 0=some (m.operations.all opF&&m.actions.all actF):=by
    have:=loopF_lall (body:=ref13_Bounded.l3 n m) (l:=m.operations) (n:=n) (st:=λi=>(i:Int)) opF (some false) (some (m.actions.all actF)) (λrec i hi=>?_) (λrec=>?_) (by omega)
    ·simp only [Int.natCast_zero] at this;rw [this];cases m.operations.all opF <;> rfl
    ·simp only [ref13_Bounded.l3,lt_len hi,if_true,idx_nat hi,ya,yi,yt,grd,yh,add64_1 (i:=i) (by omega)];unfold opF;by_cases h1:m.operations[i].name.length≤40
     ·by_cases h2:m.operations[i].sorts.length≤6
      ·rw [if_neg (by simp;omega),if_pos (by simp [h1,h2])]
      ·rw [if_pos (by simp;omega),if_neg (by simp [h2])]
     ·rw [if_pos (by simp;omega),if_neg (by simp [h1])]
    ·simp only [ref13_Bounded.l3,ge_len,ym,if_false,h4]
   have h2:loopF (ref13_Bounded.l2 n m) n 0=some (m.constraints.all (λc=>decide (c.row.terms.length≤20))&&(m.operations.all opF&&m.actions.all actF)):=by
    have:=loopF_lall (body:=ref13_Bounded.l2 n m) (l:=m.constraints) (n:=n) (st:=λi=>(i:Int)) (λc=>decide (c.row.terms.length≤20)) (some false) (some (m.operations.all opF&&m.actions.all actF)) (λrec i hi=>?_) (λrec=>?_) (by omega)
    ·simp only [Int.natCast_zero] at this;rw [this];cases m.constraints.all (λc=>decide (c.row.terms.length≤20)) <;> rfl
    ·simp only [ref13_Bounded.l2,lt_len hi,if_true,idx_nat hi,ya,add64_1 (i:=i) (by omega)];by_cases h:m.constraints[i].row.terms.length≤20
     ·rw [if_neg (by simp;omega),if_pos (by simp [h])]
     ·rw [if_pos (by simp;omega),if_neg (by simp [h])]
    ·simp only [ref13_Bounded.l2,ge_len,ym,if_false,h3]
   have:=loopF_lall (body:=ref13_Bounded.l1 n m) (l:=m.families) (n:=n) (st:=λi=>(i:Int)) (λs=>decide (s.length≤40)) (some false) (some (m.constraints.all (λc=>decide (c.row.terms.length≤20))&&(m.operations.all opF&&m.actions.all actF))) (λrec i hi=>?_) (λrec=>?_) (by omega)
   ·simp only [Int.natCast_zero] at this;rw [this];cases m.families.all (λs=>decide (s.length≤40)) <;> rfl
   ·simp only [ref13_Bounded.l1,lt_len hi,if_true,idx_nat hi,ya,add64_1 (i:=i) (by omega)];by_cases h:m.families[i].length≤40
    ·rw [if_neg (by simp;omega),if_pos (by simp [h])]
    ·rw [if_pos (by simp;omega),if_neg (by simp [h])]
   ·simp only [ref13_Bounded.l1,ge_len,ym,if_false,h2]
theorem boundedP_small {m:Model} (h:boundedP m=true):SmallM m:=by
 simp only [boundedP,lensP,tabF,opF,actF,yc,yz,uf,yD,yu,yd] at h;obtain ⟨⟨⟨⟨⟨⟨⟨b1,b2⟩,b3⟩,b4⟩,b5⟩,b6⟩,b7⟩,c1,c2,c3,c4,c5⟩:=h;exact ⟨by omega,by omega,c1,by omega,c2,by omega,c3,by omega,c4,by omega,λa ha=>by
  obtain ⟨⟨⟨p1,p2⟩,p3,p4⟩,p5⟩:=c5 a ha;exact ⟨p1,p2,p3,p4,p5⟩,by omega⟩
def prodP:Int→List Range→Bool
 | _,[]=>true
 | p,r::l=>!decide (4096<mul64 p (add64 (sub64 r.hi r.lo) 1))&&prodP (mul64 p (add64 (sub64 r.hi r.lo) 1)) l
def strictR (m:Model):List Range:=if layoutP m.sorts m.tables=true then rangesP m.sorts true m.tables else []
def fewP (m:Model):Bool:=((boundedP m&&decide (m.actions.length≤12))&&decide (m.constraints.length≤40))&&(m.actions.all (λa=>decide (a.effect.hold.length≤4))&&(decide ((strictR m).length≤12)&&prodP 1 (strictR m)))
theorem ref13_strict_eq {n:Nat} {m:Model} (hn:1000000≤n) (hS:SmallM m):ref13_strict n m=some (strictR m):=by
 have hs:=hS.sorts;have ht:=hS.tables;unfold ref13_strict;rw [ref09_Ranges_eq hn (by omega) (by omega) (λt h=>by have:=hS.tab t h;omega)];rfl
theorem strictR_len {m:Model} (hS:SmallM m):(strictR m).length≤2592:=by
 have ht:=hS.tables;unfold strictR;split
 ·rename_i hL;obtain ⟨l1,l2,l3,l4⟩:=layoutP_tab hL;have:=rangesP_len (sizes:=m.sorts) (s:=true) (l:=m.tables) λx hx=>(l4 x hx).2.2.2.2
  omega
 ·simp
theorem ref13_Few_eq {n:Nat} {m:Model} (hn:1000000≤n):ref13_Few n m=some (fewP m):=by
 unfold ref13_Few fewP;rw [ref13_Bounded_eq hn,ya];have e1:decide (12<(m.actions.length:Int)) = !decide (m.actions.length≤12):=not_lt_le (a:=12);have e2:decide (40<(m.constraints.length:Int)) = !decide (m.constraints.length≤40):=not_lt_le (a:=40);rw [e1,e2,← Bool.not_and,← Bool.not_and];cases hb:(boundedP m&&decide (m.actions.length≤12)&&decide (m.constraints.length≤40)) with
 | false=>simp
 | true=>
  simp only [yc,yd] at hb;have hS:=boundedP_small hb.1.1;have hsl:=strictR_len hS;have T:(if (decide (12<((strictR m).length:Int)))=true then some false else loopF (ref13_Few.l2 n (strictR m)) n (1,0))=some (decide ((strictR m).length≤12)&&prodP 1 (strictR m)):=by
   by_cases h:(strictR m).length≤12
   ·rw [if_neg (by simp;omega),decide_eq_true h,yy];refine loopF_I (body:=ref13_Few.l2 n (strictR m)) (len:=(strictR m).length) (st:=λ(p:Int) i=>(p,(i:Int))) (g:=λi p=>some (prodP p ((strictR m).drop i))) (λ_ _=>True) (λrec i p hi _ hr=>?_) (λrec p _=>?_) n 0 1 (yw _) (by omega) trivial
    ·simp only [ref13_Few.l2,lt_len hi,if_true,idx_nat hi,ya,add64_1 (i:=i) (by omega),hr _ trivial];rw [drop_cons hi,prodP];cases decide (4096<mul64 p (add64 (sub64 (strictR m)[i].hi (strictR m)[i].lo) 1)) <;> simp
    ·simp [ref13_Few.l2,prodP]
   ·rw [if_pos (by simp;omega),decide_eq_false h,yV]
  have:=loopF_lall (body:=ref13_Few.l1 n m) (l:=m.actions) (n:=n) (st:=λi=>(i:Int)) (λa=>decide (a.effect.hold.length≤4)) (some false) (some (decide ((strictR m).length≤12)&&prodP 1 (strictR m))) (λrec i hi=>?_) (λrec=>?_) (by omega)
  ·simp only [Int.natCast_zero] at this;rw [if_neg (by simp),this];cases m.actions.all (λa=>decide (a.effect.hold.length≤4)) <;> simp
  ·simp only [ref13_Few.l1,lt_len hi,if_true,idx_nat hi,ya,add64_1 (i:=i) (by omega)];by_cases h:m.actions[i].effect.hold.length≤4
   ·rw [if_neg (by simp;omega),if_pos (by simp [h])]
   ·rw [if_pos (by simp;omega),if_neg (by simp [h])]
  ·simp only [ref13_Few.l1,ge_len,ym,if_false,ref13_strict_eq hn hS,ya,T]
theorem fewP_small {m:Model} (h:fewP m=true):SmallM m:=by
 simp only [fewP,yc] at h;exact boundedP_small h.1.1.1
structure ValidM (m:Model):Prop where
 lay:layoutP m.sorts m.tables=true
 fams:m.families.length≤24∧distP [] m.families=true
 cons:consP m (rangesP m.sorts true m.tables)=true
 ops:opsP m=true
 acts:actsP m (rangesP m.sorts true m.tables).length=true
 hid:hidesP m=true
theorem validP_iff {m}:validP m=true↔ValidM m:=by
 simp only [validP,yc,yd];exact ⟨λ⟨⟨a,b,c⟩,d,e,f,g⟩=>⟨a,⟨b,c⟩,d,e,f,g⟩,λ⟨a,⟨b,c⟩,d,e,f,g⟩=>⟨⟨a,b,c⟩,d,e,f,g⟩⟩
def stepT (s:Nat) (L:List (List Int)):List (List Int):=L.flatMap λl=>(List.range s).map λe:Nat=>l++[(e:Int)]
def tuplesF (sizes:List Int):List Int→List (List Int)→List (List Int)
 | [],L=>L
 | c::cols,L=>tuplesF sizes cols (stepT (sizeAt sizes c).toNat L)
def tuplesP (sizes cols:List Int):List (List Int):=tuplesF sizes cols [[]]
theorem tuplesF_append (sizes):∀ (a b:List Int) (L:List (List Int)),tuplesF sizes (a++b) L=tuplesF sizes b (tuplesF sizes a L)
 | [],_,_=>rfl
 | _::a,b,L=>by simp only [yX,tuplesF];exact tuplesF_append sizes a b _
theorem stepT_append (s A B):stepT s (A++B)=stepT s A++stepT s B:=by simp [stepT]
theorem stepT_len {s L}:(stepT s L).length=L.length*s:=by
 induction L with
 | nil=>simp [stepT]
 | cons l L ih=>
  have:stepT s (l::L)=stepT s [l]++stepT s L:=stepT_append s [l] L;rw [this,yS,ih];simp [stepT,uy,Nat.add_comm]
theorem stepT_mem {s L k} (h:∀ l∈L,l.length=k):∀ l∈stepT s L,l.length=k+1:=λl hl=>by
 simp only [stepT,List.mem_flatMap,yY] at hl;obtain ⟨x,hx,e,-,rfl⟩:=hl;simp [h x hx]
theorem stepT_snoc {s:Nat} {L:List (List Int)} {i:Nat} (hi:i<L.length):stepT s (L.take (i+1))=stepT s (L.take i)++(List.range s).map λe:Nat=>L[i]++[(e:Int)]:=by
 rw [yB hi,stepT_append];congr 1;simp [stepT]
def placeP (i:Nat) (L:List (List Int)):List Place:=L.map λl=>⟨(i:Int),l⟩
def placesP (sizes:List Int) (s:Bool):List Table→Nat→List Place
 | [],_=>[]
 | t::l,i=>(if decide (t.kind≤1)=s then placeP i (tuplesP sizes t.columns) else [])++placesP sizes s l (i+1)
theorem placesP_append (sizes s):∀ (a b:List Table) (i:Nat),placesP sizes s (a++b) i=placesP sizes s a i++placesP sizes s b (i+a.length)
 | [],b,i=>by simp [placesP]
 | t::a,b,i=>by
  simp only [yX,placesP,placesP_append sizes s a b,yT,yW];rw [show i+1+a.length=i+(a.length+1) by omega]
theorem placesP_snoc {sizes:List Int} {s:Bool} {l:List Table} {i:Nat} (hi:i<l.length):placesP sizes s (l.take (i+1)) 0=placesP sizes s (l.take i) 0++(if decide (l[i].kind≤1)=s then placeP i (tuplesP sizes l[i].columns) else []):=by
 rw [yB hi,placesP_append];congr 1;simp only [placesP,ul,yN,uk];rw [show min i l.length=i by omega]
theorem open_l4 {n:Nat} {x40:Int} {rec:((List (List Int))×Int)→Option ((Option Layout)×Bool)} {l:List Int} {s:Nat} {b:List (List Int)} {k:Nat} (hk:add64 x40 1=(k:Int)) (hs:s≤6) (hl:l.length≤100) (hb:b.length≤100000) (hn:1000000≤n) :
  loopF (symmetry_open.l4 n x40 rec l (s:Int)) n (b,0)=rec (b++(List.range s).map λe:Nat=>l++[(e:Int)],(k:Int)):=by
 have:=loopF_g (body:=symmetry_open.l4 n x40 rec l (s:Int)) (len:=s) (st:=λi=>(b++(List.range i).map λe:Nat=>l++[(e:Int)],(i:Int))) (g:=λ_=>rec (b++(List.range s).map λe:Nat=>l++[(e:Int)],(k:Int))) (λrec' i hi hr=>?_) (λrec'=>?_) n 0 (yw _) (by omega)
 ·simpa using this
 ·rw [List.range_succ,ue,← yW] at hr;simp only [symmetry_open.l4,lt_nat hi,if_true,add64_1 (i:=i) (by omega)];rw [app_some (by simp;omega),ya,app_some (by simp;omega),ya,app_some (by simp;omega),ya];exact hr
 ·simp only [symmetry_open.l4,ge_nat (yk s),ym,if_false,hk]
theorem open_l3 {n:Nat} {m} {L:List (List Int)} {x34 x36:Int} {rec:((List (List Int))×Int)→Option ((Option Layout)×Bool)} {s k:Nat} (hk:add64 x34 1=(k:Int)) (hx:idx m.sorts x36=some (s:Int)) (hs:s≤6) (hl:∀ l∈L,l.length≤100) (hL:L.length≤1000) (hn:1000000≤n) :
  loopF (symmetry_open.l3 n m L x34 rec x36) n ([],0)=rec (stepT s L,(k:Int)):=by
 have:=loopF_g (body:=symmetry_open.l3 n m L x34 rec x36) (len:=L.length) (st:=λi=>(stepT s (L.take i),(i:Int))) (g:=λ_=>rec (stepT s L,(k:Int))) (λrec' i hi hr=>?_) (λrec'=>?_) n 0 (yw _) (by omega)
 ·simpa [stepT] using this
 ·rw [stepT_snoc hi] at hr;simp only [symmetry_open.l3,lt_len hi,if_true,idx_nat hi,ya,hx];have hlen:(stepT s (L.take i)).length≤100000:=by
   rw [stepT_len,yN];have:min i L.length*s≤1000*6:=Nat.mul_le_mul (by omega) hs;omega
  rw [open_l4 (k:=i+1) (add64_1 (by omega)) hs (hl _ (yA hi)) hlen hn];exact hr
 ·simp only [symmetry_open.l3,ge_len,ym,if_false,hk,List.take_length]
theorem open_l5 {n:Nat} {i:Nat} {rec:((List Place)×(List Place)×Int)→Option ((Option Layout)×Bool)} {t:Table} {L:List (List Int)} {b1 b2:List Place} (hi:i<1000000) (hL:L.length≤1000) (h1:b1.length≤100000) (h2:b2.length≤100000) (hn:1000000≤n) :
  loopF (symmetry_open.l5 n (i:Int) rec t L) n (b1,b2,0)=rec (b1++(if decide (t.kind≤1)=true then placeP i L else []),b2++(if decide (t.kind≤1)=false then placeP i L else []),((i+1:Nat):Int)):=by
 cases hk:decide (t.kind≤1) with
 | true=>
  simp only [if_true,Bool.true_eq_false,if_false,ul];have:=loopF_g (body:=symmetry_open.l5 n (i:Int) rec t L) (len:=L.length) (st:=λk=>(b1++placeP i (L.take k),b2,(k:Int))) (g:=λ_=>rec (b1++placeP i L,b2,((i+1:Nat):Int))) (λrec' k hk' hr=>?_) (λrec'=>?_) n 0 (yw _) (by omega)
  ·simpa [placeP] using this
  ·simp only [placeP] at hr ⊢;rw [← map_take_snoc hk',← yW] at hr;simp only [symmetry_open.l5,jn,lt_len hk',if_true,idx_nat hk',ya,hk,add64_1 (i:=k) (by omega)];rw [app_some (by simp;omega),ya];exact hr
  ·simp only [symmetry_open.l5,ge_len,ym,if_false,List.take_length,add64_1 (i:=i) (by omega)]
 | false=>
  simp only [ym,if_true,if_false,ul];have:=loopF_g (body:=symmetry_open.l5 n (i:Int) rec t L) (len:=L.length) (st:=λk=>(b1,b2++placeP i (L.take k),(k:Int))) (g:=λ_=>rec (b1,b2++placeP i L,((i+1:Nat):Int))) (λrec' k hk' hr=>?_) (λrec'=>?_) n 0 (yw _) (by omega)
  ·simpa [placeP] using this
  ·simp only [placeP] at hr ⊢;rw [← map_take_snoc hk',← yW] at hr;simp only [symmetry_open.l5,jn,lt_len hk',if_true,idx_nat hk',ya,hk,ym,if_false,add64_1 (i:=k) (by omega)];rw [app_some (by simp;omega),ya];exact hr
  ·simp only [symmetry_open.l5,ge_len,ym,if_false,List.take_length,add64_1 (i:=i) (by omega)]
theorem tuplesF_bound {sizes} (hs:sizes.all sizeOK=true):∀ (cols:List Int) (L:List (List Int)) (A k:Nat),cols.all (colOK sizes)=true→L.length≤A→(∀ l∈L,l.length=k)→(tuplesF sizes cols L).length≤A*6 ^ cols.length∧∀ l∈tuplesF sizes cols L,l.length=k+cols.length
 | [],L,A,k,_,h1,h2=>by simpa [tuplesF] using ⟨h1,h2⟩
 | c::cols,L,A,k,hc,h1,h2=>by
  simp only [um,yc] at hc;have hz:=sizeAt_ne hs hc.1;have hlen:(stepT (sizeAt sizes c).toNat L).length≤A*6:=by
   rw [stepT_len];exact Nat.mul_le_mul h1 (by omega)
  obtain ⟨p1,p2⟩:=tuplesF_bound hs cols (stepT (sizeAt sizes c).toNat L) (A*6) (k+1) hc.2 hlen (stepT_mem h2);simp only [tuplesF,yT];refine ⟨?_,λl hl=>?_⟩
  ·rw [uH,Nat.mul_comm (6 ^ cols.length) 6,← Nat.mul_assoc];exact p1
  ·rw [p2 l hl];omega
theorem tuplesP_bound {sizes cols} (hs:sizes.all sizeOK=true) (hc:cols.all (colOK sizes)=true) (h3:cols.length≤3):(tuplesP sizes cols).length≤216∧∀ l∈tuplesP sizes cols,l.length=cols.length:=by
 obtain ⟨p1,p2⟩:=tuplesF_bound hs cols [[]] 1 0 hc (by simp) (by simp);refine ⟨uj p1 ?_,λl hl=>by simpa using p2 l hl⟩;have:6 ^ cols.length≤6 ^ 3:=uv (by decide) h3;omega
theorem open_l2 {n:Nat} {m} {b1 b2:List Place} {i:Nat} {rec:((List Place)×(List Place)×Int)→Option ((Option Layout)×Bool)} {t:Table} (hs:m.sorts.all sizeOK=true) (hc:t.columns.all (colOK m.sorts)=true) (h3:t.columns.length≤3) (hi:i<1000000) (h1:b1.length≤100000) (h2:b2.length≤100000) (hn:1000000≤n) :
  loopF (symmetry_open.l2 n m b1 b2 (i:Int) rec t) n ([[]],0)=rec (b1++(if decide (t.kind≤1)=true then placeP i (tuplesP m.sorts t.columns) else []),b2++(if decide (t.kind≤1)=false then placeP i (tuplesP m.sorts t.columns) else []),((i+1:Nat):Int)):=by
 have hpre:∀ k,(t.columns.take k).all (colOK m.sorts)=true:=λk=>yu.2 λc hm=>yu.1 hc c (List.mem_of_mem_take hm)
 have:=loopF_g (body:=symmetry_open.l2 n m b1 b2 (i:Int) rec t) (len:=t.columns.length) (st:=λk=>(tuplesP m.sorts (t.columns.take k),(k:Int))) (g:=λ_=>rec (b1++(if decide (t.kind≤1)=true then placeP i (tuplesP m.sorts t.columns) else []),b2++(if decide (t.kind≤1)=false then placeP i (tuplesP m.sorts t.columns) else []),((i+1:Nat):Int))) (λrec' k hk hr=>?_) (λrec'=>?_) n 0 (yw _) (by omega)
 ·simpa [tuplesP,tuplesF] using this
 ·have hcol:=yu.1 hc _ (yA hk);have hz:=sizeAt_ne hs hcol;obtain ⟨p1,p2⟩:=tuplesP_bound hs (hpre k) (by simp;omega);have hsz:idx m.sorts t.columns[k]=some (((sizeAt m.sorts t.columns[k]).toNat:Nat):Int):=by
   rw [idx_col hcol];unfold sizeAt at hz ⊢;congr 1;omega
  simp only [symmetry_open.l2,lt_len hk,if_true,idx_nat hk,ya];rw [open_l3 (k:=k+1) (add64_1 (by omega)) hsz (by omega) (λl hl=>by rw [p2 l hl];simp;omega) (by omega) hn,← hr];congr 2;unfold tuplesP;rw [yB hk,tuplesF_append];rfl
 ·obtain ⟨p1,-⟩:=tuplesP_bound hs hc h3;simp only [symmetry_open.l2,ge_len,ym,if_false,List.take_length];exact open_l5 hi (by omega) h1 h2 hn
theorem placesP_len {sizes s}:∀ {l:List Table} {i:Nat},(∀ t∈l,(tuplesP sizes t.columns).length≤216)→(placesP sizes s l i).length≤l.length*216
 | [],_,_=>by simp [placesP]
 | t::l,i,h=>by
  have ih:=placesP_len (s:=s) (l:=l) (i:=i+1) λx hx=>h x (by simp [hx])
  have ht:=h t (by simp);simp only [placesP,yS,yT];split
  ·simp only [placeP,yQ];omega
  ·simp only [uw];omega
def layoutM (m:Model):Layout:=⟨m,placesP m.sorts true m.tables 0,placesP m.sorts false m.tables 0⟩
theorem symmetry_open_eq {n:Nat} {m} (hF:Fuel n) (hS:SmallM m):symmetry_open n m=some (if validP m=true then (some (layoutM m),true) else (none,false)):=by
 have hn:=hF.big;have htl:=hS.tables;unfold symmetry_open;rw [model_Valid_eq hF hS,ya];cases hv:validP m with
 | false=>simp
 | true=>
  have hV:=validP_iff.1 hv;obtain ⟨l1,l2,l3,l4⟩:=layoutP_tab hV.lay;have hb:∀ t∈m.tables,(tuplesP m.sorts t.columns).length≤216:=λt ht=>(tuplesP_bound l3 (l4 t ht).2.2.2.1 (l4 t ht).2.2.1).1
  rw [if_neg (by simp),if_pos rfl];have:=loopF_g (body:=symmetry_open.l1 n m) (len:=m.tables.length) (st:=λi=>(placesP m.sorts true (m.tables.take i) 0,placesP m.sorts false (m.tables.take i) 0,(i:Int))) (g:=λ_=>some (some (layoutM m),true)) (λrec i hi hr=>?_) (λrec=>?_) n 0 (yw _) (by omega)
  ·simpa [placesP] using this
  ·have hmem:=yA hi;obtain ⟨-,-,c1,c2,-⟩:=l4 _ hmem;have hA:=placesP_len (s:=true) (l:=m.tables.take i) (i:=0) λt ht=>hb t (List.mem_of_mem_take ht)
   have hB:=placesP_len (s:=false) (l:=m.tables.take i) (i:=0) λt ht=>hb t (List.mem_of_mem_take ht)
   simp only [yN] at hA hB;rw [placesP_snoc hi,placesP_snoc hi] at hr;simp only [symmetry_open.l1,lt_len hi,if_true,idx_nat hi,ya];rw [open_l2 l3 c2 c1 (by omega) (by omega) (by omega) (by omega)];exact hr
  ·simp [symmetry_open.l1,layoutM]
def questP (m:Model) (q:Question):Bool:=
 (((decide (0≤q.e)&&decide (q.e<(m.actions.length:Int)))&&(decide (0≤q.f)&&decide (q.f<(m.actions.length:Int))))&&decide (0≤q.target.index)) &&
 (if q.target.hold=true then decide (q.target.index<(((idx m.actions q.e).getD default).effect.hold.length:Int)) else decide (q.e≤q.f)&&decide (q.target.index<(m.constraints.length:Int)))
theorem quest_body {m q}:(if (((((decide (q.e<0))||(decide (q.f<0)))||(decide ((m.actions.length:Int)≤q.e)))||(decide ((m.actions.length:Int)≤q.f)))||(decide (q.target.index<0)))=true then some false
 else if q.target.hold=true then (idx m.actions q.e).bind λx=>some (decide (q.target.index<(x.effect.hold.length:Int))) else some ((decide (q.e≤q.f))&&(decide (q.target.index<(m.constraints.length:Int)))))=some (questP m q):=by
 unfold questP;by_cases h:((0≤q.e∧q.e<(m.actions.length:Int))∧(0≤q.f∧q.f<(m.actions.length:Int)))∧0≤q.target.index
 ·rw [if_neg (by simp;omega)];obtain ⟨a,ha⟩:=idx_some h.1.1.1 h.1.1.2;rw [ha];simp only [h,decide_true,uI,yy,ya,yh];split <;> rfl
 ·rw [if_pos (by simp;omega)];have:(((decide (0≤q.e)&&decide (q.e<(m.actions.length:Int)))&&(decide (0≤q.f)&&decide (q.f<(m.actions.length:Int))))&&decide (0≤q.target.index))=false:=by
   rw [← yH];simp only [yc,yd];exact h
  rw [this,yV]
theorem symmetry_Valid_eq {n m q} (hF:Fuel n) (hS:SmallM m):symmetry_Valid n m q=some (validP m&&questP m q):=by
 unfold symmetry_Valid;rw [symmetry_open_eq hF hS,ya];cases validP m with
 | false=>simp [grd]
 | true=>
  have:symmetry_layout_valid n (layoutM m) q=some (questP m q):=quest_body;simp [grd,this]
theorem ref16_Valid_eq {n m q} (hn:4294967296≤n) (hS:SmallM m):ref16_Valid n m q=some (validP m&&questP m q):=by
 unfold ref16_Valid;rw [ref13_Valid_eq hn hS,ya];cases validP m with
 | false=>simp
 | true=>
  simp only [y7,ud,yy];exact quest_body
theorem awake_spec:law24_awake 18446744073709551616=some true:=by decide +kernel
theorem keywords_spec:(lexer_keywords 18446744073709551616).map (λm=>m.es.map (λe=>e.2))=some (kwL.map λk=>(k,true)):=by decide +kernel
theorem fuel_N:Fuel 18446744073709551616:=by
 refine ⟨by decide,?_⟩;have h:=keywords_spec;cases hk:lexer_keywords 18446744073709551616 with
 | none=>rw [hk] at h;cases h
 | some m=>
  rw [hk] at h;simp only [yM,yg] at h;refine ⟨m,rfl,λe he=>?_,λk=>?_⟩
  ·have:e.2∈m.es.map (λe=>e.2):=List.mem_map_of_mem he;rw [h] at this;simp only [yY] at this;obtain ⟨x,-,hx⟩:=this;rw [← hx]
  ·have:m.es.map (λe=>e.2.1)=kwL:=by
    have e1:m.es.map (λe=>e.2.1)=(m.es.map (λe=>e.2)).map (·.1):=by rw [uE];rfl
    rw [e1,h,uE];exact List.map_id kwL
   rw [this]
theorem questP_spec {m q} (h:questP m q=true):(0≤q.e∧q.e<(m.actions.length:Int))∧(0≤q.f∧q.f<(m.actions.length:Int))∧0≤q.target.index∧(q.target.hold=true→∀ a,idx m.actions q.e=some a→q.target.index<(a.effect.hold.length:Int))∧(q.target.hold=false→q.e≤q.f∧q.target.index<(m.constraints.length:Int)):=by
 simp only [questP,yc,yd] at h;obtain ⟨⟨⟨h1,h2⟩,h3⟩,h4⟩:=h;refine ⟨h1,h2,h3,λhh a ha=>?_,λhh=>?_⟩
 ·rw [if_pos hh,ha] at h4;simpa using h4
 ·rw [if_neg (by simp [hh])] at h4;simpa using h4
def inBox:List Range→List Int→Bool
 | r::rs,x::xs=>(decide (r.lo≤x)&&decide (x≤r.hi))&&inBox rs xs
 | [],[]=>true
 | _,_=>false
def termOK (k:Nat) (t:Term):Prop:=0≤t.cell∧t.cell<(k:Int)∧-1000≤t.factor∧t.factor≤1000
structure GraphIn (c:Constraint) (s:List Int) (size:Nat):Prop where
 sz:c.size=(size:Int)
 pos:1≤size
 six:size≤6
 first:0≤c.first
 fits:c.first+(size*size:Nat)≤(s.length:Int)
 len:s.length≤1000
inductive ConIn (c:Constraint) (k:Nat):Prop
 | row:c.kind=0→(∀ t∈c.row.terms,termOK k t)→c.row.terms.length≤1000→(-4000000000≤c.row.bound∧c.row.bound≤4000000000)→ConIn c k
 | graph (size:Nat):c.kind=1→c.size=(size:Int)→1≤size→size≤6→0≤c.first→c.first+(size*size:Nat)≤(k:Int)→ConIn c k

def boxM (m:Model):List Range:=rangesP m.sorts true m.tables
def smallD (d:List Change):Prop:=∀ x∈d,-1000000000≤x.add∧x.add≤1000000000
theorem ref16_Cells_eq {n m t} (hc:t.columns.all (colOK m.sorts)=true) (hl:t.columns.length≤1000) (hn:1000000≤n):ref16_Cells n m t=some (widthP m.sorts t.columns 1):=by
 have:=loopF_g (body:=ref16_Cells.l1 n m t) (len:=t.columns.length) (st:=λi=>(widthP m.sorts (t.columns.take i) 1,(i:Int))) (g:=λ_=>some (widthP m.sorts t.columns 1)) (λrec i hi hr=>?_) (λrec=>?_) n 0 (yw _) (by omega)
 ·simpa [ref16_Cells,widthP] using this
 ·rw [yB hi,widthP_append] at hr;simp only [widthP] at hr;simp only [ref16_Cells.l1,lt_len hi,if_true,idx_nat hi,ya,idx_col (yu.1 hc _ (yA hi)),add64_1 (i:=i) (by omega),hr]
 ·simp [ref16_Cells.l1]
theorem ref16_Total_eq {n m} (hL:layoutP m.sorts m.tables=true) (hn:1000000≤n):ref16_Total n m=some ((boxM m).length:Int):=by
 obtain ⟨l1,l2,l3,l4⟩:=layoutP_tab hL;unfold ref16_Total;have:=loopF_g (body:=ref16_Total.l1 n m) (len:=m.tables.length) (st:=λi=>(((rangesP m.sorts true (m.tables.take i)).length:Int),(i:Int))) (g:=λ_=>some ((boxM m).length:Int)) (λrec i hi hr=>?_) (λrec=>?_) n 0 (yw _) (by omega)
 ·simpa [rangesP] using this
 ·obtain ⟨-,-,c1,c2,c3,c4⟩:=l4 _ (yA hi);have hlen:=rangesP_len (sizes:=m.sorts) (s:=true) (l:=m.tables.take i) λx hx=>(l4 x (List.mem_of_mem_take hx)).2.2.2.2
  simp only [yN] at hlen;rw [rangesP_snoc hi] at hr;have hcell:=ref16_Cells_eq (n:=n) (m:=m) (t:=m.tables[i]) c2 (by omega) hn;simp only [ref16_Total.l1,jn,lt_len hi,if_true,idx_nat hi,ya,ref16_Strict,hcell,add64_1 (i:=i) (by omega)];by_cases hst:(m.tables[i].kind==0||m.tables[i].kind==1)=true
  ·have hst':(strictP m.tables[i].kind==true)=true:=by simpa [strictP] using hst
   rw [if_pos hst'] at hr;rw [if_pos hst];have e:add64 ((rangesP m.sorts true (m.tables.take i)).length:Int) (widthP m.sorts m.tables[i].columns 1)=((rangesP m.sorts true (m.tables.take i)++List.replicate (widthP m.sorts m.tables[i].columns 1).toNat m.tables[i].range).length:Int):=by
    unfold add64;rw [w64_id (by omega) (by omega),yS,un];omega
   rw [e];exact hr
  ·have hst':¬ (strictP m.tables[i].kind==true)=true:=by simpa [strictP] using hst
   rw [if_neg hst'] at hr;rw [if_neg hst];exact hr
 ·simp [ref16_Total.l1,boxM]
structure StateOK (m:Model) (s:List Int):Prop where
 len:s.length=(boxM m).length
 small:∀ x∈s,-9999≤x∧x≤9999

structure GraphOK (g:DGraph) (K:Nat):Prop where
 size:g.size=(K:Int)
 le:K≤6
 len:g.edges.length=K*K
def hasP (g:DGraph) (a b:Nat):Bool:=g.edges.getD (a*g.size.toNat+b) false


def shortR (R:List Row):Prop:=R.length<1000000∧∀ r∈R,r.terms.length<1000000
structure SysOK (R:List Row) (G:List Graph) (cs:List (List Row)):Prop where
 rows:shortR R
 graphs:G.length<1000000∧∀ g∈G,g.least.length<1000000
 cases:cs.length<1000000∧∀ rows∈cs,shortR rows
structure ConOK (K:Nat) (c:Constraint):Prop where
 kind:c.kind=0∨c.kind=1
 len:c.row.terms.length≤1000
 sz:c.kind=1→∃ s:Nat,c.size=(s:Int)∧1≤s∧s≤6∧0≤c.first∧c.first+((s*s:Nat):Int)≤(K:Int)
structure ActOK (a:Action):Prop where
 delta:a.effect.delta.length≤20
 hold:a.effect.hold.length≤10
 terms:∀ r∈a.effect.hold,r.terms.length≤1000


inductive Weaker:List Row→List Row→Prop
 | nil:Weaker [] []
 | cons {r s:Row} {R S:List Row}:r.terms=s.terms→r.bound≤s.bound→Weaker R S→Weaker (r::R) (s::S)


section
variable (E:Nat→Nat→Bool) (K:Nat)
end
def ones (K:Nat):List (List Int):=(List.range K).map λ(i:Nat)=>[(i:Int)]
structure PathL (K:Nat) (l:List Int):Prop where
 nd:l.Nodup
 pos:1≤l.length
 mem:∀ x∈l,0≤x∧x<(K:Int)

structure SameA (a:Action):Prop where
 add:∀ c,addP c a.effect.delta 0=addedP a.effect.delta c
 len:a.effect.delta.length≤20
section
variable {n:Nat} {c:Constraint} {a b:Action} {K:Nat} (ha:SameA a) (hb:SameA b) (h6:K≤6) (hn:1000000≤n)
include ha hb h6 hn
end


section
variable {E:Nat→Nat→Bool} {K:Nat}
structure Walk (E:Nat→Nat→Bool) (K p:Nat) (f:Nat→Nat):Prop where
 per:∀ i,f (i+p)=f i
 lt:∀ i,f i<K
 edge:∀ i,E (f i) (f (i+1))=true
end



section
variable {c:Constraint} {K:Nat} {box:List Range} {s:List Int} {da db:List Change}
end
structure Scene (n:Nat) (m:Model) (q:Question) (a b:Action) (s:List Int):Prop where
 small:SmallM m
 valid:ValidM m
 quest:questP m q=true
 ha:idx m.actions q.e=some a
 hb:idx m.actions q.f=some b
 box:inBox (boxM m) s=true
 len:(boxM m).length≤100
 fuel:4294967296≤n
section
variable {n:Nat} {m:Model} {q:Question} {rows:List Int} {a b:Action} {s:List Int}
end

def elemP (s:Swap) (x:Int):Int:=if x=s.a then s.b else if x=s.b then s.a else x
structure SwapOK (sizes:List Int) (s:Swap):Prop where
 sort:colOK sizes s.sort=true
 a:0≤s.a
 ab:s.a<s.b
 b:s.b<sizes.getD s.sort.toNat 0
def nK (sizes:List Int) (c:Int):Nat:=(sizes.getD c.toNat 0).toNat
def colS (s:Swap) (c:Int) (x:Nat):Nat:=if c=s.sort then (elemP s (x:Int)).toNat else x
section
variable {sizes:List Int} {s:Swap} (h:SwapOK sizes s)
include h
end
def digP (sizes:List Int) (s:Swap):List Int→Nat→Nat
 | [],_=>0
 | c::cs,r=>colS s c (r % nK sizes c)+nK sizes c*digP sizes s cs (r / nK sizes c)
def mvT (sizes:List Int) (s:Swap) (strict:Bool):List Table→Int→Int
 | [],_=>-1
 | t::l,c=>if (strictP t.kind==strict&&(decide (t.first≤c)&&decide (c<t.first+widthP sizes t.columns 1)))=true then t.first+((digP sizes s t.columns.reverse (c - t.first).toNat:Nat):Int) else mvT sizes s strict l c
def mvS (sizes:List Int) (s:Swap) (strict:Bool):List Table→Int→Int
 | [],_=>-1
 | t::l,c=>if (strictP t.kind==strict&&(decide (0≤sub64 c t.first)&&decide (sub64 c t.first<widthP sizes t.columns 1)))=true then t.first+((digP sizes s t.columns.reverse (sub64 c t.first).toNat:Nat):Int) else mvS sizes s strict l c
section
variable {sizes:List Int} {s:Swap} (h:SwapOK sizes s) (hs:sizes.all sizeOK=true)
include h hs
end
def mvC (m:Model) (s:Swap) (c:Int):Int:=mvT m.sorts s true m.tables c
structure Swp (m:Model) (s:Swap):Prop where
 ok:SwapOK m.sorts s
 lay:layoutP m.sorts m.tables=true
def insT (t:Term):List Term→List Term
 | []=>[t]
 | u::l=>if t.cell<u.cell then t::u::l else u::insT t l
def mvt (m:Model) (s:Swap) (t:Term):Term:=⟨mvC m s t.cell,t.factor⟩
def rowL (m:Model) (s:Swap) (l:List Term) (acc:List Term):List Term:=l.foldl (λacc t=>insT (mvt m s t) acc) acc
def rowM (m:Model) (s:Swap) (r:Row):Row:=⟨rowL m s r.terms [],r.bound⟩
def deltaB (m:Model) (s:Swap) (e f:Effect):Bool:=e.delta.all λd=>f.delta.any λg=>(g.cell==mvC m s d.cell)&&(g.add==d.add)
def holdB (m:Model) (s:Swap) (e f:Effect):Bool:=e.hold.all λr=>decide (e.hold.count r=f.hold.count (rowM m s r))
def updB (m:Model) (s:Swap) (e f:Effect):Bool:=e.updates.all λu=>decide (e.updates.count u=f.updates.count ⟨u.kind,mvS m.sorts s false m.tables u.cell,u.value⟩)
def alikeB (m:Model) (s:Swap) (e f:Effect):Bool:=(decide (e.delta.length=f.delta.length)&&(decide (e.hold.length=f.hold.length)&&decide (e.updates.length=f.updates.length)))&&(deltaB m s e f&&(holdB m s e f&&updB m s e f))
structure EffS (e:Effect):Prop where
 delta:e.delta.length≤1000∧∀ d∈e.delta,-1000000≤d.cell∧d.cell≤1000000
 hold:e.hold.length≤1000∧∀ r∈e.hold,r.terms.length≤500∧∀ t∈r.terms,-1000000≤t.cell∧t.cell≤1000000
 upd:e.updates.length≤1000
def argM (s:Swap) (sorts args:List Int):List Int:=(List.range args.length).map λi:Nat=>if sorts.getD i 0=s.sort then elemP s (args.getD i 0) else args.getD i 0
def actB (m:Model) (s:Swap) (a b:Action):Bool:=(b.operation==a.operation&&decide (b.arguments=argM s (opAt m a).sorts a.arguments))&&alikeB m s a.effect b.effect
structure ActS (m:Model):Prop where
 len:m.actions.length≤1000
 act:∀ a∈m.actions,EffS a.effect∧(∃ o,idx m.operations a.operation=some o∧o.sorts.length=a.arguments.length)∧a.arguments.length≤100
def fstP (p:Nat→Bool):Nat→Nat→Option Nat
 | _,0=>none
 | i,k+1=>if p i=true then some i else fstP p (i+1) k
def conAt (m:Model) (i:Nat):Constraint:=m.constraints.getD i default
def sameC (c d:Constraint):Bool:=((d.kind==c.kind)&&(d.family==c.family))&&decide (d.row=c.row)
def rankP (m:Model) (i:Nat):Nat:=(m.constraints.take i).countP (sameC (conAt m i))
def conB (m:Model) (s:Swap) (i j:Nat):Bool:=((((conAt m j).kind==(conAt m i).kind)&&((conAt m j).family==(conAt m i).family))&&decide ((conAt m j).row=rowM m s (conAt m i).row))&&decide (rankP m j=rankP m i)
structure ConS (m:Model):Prop where
 len:m.constraints.length≤1000
 con:∀ c∈m.constraints,c.row.terms.length≤500∧∀ t∈c.row.terms,-1000000≤t.cell∧t.cell≤1000000
def risT (l:List Term):Prop:=l.Pairwise λa b=>a.cell<b.cell
structure RowIn (m:Model) (r:Row):Prop where
 ris:risT r.terms
 term:∀ t∈r.terms,termOK (boxM m).length t
section
variable {m:Model} {s:Swap} (h:Swp m s)
include h
end
structure EffIn (m:Model) (e:Effect):Prop where
 nd:(e.delta.map (·.cell)).Nodup
 cell:∀ d∈e.delta,0≤d.cell∧d.cell<((boxM m).length:Int)
 hold:∀ r∈e.hold,RowIn m r
section
variable {m:Model} {s:Swap} (h:Swp m s)
include h
end
theorem box_len {m:Model} (hS:SmallM m) (hL:layoutP m.sorts m.tables=true):(boxM m).length≤2592:=by
 obtain ⟨l1,l2,l3,l4⟩:=layoutP_tab hL;have:=rangesP_len (sizes:=m.sorts) (s:=true) (l:=m.tables) λt ht=>(l4 t ht).2.2.2.2
 have:=hS.tables;unfold boxM;omega
def rhoI (m:Model) (s:Swap) (a:Action):Int:=ixP (actB m s a) m.actions 0
def sigI (m:Model) (s:Swap) (i:Nat):Nat:=if (conAt m i).kind=1 then i else (fstP (conB m s i) 0 m.constraints.length).getD 0
def symB (m:Model) (s:Swap):Bool:=(m.actions.all λa=>decide (0≤rhoI m s a))&&allR (λi=>decide ((conAt m i).kind=1)||(fstP (conB m s i) 0 m.constraints.length).isSome) 0 m.constraints.length
structure Sym (m:Model) (s:Swap):Prop where
 small:SmallM m
 valid:ValidM m
 swap:SwapOK m.sorts s
 sym:symB m s=true
section
variable {m:Model} {s:Swap} (h:Sym m s)
include h
end
structure TgtMv (m:Model) (s:Swap) (q p:Question) (a A:Action):Prop where
 hold:p.target.hold=q.target.hold
 con:q.target.hold=false→∃ i:Nat,i<m.constraints.length∧q.target.index=(i:Int)∧p.target.index=((sigI m s i:Nat):Int)
 row:q.target.hold=true→∃ r,idx a.effect.hold q.target.index=some r∧idx A.effect.hold p.target.index=some (rowM m s r)
section
variable {m:Model} {s:Swap} {q p:Question} {a b A B:Action} (h:Sym m s)
include h
end
structure QMv (m:Model) (s:Swap) (q p:Question) (a b:Action):Prop where
 out:∃ (k l:Nat) (hk:k<m.actions.length) (hl:l<m.actions.length),actB m s a m.actions[k]=true∧actB m s b m.actions[l]=true∧(q.e=q.f→k=l)∧TgtMv m s q p a m.actions[k] ∧
  (q.target.hold=true→p.e=(k:Int)∧p.f=(l:Int))∧(q.target.hold=false→p.e≤p.f∧((p.e=(k:Int)∧p.f=(l:Int))∨(p.e=(l:Int)∧p.f=(k:Int))))

section
variable {m:Model} (hS:SmallM m) (hV:ValidM m)
include hS hV
end

structure ActD (K:Nat) (d:List Change):Prop where
 small:smallD d
 cell:∀ e∈d,0≤e.cell∧e.cell<(K:Int)
 nd:(d.map (·.cell)).Nodup
 len:d.length≤1000
def lowS (s:List Int):Prop:=∀ v∈s,-1099511627776≤v∧v≤1099511627776
structure SceneM (n:Nat) (m:Model) (q:Question) (a b:Action) (s:List Int):Prop where
 small:SmallM m
 valid:ValidM m
 quest:questP m q=true
 ha:idx m.actions q.e=some a
 hb:idx m.actions q.f=some b
 len:s.length=(boxM m).length
 low:lowS s
 fuel:4294967296≤n
section
variable {n:Nat} {m:Model} {q:Question} {rows:List Int} {a b:Action} {s:List Int}
end
section
variable {n:Nat} {m:Model} {q:Question} {rows:List Int} {a b:Action} {s:List Int}
theorem ranges_eq (hF:Fuel n) (hS:SmallM m) (hV:ValidM m):model_Strict n m=some (boxM m):=by
 have h1:=hS.sorts
 have h2:=hS.tables
 unfold model_Strict model_ranges
 rw [model_Valid_eq hF hS,validP_iff.2 hV,ya,if_neg (by simp),cells_Ranges_eq hF (by omega) (by omega) (λt ht=>by have:=(hS.tab t ht).2;omega),if_pos hV.lay]
 rfl
end
def suitP (m:Model) (s:Scenario):Bool:=(validP m&&questP m s.question)&&decide (s.state.length=(boxM m).length)
theorem suits_eq {n:Nat} {m:Model} {s:Scenario} (hF:Fuel n) (hS:SmallM m):scenario_suits n m s=some (suitP m s):=by
 unfold scenario_suits suitP
 rw [symmetry_Valid_eq hF hS,ya]
 cases hv:validP m&&questP m s.question with
 | false=>simp [grd]
 | true=>
  have hV:=validP_iff.1 (by simp only [yc] at hv;exact hv.1:validP m=true)
  rw [ranges_eq hF hS hV]
  simp only [grd,yi,yt,if_true,yh,yy]
  congr 1
  rw [Bool.eq_iff_iff]
  simp
  omega
theorem small24_eq {n:Nat} {x:List Int} (hn:1000000≤n):law24_small n x=some (decide (x.length≤150)&&x.all λv=>decide (-1099511627776≤v)&&decide (v≤1099511627776)):=by
 unfold law24_small
 by_cases hl:x.length≤150
 ·have hd:decide ((x.length:Int)≤150)=true:=by simp;omega
  have hc:=ContainsFunc_Lint_eq (n:=n) (l:=x) (f:=λq0=>law24_small_1 n q0) (p:=λv=>!(decide (-1099511627776≤v)&&decide (v≤1099511627776))) (λv _=>by
   unfold law24_small_1
   congr 1
   rw [Bool.eq_iff_iff]
   simp) (by omega) (by omega)
  rw [hc,hd]
  simp only [grd,yi,yt,if_true,yh,yy,hl,decide_true,any_not]
 ·have hd:decide ((x.length:Int)≤150)=false:=by simp;omega
  rw [hd]
  simp [grd,hl]
def actE (m:Model) (s:Scenario):Action:=(idx m.actions s.question.e).getD default
section
variable {n:Nat} {m:Model} {s:Scenario} {rows:List Int} (hF:Fuel n) (hS:SmallM m) (hl:lowS s.state)
include hF hS hl
omit hF hS hl in
end
theorem big1:(1000000:Nat)≤18446744073709551616:=by decide
theorem big2:(4294967296:Nat)≤18446744073709551616:=by decide
theorem cat_some {a b:List UInt8} (h:a.length+b.length≤9223372036854775807):cat a b=some (a++b):=if_pos h
theorem decD_small {u:Nat} (h:u<10):Lib.decDigits u=[UInt8.ofNat (48+u)]:=by rw [Lib.decDigits,dif_pos h]
theorem decD_big {u:Nat} (h:¬ u<10):Lib.decDigits u=Lib.decDigits (u / 10)++[UInt8.ofNat (48+u % 10)]:=by rw [Lib.decDigits,dif_neg h]
theorem decD_len:∀ (k u:Nat),u<10 ^ (k+1)→(Lib.decDigits u).length≤k+1
 | 0,u,h=>by rw [decD_small (by simpa using h)];simp
 | k+1,u,h=>by
  by_cases hu:u<10
  ·rw [decD_small hu];simp
  ·rw [decD_big hu]
   have:=decD_len k (u / 10) (by rw [uH] at h;omega)
   simp;omega
theorem p20:(10:Nat) ^ (19+1)=100000000000000000000:=by decide
theorem itoaL_len {x:Int} (h0 : -9223372036854775808≤x) (h1:x≤9223372036854775807):(itoaL x).length≤21:=by
 rw [itoaL_eq h0 h1]
 unfold Lib.itoa
 split
 ·have:=decD_len 19 x.natAbs (by rw [p20];omega)
  simp;omega
 ·have:=decD_len 19 x.toNat (by rw [p20];omega)
  omega
theorem dig_byte {r:Nat} (h:r<10):bytesS [wk .u8 (add64 48 (r:Int))]=[UInt8.ofNat (48+r)]:=by
 have e:add64 48 (r:Int)=((48+r:Nat):Int):=by unfold add64;rw [w64_id (by omega) (by omega)];omega
 rw [e]
 have:∀ r:Fin 10,bytesS [wk .u8 (((48+r.val:Nat)):Int)]=[UInt8.ofNat (48+r.val)]:=by decide
 exact this ⟨r,h⟩
theorem decN_eq:∀ (k u:Nat),u<10 ^ (k+1)→u≤9223372036854775807→ref21_Decimal (k+1) (u:Int)=some (Lib.decDigits u)
 | k,u,h,hb=>by
  rw [ref21_Decimal,ref21_Decimal.body,if_neg (by simp)]
  have hr:rem64 (u:Int) 10=some ((u % 10:Nat):Int):=by
   unfold rem64
   rw [if_neg (by decide),Int.tmod_eq_emod_of_nonneg (by omega)];rfl
  have hq:quo64 (u:Int) 10=some ((u / 10:Nat):Int):=by
   unfold quo64
   rw [if_neg (by decide),Int.tdiv_eq_ediv_of_nonneg (by omega),w64_id (by omega) (by omega)];rfl
  rw [hr,ya]
  simp only [jn]
  by_cases hu:u<10
  ·rw [if_neg (by simp;omega),dig_byte (by omega),decD_small hu,Nat.mod_eq_of_lt hu]
  ·cases k with
   | zero=>simp at h;omega
   | succ k=>
    have hlt:u / 10<10 ^ (k+1):=by rw [uH] at h;omega
    have ih:=decN_eq k (u / 10) hlt (by omega)
    have hl:(Lib.decDigits (u / 10)).length≤20:=decD_len 19 _ (by rw [p20];omega)
    rw [if_pos (by simp;omega),hq,ya,ih,ya,dig_byte (by omega),cat_some (by simp;omega),ya,decD_big hu]
theorem Decimal_eq {n:Nat} {x:Int} (hn:1000≤n) (h0 : -9223372036854775807≤x) (h1:x≤9223372036854775807):ref21_Decimal n x=some (itoaL x):=by
 rw [itoaL_eq (by omega) h1]
 obtain ⟨k,rfl⟩:∃ k,n=k+21:=⟨n - 21,by omega⟩
 have hp:∀ u:Nat,u≤9223372036854775807→∀ j,19≤j→u<10 ^ (j+1):=λu hu j hj=>by
  have h1:(10:Nat) ^ (19+1)≤10 ^ (j+1):=uv (by decide) (by omega)
  have h2:(10:Nat) ^ (19+1)=100000000000000000000:=by decide
  omega
 unfold Lib.itoa
 by_cases hx:x<0
 ·rw [if_pos hx,show k+21=(k+20)+1 by omega,ref21_Decimal,ref21_Decimal.body,if_pos (by simpa using hx)]
  have hneg:neg64 x=(x.natAbs:Int):=by unfold neg64;rw [w64_id (by omega) (by omega)];omega
  have hl:(Lib.decDigits x.natAbs).length≤20:=decD_len 19 _ (hp _ (by omega) 19 (by omega))
  rw [hneg,show k+20=(k+19)+1 by omega,decN_eq (k+19) x.natAbs (hp _ (by omega) _ (by omega)) (by omega),ya,cat_some (by simp;omega),ya]
  rfl
 ·rw [if_neg hx]
  obtain ⟨u,rfl⟩:=yZ (show 0≤x by omega)
  rw [show k+21=(k+20)+1 by omega,decN_eq (k+20) u (hp _ (by omega) _ (by omega)) (by omega),yC]
theorem Itoa_some {n:Nat} {x:Int} (h0 : -9223372036854775808≤x) (h1:x≤9223372036854775807):strconv_Itoa n x=some (itoaL x):=if_pos ⟨h0,h1⟩
def listP (sep:List UInt8) (l:List Int):List UInt8:=Lib.join (l.map itoaL) sep
theorem join_len (sep:List UInt8) (B:Nat):∀ l:List (List UInt8),(∀ x∈l,x.length≤B)→(Lib.join l sep).length≤(B+sep.length)*l.length
 | [],_=>by simp [Lib.join_nil]
 | x::l,h=>by
  have hx:=h x (by simp)
  have ih:∀ l:List (List UInt8),(∀ x∈l,x.length≤B)→(Lib.joinTail sep l).length≤(B+sep.length)*l.length:=by
   intro l
   induction l with
   | nil=>intro _;simp [Lib.joinTail]
   | cons y l ih=>
    intro h
    have h1:=h y (by simp)
    have h2:=ih λz hz=>h z (by simp [hz])
    simp only [Lib.joinTail,yI,List.flatten_cons,yS,yT] at h2 ⊢
    rw [Nat.mul_succ];omega
  have:=ih l λz hz=>h z (by simp [hz])
  rw [Lib.join_cons,yS,yT,Nat.mul_succ];omega
def wide64 (l:List Int):Prop:=∀ x∈l,-9223372036854775807≤x∧x≤9223372036854775807
theorem Join_some {n:Nat} {l:List (List UInt8)} {sep:List UInt8} (h1:l.length≤1000000) (h2:(Lib.join l sep).length≤1000000000):strings_Join n l sep=some (Lib.join l sep):=if_pos ⟨by omega,by omega⟩
theorem joined_eq {n:Nat} {l:List Int} {sep:List UInt8} {f:Int→Option (List UInt8)} {g:Int→List UInt8} (hf:∀ x∈l,f x=some (g x)) (hl:l.length≤1000) (hg:∀ x∈l,(g x).length≤100000) (hs:sep.length≤10) (hn:1000000≤n):scenario_joined_int n l sep f=some (Lib.join (l.map g) sep):=by
 have hj:(Lib.join (l.map g) sep).length≤(100000+sep.length)*(l.map g).length:=join_len sep 100000 _ λx hx=>by
  obtain ⟨y,hy,rfl⟩:=yY.1 hx
  exact hg y hy
 rw [yQ] at hj
 have hj2:(100000+sep.length)*l.length≤100010*1000:=Nat.mul_le_mul (by omega) hl
 have:=loopF_g (body:=scenario_joined_int.l1 n l sep f) (len:=l.length) (st:=λi=>((l.take i).map g,(i:Int))) (g:=λ_=>some (Lib.join (l.map g) sep)) (λrec i hi hr=>?_) (λrec=>?_) n 0 (yw _) (by omega)
 ·simpa [scenario_joined_int] using this
 ·simp only [scenario_joined_int.l1,lt_len hi,if_true,idx_nat hi,ya,hf _ (yA hi),add64_1 (i:=i) (by omega)]
  rw [app_some (by simp;omega),ya,← hr,yB hi,ue]
  rfl
 ·simp only [scenario_joined_int.l1,ge_len,ym,if_false,List.take_length]
  rw [Join_some (by simp;omega) (by omega)];rfl
theorem sList_eq {n:Nat} {l:List Int} {sep:List UInt8} (hl:l.length≤1000) (hw:wide64 l) (hs:sep.length≤10) (hn:1000000≤n):scenario_list n l sep=some (listP sep l):=by
 unfold scenario_list
 rw [joined_eq (g:=itoaL) (λx hx=>Itoa_some (by have:=hw x hx;omega) (hw x hx).2) hl (λx hx=>by have:=hw x hx;have:=itoaL_len (x:=x) (by omega) this.2;omega) hs hn]
 rfl
theorem loopF_s {σ R:Type} {body:(σ→Option R)→σ→Option R} {n:Nat} {s:σ}:loopF body (n+1) s=body (loopF body n) s:=rfl
theorem mul_nat {a b:Nat} (h:a*b≤1000000000):mul64 (a:Int) (b:Int)=((a*b:Nat):Int):=by
 unfold mul64
 rw [w64_id (by rw [← uG];omega) (by rw [← uG];omega)];simp
structure Cols (sizes:List Int) (cols:List Int) (zs:List Nat):Prop where
 len:zs.length=cols.length
 le:cols.length≤3
 at_:∀ (i:Nat) (h:i<cols.length) (h2:i<zs.length),idx sizes cols[i]=some ((zs[i]:Nat):Int)
 bd:∀ z∈zs,1≤z∧z≤6
section
variable {n:Nat} {m:Model} {c:Int} {t:Table} {zs:List Nat} (hC:Cols m.sorts t.columns zs) (hn:1000000≤n)
include hC hn
omit hC hn in
end
section
variable {n:Nat} {m:Model} {c:Int} {t:Table} {zs:List Nat} (hC:Cols m.sorts t.columns zs) (hn:1000000≤n)
include hC
include hn
end
section
variable {n:Nat} {m:Model} {c:Int} (hL:layoutP m.sorts m.tables=true) (hc : -1000000≤c∧c≤1000000) (hn:1000000≤n)
include hL hc hn
end
theorem dig_nat {r:Nat} (h:r<10):(UInt8.ofNat (48+r)).toNat=48+r:=by
 rw [UInt8.toNat_ofNat'];exact Nat.mod_eq_of_lt (by omega)
theorem decD_mem:∀ (k u:Nat),u≤k→∀ c∈Lib.decDigits u,48≤c.toNat∧c.toNat≤57
 | k,u,hk,c,hc=>by
  by_cases h:u<10
  ·rw [decD_small h] at hc
   simp only [yK] at hc
   subst hc
   rw [dig_nat h];omega
  ·rw [decD_big h] at hc
   rcases yG.1 hc with hc | hc
   ·match k with
    | 0=>omega
    | k+1=>exact decD_mem k (u / 10) (by omega) c hc
   ·simp only [yK] at hc
    subst hc
    rw [dig_nat (Nat.mod_lt _ (by decide))];omega
theorem decD_ne (u:Nat):Lib.decDigits u≠[]:=by
 by_cases h:u<10
 ·rw [decD_small h];simp
 ·rw [decD_big h];simp
theorem parse_app:∀ {l r:List UInt8} {acc v:Nat},Lib.parseUint10 acc l = .ok v→Lib.parseUint10 acc (l++r)=Lib.parseUint10 v r
 | [],r,acc,v,h=>by
  simp only [Lib.parseUint10] at h
  injection h with h
  subst h;rfl
 | c::l,r,acc,v,h=>by
  simp only [Lib.parseUint10] at h
  rw [yX]
  by_cases h1:48≤c.toNat∧c.toNat≤57
  ·rw [if_pos h1] at h
   by_cases h2:1844674407370955162≤acc
   ·rw [if_pos h2] at h;cases h
   ·rw [if_neg h2] at h
    by_cases h3:18446744073709551616≤acc*10+(c.toNat - 48)
    ·rw [if_pos h3] at h;cases h
    ·rw [if_neg h3] at h
     simp only [Lib.parseUint10]
     rw [if_pos h1,if_neg h2,if_neg h3]
     exact parse_app h
  ·rw [if_neg h1] at h;cases h
theorem decD_parse:∀ (k u:Nat),u≤k→u≤9223372036854775807→Lib.parseUint10 0 (Lib.decDigits u) = .ok u
 | k,u,hk,hu=>by
  by_cases h:u<10
  ·rw [decD_small h]
   simp only [Lib.parseUint10]
   rw [dig_nat h,if_pos (by omega),if_neg (by omega),if_neg (by omega)]
   congr 1;omega
  ·match k with
   | 0=>omega
   | k+1=>
    have ih:=decD_parse k (u / 10) (by omega) (by omega)
    have hm:=Nat.mod_lt u (show 0<10 by decide)
    rw [decD_big h,parse_app ih]
    simp only [Lib.parseUint10]
    rw [dig_nat hm,if_pos (by omega),if_neg (by omega),if_neg (by omega)]
    congr 1;omega
theorem decD_mag {u:Nat} (hu:u≤9223372036854775807):Lib.parseMag (Lib.decDigits u) = .ok u:=by
 unfold Lib.parseMag
 rw [if_neg (decD_ne u)]
 exact decD_parse u u (yk _) hu
theorem itoaL_neg {x:Int} (h0 : -9223372036854775808≤x) (h:x<0):itoaL x=45::Lib.decDigits x.natAbs:=by
 rw [itoaL_eq h0 (by omega),Lib.itoa,if_pos h]
theorem itoaL_pos {x:Int} (h1:x≤9223372036854775807) (h:0≤x):itoaL x=Lib.decDigits x.toNat:=by
 rw [itoaL_eq (by omega) h1,Lib.itoa,if_neg (by omega)]
theorem itoaL_ne (x:Int) (h0 : -9223372036854775808≤x) (h1:x≤9223372036854775807):itoaL x≠[]:=by
 by_cases h:x<0
 ·rw [itoaL_neg h0 h];simp
 ·rw [itoaL_pos h1 (by omega)];exact decD_ne _
theorem itoaL_mem {x:Int} (h0 : -9223372036854775808≤x) (h1:x≤9223372036854775807):∀ c∈itoaL x,c=45∨(48≤c.toNat∧c.toNat≤57):=by
 intro c hc
 by_cases h:x<0
 ·rw [itoaL_neg h0 h] at hc
  rcases yJ.1 hc with rfl | hc
  ·exact Or.inl rfl
  ·exact Or.inr (decD_mem _ _ (yk _) c hc)
 ·rw [itoaL_pos h1 (by omega)] at hc
  exact Or.inr (decD_mem _ _ (yk _) c hc)
theorem itoaL_not {x:Int} (h0 : -9223372036854775808≤x) (h1:x≤9223372036854775807) {c:UInt8} (hc:c.toNat<45):c∉itoaL x:=λh=>by
 rcases itoaL_mem h0 h1 c h with rfl | h
 ·simp at hc
 ·omega
theorem atoi_itoaL {x:Int} (h0 : -9223372036854775807≤x) (h1:x≤9223372036854775807):Lib.atoiAll (itoaL x) = .ok x:=by
 by_cases h:x<0
 ·rw [itoaL_neg (by omega) h,Lib.atoiAll_minus,decD_mag (by omega)]
  simp only [Lib.signed]
  rw [if_neg (by omega)]
  congr 1;omega
 ·rw [itoaL_pos h1 (by omega)]
  obtain ⟨c,l,hl⟩:=List.exists_cons_of_ne_nil (decD_ne x.toNat)
  have hc:=decD_mem _ _ (yk x.toNat) c (by rw [hl];simp)
  rw [hl,Lib.atoiAll_plain c l (by omega) (by omega),← hl,decD_mag (by omega)]
  simp only [Lib.signless]
  rw [if_neg (by omega)]
  congr 1;omega
theorem listP_cons (sep:List UInt8) (x:Int) (l:List Int):listP sep (x::l)=itoaL x++Lib.joinTail sep (l.map itoaL):=by
 unfold listP
 rw [yI,Lib.join_cons]
structure ActW (m:Model) (a:Action):Prop where
 op:idx m.operations a.operation=some (opAt m a)
 ge:0≤a.operation
 lt:a.operation<(m.operations.length:Int)
 name:wordP (opAt m a).name=true
 nlen:(opAt m a).name.length≤16
 wide:wide64 a.arguments
 alen:a.arguments.length≤3
structure RowW (m:Model) (r:Row):Prop where
 terms:∀ t∈r.terms,termOK (boxM m).length t∧t.factor≠0
 len:r.terms.length≤1000
 lo : -1000000000≤r.bound
 hi:r.bound≤1000000000
section
variable {n:Nat} {m:Model} {r:Row} (hS:SmallM m) (hL:layoutP m.sorts m.tables=true) (hR:RowW m r) (hn:1000000≤n)
include hS hL hR
include hn
end
section
variable {n:Nat} {m:Model} (hF:Fuel n) (hS:SmallM m) (hV:ValidM m)
include hF hS hV
end
def spaced (l:List Int):List UInt8:=Lib.joinTail [32] (l.map itoaL)
theorem spaced_cons (x:Int) (l:List Int):spaced (x::l)=32::(itoaL x++spaced l):=by simp [spaced,Lib.joinTail]
theorem spaced_nil:spaced []=[]:=rfl
theorem spaced_app (l k:List Int):spaced (l++k)=spaced l++spaced k:=by simp [spaced,Lib.joinTail]
def actionsK:List UInt8:=[97,99,116,105,111,110,115]
def targetK:List UInt8:=[116,97,114,103,101,116]
def stateK:List UInt8:=[115,116,97,116,101]
def holdK:List UInt8:=[104,111,108,100]
def constraintK:List UInt8:=[99,111,110,115,116,114,97,105,110,116]
def kindW (h:Bool):List UInt8:=if h=true then holdK else constraintK
def lineA (s:Scenario):List UInt8:=actionsK++spaced [s.question.e,s.question.f]
def lineB (s:Scenario):List UInt8:=targetK++32::(kindW s.question.target.hold++spaced [s.question.target.index])
def lineC (s:Scenario):List UInt8:=stateK++spaced s.state
def textP (s:Scenario):List UInt8:=lineA s++10::(lineB s++10::(lineC s++[10]))
def sm6 (x:Int):Prop:=-1000000≤x∧x≤1000000
structure SmallQ (s:Scenario):Prop where
 e:sm6 s.question.e
 f:sm6 s.question.f
 ix:sm6 s.question.target.index
 st:∀ v∈s.state,sm6 v
theorem itoa6_len {x:Int} (h:sm6 x):(itoaL x).length≤21:=by obtain ⟨h1,h2⟩:=h;exact itoaL_len (by omega) (by omega)
theorem spaced_len:∀ {l:List Int},(∀ v∈l,sm6 v)→(spaced l).length≤22*l.length
 | [],_=>by simp [spaced_nil]
 | x::l,h=>by
  have h1:=itoa6_len (h x (by simp))
  have h2:=spaced_len λv hv=>h v (y0 x hv)
  rw [spaced_cons]
  simp only [yT,yS];omega
theorem kindW_len (h:Bool):(kindW h).length≤10:=by cases h <;> decide
theorem Itoa6 {n:Nat} {x:Int} (h:sm6 x):strconv_Itoa n x=some (itoaL x):=by obtain ⟨h1,h2⟩:=h;exact Itoa_some (by omega) (by omega)
theorem Dec6 {n:Nat} {x:Int} (h:sm6 x) (hn:1000≤n):ref21_Decimal n x=some (itoaL x):=by obtain ⟨h1,h2⟩:=h;exact Decimal_eq hn (by omega) (by omega)
section
variable {n:Nat} {s:Scenario} (hq:SmallQ s) (hl:s.state.length≤100000) (hn:1000000≤n)
include hq hl hn
theorem take6 (i:Nat):(spaced (s.state.take i)).length≤2200000:=by
 have h1:=spaced_len (l:=s.state.take i) λv hv=>hq.st v (List.mem_of_mem_take hv)
 have:(s.state.take i).length≤100000:=by simp;omega
 omega
theorem sText_eq:scenario_text n s=some (textP s):=by
 have hE:=itoa6_len hq.e
 have hF:=itoa6_len hq.f
 have hX:=itoa6_len hq.ix
 have hk:=kindW_len s.question.target.hold
 have hlist:scenario_list n [s.question.e,s.question.f] [32]=some (itoaL s.question.e++32::itoaL s.question.f):=by
  rw [sList_eq (by simp) (λx hx=>by
   simp only [yJ,List.not_mem_nil,or_false] at hx
   have h1:=hq.e
   have h2:=hq.f
   unfold sm6 at h1 h2
   rcases hx with rfl | rfl <;> omega) (by simp) hn]
  simp [listP_cons,Lib.joinTail]
 have main:∀ w:List UInt8,w=kindW s.question.target.hold→loopF (scenario_text.l1 n s w) n ([],0)=some (textP s):=by
  rintro w rfl
  have:=loopF_g (body:=scenario_text.l1 n s (kindW s.question.target.hold)) (len:=s.state.length) (st:=λi=>(spaced (s.state.take i),(i:Int))) (g:=λ_=>some (textP s)) (λrec i hi hr=>?_) (λrec=>?_) n 0 (yw _) (by omega)
  ·simpa [spaced_nil] using this
  ·have hx:=hq.st _ (yA hi)
   have hxl:=itoa6_len hx
   have ht:=take6 hq hl hn i
   simp only [scenario_text.l1,lt_len hi,if_true,idx_nat hi,ya,Itoa6 hx,add64_1 (i:=i) (by omega)]
   rw [cat_some (by simp;omega),ya,cat_some (by simp;omega),ya]
   rw [yB hi,spaced_app,spaced_cons,spaced_nil,ul] at hr
   exact hr
  ·have ht:=take6 hq hl hn s.state.length
   rw [List.take_length] at ht
   simp only [scenario_text.l1,ge_len,ym,if_false,hlist,ya,Itoa6 hq.ix]
   rw [cat_some (by simp;omega),ya,cat_some (by simp;omega),ya,cat_some (by simp;omega),ya,cat_some (by simp;omega),ya,cat_some (by simp;omega),ya,cat_some (by simp;omega),ya,cat_some (by simp;omega),ya,cat_some (by simp;omega),ya,List.take_length]
   simp [textP,lineA,lineB,lineC,spaced_cons,spaced_nil,actionsK,targetK,stateK]
 unfold scenario_text jn
 cases h:s.question.target.hold with
 | true=>exact main _ (by rw [h];rfl)
 | false=>exact main _ (by rw [h];rfl)
theorem rText_eq:ref24_Text n s=some (textP s):=by
 have hE:=itoa6_len hq.e
 have hF:=itoa6_len hq.f
 have hX:=itoa6_len hq.ix
 have hk:=kindW_len s.question.target.hold
 have main:∀ w:List UInt8,w=kindW s.question.target.hold→((ref21_Decimal n s.question.e).bind λx13_3=>
  (cat [97,99,116,105,111,110,115,32] x13_3).bind λx14_4=>
  (cat x14_4 [32]).bind λx15_5=>
  (ref21_Decimal n s.question.f).bind λx19_6=>
  (cat x15_5 x19_6).bind λx20_7=>
  (cat x20_7 [10,116,97,114,103,101,116,32]).bind λx21_8=>
  (cat x21_8 w).bind λx23_9=>
  (cat x23_9 [32]).bind λx24_10=>
  (ref21_Decimal n s.question.target.index).bind λx29_11=>
  (cat x24_10 x29_11).bind λx30_12=>
  (cat x30_12 [10,115,116,97,116,101]).bind λx31_13=>
  loopF (ref24_Text.l1 n s) n (x31_13,0))=some (textP s):=by
  rintro w rfl
  rw [Dec6 hq.e (by omega),ya,cat_some (by simp;omega),ya,cat_some (by simp;omega),ya,Dec6 hq.f (by omega),ya,cat_some (by simp;omega),ya,cat_some (by simp;omega),ya,cat_some (by simp;omega),ya,cat_some (by simp;omega),ya,Dec6 hq.ix (by omega),ya,cat_some (by simp;omega),ya,cat_some (by simp;omega),ya]
  generalize hp:([97,99,116,105,111,110,115,32]++itoaL s.question.e++[32]++itoaL s.question.f++[10,116,97,114,103,101,116,32]++kindW s.question.target.hold++[32]++itoaL s.question.target.index++[10,115,116,97,116,101])=p
  have hpl:p.length≤200:=by rw [← hp];simp;omega
  have:=loopF_g (body:=ref24_Text.l1 n s) (len:=s.state.length) (st:=λi=>(p++spaced (s.state.take i),(i:Int))) (g:=λ_=>some (textP s)) (λrec i hi hr=>?_) (λrec=>?_) n 0 (yw _) (by omega)
  ·simpa [spaced_nil] using this
  ·have hx:=hq.st _ (yA hi)
   have hxl:=itoa6_len hx
   have ht:=take6 hq hl hn i
   simp only [ref24_Text.l1,lt_len hi,if_true,add64_1 (i:=i) (by omega)]
   rw [cat_some (by simp;omega),ya,idx_nat hi,ya,Dec6 hx (by omega),ya,cat_some (by simp;omega),ya]
   rw [yB hi,spaced_app,spaced_cons,spaced_nil,ul] at hr
   simpa using hr
  ·have ht:=take6 hq hl hn s.state.length
   rw [List.take_length] at ht
   simp only [ref24_Text.l1,ge_len,ym,if_false]
   rw [cat_some (by simp;omega),ya,List.take_length,← hp]
   simp [textP,lineA,lineB,lineC,spaced_cons,spaced_nil,actionsK,targetK,stateK]
 unfold ref24_Text jn
 cases h:s.question.target.hold with
 | true=>exact main _ (by rw [h];rfl)
 | false=>exact main _ (by rw [h];rfl)
end
theorem small6_eq {n:Nat} {x:List Int} (hl:x.length≤100000) (hn:1000000≤n):scenario_small n x=some (x.all λv=>decide (-1000000≤v)&&decide (v≤1000000)):=by
 have hc:=ContainsFunc_Lint_eq (n:=n) (l:=x) (f:=λq0=>scenario_small_1 n q0) (p:=λv=>!(decide (-1000000≤v)&&decide (v≤1000000))) (λv _=>by
  unfold scenario_small_1
  congr 1
  rw [Bool.eq_iff_iff]
  simp) (by omega) (by omega)
 unfold scenario_small
 rw [hc,ya,any_not]
def sm6B (l:List Int):Bool:=l.all λv=>decide (-1000000≤v)&&decide (v≤1000000)
theorem sm6B_iff {l:List Int}:sm6B l=true↔∀ v∈l,sm6 v:=by simp [sm6B,sm6,yu]
theorem suit_small {m:Model} {s:Scenario} (hS:SmallM m) (h:suitP m s=true) (hs:sm6B s.state=true):SmallQ s∧s.state.length≤100000:=by
 simp only [suitP,yc,yd] at h
 obtain ⟨⟨h1,h2⟩,h3⟩:=h
 have hV:=validP_iff.1 h1
 obtain ⟨q1,q2,q3,q4,q5⟩:=questP_spec h2
 have ha:=hS.actions
 have hc:=hS.constraints
 have hb:=box_len hS hV.lay
 have hix:s.question.target.index≤1000000:=by
  simp only [questP,yc] at h2
  have h5:=h2.2
  split at h5
  ·have h6:((idx m.actions s.question.e).getD default).effect.hold.length≤1000000:=by
    cases e:idx m.actions s.question.e with
    | none=>simp only [Option.getD_none];decide
    | some a=>
     have:=(hS.act a (idx_mem e)).2.2.1
     simp only [yh];omega
   simp only [yd] at h5;omega
  ·simp only [yc,yd] at h5;omega
 exact ⟨⟨⟨by omega,by omega⟩,⟨by omega,by omega⟩,⟨by omega,hix⟩,sm6B_iff.1 hs⟩,by omega⟩
theorem small_len {m:Model} {s:Scenario} (hS:SmallM m) (h:suitP m s=true):s.state.length≤100000:=by
 simp only [suitP,yc,yd] at h
 have hb:=box_len hS (validP_iff.1 h.1.1).lay
 omega
theorem sFormat_eq {n:Nat} {m:Model} {s:Scenario} (hF:Fuel n) (hS:SmallM m):scenario_Format n m s=some (if suitP m s=true∧sm6B s.state=true then (textP s,0) else ([],1)):=by
 have hn:=hF.big
 unfold scenario_Format
 rw [suits_eq hF hS,ya]
 cases h:suitP m s with
 | false=>simp [grd]
 | true=>
  rw [small6_eq (small_len hS h) (by omega)]
  simp only [y7,ud,yi,grd,if_true,yh]
  cases hs:sm6B s.state with
  | false=>
   unfold sm6B at hs
   rw [hs];simp
  | true=>
   obtain ⟨k1,k2⟩:=suit_small hS h hs
   unfold sm6B at hs
   rw [hs,if_neg (by simp),sText_eq k1 k2 (by omega)];simp
theorem rRight_eq {n:Nat} {m:Model} {s:Scenario} (hn:4294967296≤n) (hS:SmallM m):ref24_right n m s=some (suitP m s&&sm6B s.state):=by
 unfold ref24_right
 rw [ref16_Valid_eq hn hS,ya]
 cases hv:validP m&&questP m s.question with
 | false=>simp [grd,suitP,hv]
 | true=>
  have hV:=validP_iff.1 (by simp only [yc] at hv;exact hv.1:validP m=true)
  rw [ref16_Total_eq hV.lay (by omega)]
  simp only [y7,ud,yi,grd,if_true,yh]
  unfold suitP
  rw [hv,yy]
  by_cases hl:s.state.length=(boxM m).length
  ·have hb:=box_len hS hV.lay
   rw [if_neg (by simp [hl]),decide_eq_true hl,yy]
   have:=loopF_lall (body:=ref24_right.l1 n s) (l:=s.state) (n:=n) (st:=λi=>(i:Int)) (λv=>decide (-1000000≤v)&&decide (v≤1000000)) (some false) (some true) (λrec i hi=>?_) (λrec=>?_) (by omega)
   ·simp only [Int.natCast_zero] at this
    rw [this]
    unfold sm6B
    cases (s.state.all λv=>decide (-1000000≤v)&&decide (v≤1000000)) <;> rfl
   ·simp only [ref24_right.l1,lt_len hi,if_true,idx_nat hi,ya,yi,yt,grd,yh,add64_1 (i:=i) (by omega)]
    by_cases hx:(decide (-1000000≤s.state[i])&&decide (s.state[i]≤1000000))=true
    ·rw [if_neg,if_pos hx]
     simp only [yc,yd] at hx
     simp;omega
    ·rw [if_pos,if_neg hx]
     simp only [yc,yd] at hx
     simp only [yr,yd];omega
   ·simp [ref24_right.l1]
  ·rw [if_pos (by simp;omega),decide_eq_false hl];rfl
theorem rFormat_eq {n:Nat} {m:Model} {s:Scenario} (hn:4294967296≤n) (hS:SmallM m):ref24_Format n m s=some (if suitP m s=true∧sm6B s.state=true then (textP s,0) else ([],1)):=by
 unfold ref24_Format
 rw [rRight_eq hn hS,ya]
 cases h:suitP m s with
 | false=>simp
 | true=>
  cases hs:sm6B s.state with
  | false=>simp
  | true=>
   obtain ⟨k1,k2⟩:=suit_small hS h hs
   rw [if_neg (by simp),rText_eq k1 k2 (by omega)];simp
def lineP (L:List (List UInt8)) (ok:Bool) (w:List UInt8):List (List UInt8)×List (List UInt8)×Bool:=match L with
 | []=>([],[],false)
 | x::L=>((splitC 32 x).drop 1,L,ok&&decide ((splitC 32 x).headD []=w))
def numV (w:List UInt8):Int:=match Lib.atoiAll w with
 | .ok v=>v
 | .range=>Lib.atoiSat w
 | _=>0
def numB (w:List UInt8):Bool:=match Lib.atoiAll w with
 | .ok _=>true
 | _=>false
theorem Atoi_eq {n:Nat} {w:List UInt8} (h:w.length≤1000000):strconv_Atoi n w=some (numV w,!numB w):=by
 unfold strconv_Atoi numV numB
 rw [if_pos (by omega)]
 cases Lib.atoiAll w <;> rfl
theorem split_mem {c:UInt8}:∀ {l:List UInt8},∀ w∈splitC c l,w.length≤l.length
 | [],w,hw=>by simp [splitC] at hw;simp [hw]
 | x::l,w,hw=>by
  rw [splitC] at hw
  split at hw
  ·rcases yJ.1 hw with rfl | hw
   ·simp
   ·have:=split_mem w hw;simp;omega
  ·split at hw
   ·simp at hw;subst hw;simp
   ·rename_i y r he
    rcases yJ.1 hw with rfl | hw
    ·have:=split_mem (c:=c) (l:=l) y (by rw [he];simp);simp;omega
    ·have:=split_mem (c:=c) (l:=l) w (by rw [he];simp [hw]);simp;omega
theorem split_len {c:UInt8}:∀ {l:List UInt8},(splitC c l).length≤l.length+1
 | []=>by simp [splitC]
 | x::l=>by
  have:=split_len (c:=c) (l:=l)
  rw [splitC]
  split
  ·simp;omega
  ·split
   ·simp
   ·rename_i y r he
    rw [he] at this
    simp at this ⊢;omega
section
variable {n:Nat} {L:List (List UInt8)} {ok:Bool} {w:List UInt8} (hL:∀ x∈L,x.length≤100000)
include hL
theorem line_eq:scenario_reader_line n L ok w=some (lineP L ok w):=by
 unfold scenario_reader_line lineP
 cases L with
 | nil=>simp
 | cons x L=>
  have hx:=hL x (by simp)
  obtain ⟨y,r,hr⟩:=List.exists_cons_of_ne_nil (splitC_ne 32 x)
  have hs:strings_Split n x [32]=some (y::r):=by unfold strings_Split;simp only [];rw [if_pos (by omega),hr]
  have c1:cut (x::L) 1 ((x::L).length:Int)=some L:=by
   have:=cut_end (l:=x::L) (a:=1) (by simp);simpa using this
  have c2:cut (y::r) 1 ((y::r).length:Int)=some r:=by
   have:=cut_end (l:=y::r) (a:=1) (by simp);simpa using this
  have i0:idx (x::L) 0=some x:=rfl
  have j0:idx (y::r) 0=some y:=rfl
  rw [if_neg (by simp;omega),i0,ya,hs,ya,c1,ya,c2,j0]
  simp [grd,hr]
end
theorem nums_eq {n:Nat} {L W:List (List UInt8)} {ok:Bool} (hW:∀ x∈W,x.length≤100000) (hl:W.length≤100001) (hn:1000000≤n):scenario_reader_numbers n L ok W=some (W.map numV,L,ok&&W.all numB):=by
 have:=loopF_g (body:=scenario_reader_numbers.l1 n L W) (len:=W.length) (st:=λi=>((W.take i).map numV,ok&&(W.take i).all numB,(i:Int))) (g:=λ_=>some (W.map numV,L,ok&&W.all numB)) (λrec i hi hr=>?_) (λrec=>?_) n 0 (yw _) (by omega)
 ·simpa [scenario_reader_numbers] using this
 ·simp only [scenario_reader_numbers.l1,lt_len hi,if_true,idx_nat hi,ya,Atoi_eq (show W[i].length≤1000000 by have:=hW _ (yA hi);omega),add64_1 (i:=i) (by omega)]
  rw [app_some (by simp;omega),ya,Bool.not_not]
  rw [yB hi,ue,List.all_append] at hr
  simpa [Bool.and_assoc] using hr
 ·simp [scenario_reader_numbers.l1]
theorem splitC_tail {c:UInt8}:∀ {K:List (List UInt8)} {w:List UInt8},c∉w→(∀ k∈K,c∉k)→splitC c (w++Lib.joinTail [c] K)=w::K
 | [],w,hw,_=>by rw [show Lib.joinTail [c] []=[] from rfl,ul];exact splitC_miss hw
 | k::K,w,hw,hK=>by
  have e:Lib.joinTail [c] (k::K)=c::(k++Lib.joinTail [c] K):=by simp [Lib.joinTail]
  rw [e,splitC_app _ hw,splitC_tail (hK k (by simp)) λj hj=>hK j (by simp [hj])]
theorem itoa6_not {x:Int} (h:sm6 x) {c:UInt8} (hc:c.toNat<45):c∉itoaL x:=by obtain ⟨h1,h2⟩:=h;exact itoaL_not (by omega) (by omega) hc
theorem spaced_not {c:UInt8} (hc:c.toNat<45) (h32:c≠32):∀ {l:List Int},(∀ v∈l,sm6 v)→c∉spaced l
 | [],_=>by simp [spaced_nil]
 | x::l,h=>by
  have h1:=itoa6_not (h x (by simp)) hc
  have h2:=spaced_not hc h32 λv hv=>h v (y0 x hv)
  rw [spaced_cons]
  simp [h1,h2,h32]
theorem split_spaced {w:List UInt8} (hw:(32:UInt8)∉w) {l:List Int} (h:∀ v∈l,sm6 v):splitC 32 (w++spaced l)=w::l.map itoaL:=
 splitC_tail hw λk hk=>by
  obtain ⟨x,hx,rfl⟩:=yY.1 hk
  exact itoa6_not (h x hx) (by decide)
theorem kindW_32 (h:Bool):(32:UInt8)∉kindW h∧(10:UInt8)∉kindW h:=by cases h <;> decide
theorem numV_itoa {x:Int} (h:sm6 x):numV (itoaL x)=x∧numB (itoaL x)=true:=by
 obtain ⟨h1,h2⟩:=h
 have e:=atoi_itoaL (x:=x) (by omega) (by omega)
 constructor
 ·unfold numV;rw [e]
 ·unfold numB;rw [e]
theorem nums_itoa:∀ {l:List Int},(∀ v∈l,sm6 v)→(l.map itoaL).map numV=l∧(l.map itoaL).all numB=true
 | [],_=>⟨rfl,rfl⟩
 | x::l,h=>by
  obtain ⟨e1,e2⟩:=nums_itoa λv hv=>h v (y0 x hv)
  obtain ⟨f1,f2⟩:=numV_itoa (h x (by simp))
  exact ⟨by rw [yI,yI,f1,e1],by rw [yI,um,f2,e2];rfl⟩
section
variable {s:Scenario} (hq:SmallQ s)
include hq
theorem ef6:∀ v∈[s.question.e,s.question.f],sm6 v:=λv hv=>by
 simp only [yJ,List.not_mem_nil,or_false] at hv
 rcases hv with rfl | rfl
 ·exact hq.e
 ·exact hq.f
theorem ix6:∀ v∈[s.question.target.index],sm6 v:=λv hv=>by
 simp only [yJ,List.not_mem_nil,or_false] at hv
 subst hv;exact hq.ix
theorem lineA_10:(10:UInt8)∉lineA s:=by
 have:=spaced_not (c:=10) (by decide) (by decide) (ef6 hq)
 unfold lineA
 rw [yG,not_or]
 exact ⟨by decide,this⟩
theorem lineB_10:(10:UInt8)∉lineB s:=by
 have:=spaced_not (c:=10) (by decide) (by decide) (ix6 hq)
 have:=(kindW_32 s.question.target.hold).2
 unfold lineB
 rw [yG,not_or,yJ,not_or,yG,not_or]
 exact ⟨by decide,by decide,by assumption,by assumption⟩
theorem lineC_10:(10:UInt8)∉lineC s:=by
 have:=spaced_not (c:=10) (by decide) (by decide) hq.st
 unfold lineC
 rw [yG,not_or]
 exact ⟨by decide,this⟩
theorem split_text:splitC 10 (textP s)=[lineA s,lineB s,lineC s,[]]:=by
 unfold textP
 rw [splitC_app _ (lineA_10 hq),splitC_app _ (lineB_10 hq),splitC_app _ (lineC_10 hq)]
 rfl
theorem split_A:splitC 32 (lineA s)=actionsK::[itoaL s.question.e,itoaL s.question.f]:=split_spaced (by decide) (ef6 hq)
theorem split_B:splitC 32 (lineB s)=targetK::kindW s.question.target.hold::[itoaL s.question.target.index]:=by
 unfold lineB
 rw [splitC_app _ (by decide),split_spaced (kindW_32 _).1 (ix6 hq)];rfl
theorem split_C:splitC 32 (lineC s)=stateK::s.state.map itoaL:=split_spaced (by decide) hq.st
end
def readA (t:List UInt8):List (List UInt8)×List (List UInt8)×Bool:=lineP (splitC 10 t) true actionsK
def readB (t:List UInt8):List (List UInt8)×List (List UInt8)×Bool:=lineP (readA t).2.1 ((readA t).2.2&&(readA t).1.all numB) targetK
def readC (t:List UInt8):List (List UInt8)×List (List UInt8)×Bool:=lineP (readB t).2.1 (readB t).2.2 stateK
theorem lineP_mem {L:List (List UInt8)} {ok:Bool} {w:List UInt8} {N:Nat} (h:∀ x∈L,x.length≤N):(∀ x∈(lineP L ok w).1,x.length≤N)∧(∀ x∈(lineP L ok w).2.1,x.length≤N)∧(lineP L ok w).1.length≤N+1:=by
 unfold lineP
 cases L with
 | nil=>simp
 | cons y L=>
  have hy:=h y (by simp)
  refine ⟨λx hx=>?_,λx hx=>h x (by simp [hx]),?_⟩
  ·have:=split_mem (c:=32) x (List.mem_of_mem_drop hx);omega
  ·have:=split_len (c:=32) (l:=y)
   simp;omega
section
variable {n:Nat} {t:List UInt8} (ht:t.length≤65536) (hn:1000000≤n)
include ht hn
omit hn in
theorem mem_rd:(∀ x∈(readA t).1,x.length≤65536)∧(readA t).1.length≤65537∧(∀ x∈(readB t).1,x.length≤65536)∧(readB t).1.length≤65537∧(∀ x∈(readC t).1,x.length≤65536)∧(readC t).1.length≤65537∧(∀ x∈(readA t).2.1,x.length≤65536)∧∀ x∈(readB t).2.1,x.length≤65536:=by
 obtain ⟨a1,a2,a3⟩:=lineP_mem (L:=splitC 10 t) (ok:=true) (w:=actionsK) (N:=65536) λx hx=>by have:=split_mem x hx;omega
 obtain ⟨b1,b2,b3⟩:=lineP_mem (ok:=((readA t).2.2&&(readA t).1.all numB)) (w:=targetK) a2
 obtain ⟨c1,c2,c3⟩:=lineP_mem (ok:=(readB t).2.2) (w:=stateK) b2
 exact ⟨a1,a3,b1,b3,c1,c3,a2,b2⟩
theorem sRead_in {R:Option (Scenario×Bool)} (h:(if (((!((readC t).2.2&&(readC t).1.all numB))||(((readA t).1.map numV).length:Int) != 2)||((readB t).1.length:Int) != 2)=true then
  some ((⟨(⟨0,0,(⟨false,0⟩:Target)⟩:Question),(readC t).1.map numV⟩:Scenario),false)
 else
  (idx ((readA t).1.map numV) 0).bind λx45_9=>
  (idx ((readA t).1.map numV) 1).bind λx48_10=>
  (idx (readB t).1 0).bind λx55_11=>
  (cut (readB t).1 1 ((readB t).1.length:Int)).bind λx63_12=>
  (scenario_reader_numbers n (readC t).2.1 ((readC t).2.2&&(readC t).1.all numB) x63_12).bind λx64_13=>
  (idx x64_13.1 0).bind λx66_14=>
  grd (!x64_13.2.2||(scenario_small n ((readA t).1.map numV)).isSome) <|
  grd (!(x64_13.2.2&&((scenario_small n ((readA t).1.map numV)).getD default))||(scenario_small n x64_13.1).isSome) <|
  grd (!((x64_13.2.2&&((scenario_small n ((readA t).1.map numV)).getD default))&&((scenario_small n x64_13.1).getD default))||(scenario_small n ((readC t).1.map numV)).isSome) <|
  grd (!(((x64_13.2.2&&((scenario_small n ((readA t).1.map numV)).getD default))&&((scenario_small n x64_13.1).getD default))&&((scenario_small n ((readC t).1.map numV)).getD default))||(scenario_text n (⟨(⟨x45_9,x48_10,(⟨decide (x55_11=[104,111,108,100]),x66_14⟩:Target)⟩:Question),(readC t).1.map numV⟩:Scenario)).isSome) <|
  some ((⟨(⟨x45_9,x48_10,(⟨decide (x55_11=[104,111,108,100]),x66_14⟩:Target)⟩:Question),(readC t).1.map numV⟩:Scenario),(((x64_13.2.2&&((scenario_small n ((readA t).1.map numV)).getD default))&&((scenario_small n x64_13.1).getD default))&&((scenario_small n ((readC t).1.map numV)).getD default))&&(decide (((scenario_text n (⟨(⟨x45_9,x48_10,(⟨decide (x55_11=[104,111,108,100]),x66_14⟩:Target)⟩:Question),(readC t).1.map numV⟩:Scenario)).getD default)=t))))=R):scenario_read n t=R:=by
 obtain ⟨m1,m2,m3,m4,m5,m6,m7,m8⟩:=mem_rd ht
 have hsp:strings_Split n t [10]=some (splitC 10 t):=by unfold strings_Split;simp only [];rw [if_pos (by omega)]
 have actE:scenario_reader_line n (splitC 10 t) true [97,99,116,105,111,110,115]=some (readA t):=line_eq λx hx=>by have:=split_mem x hx;omega
 have nA:scenario_reader_numbers n (readA t).2.1 (readA t).2.2 (readA t).1=some ((readA t).1.map numV,(readA t).2.1,(readA t).2.2&&(readA t).1.all numB):=nums_eq (λx hx=>by have:=m1 x hx;omega) (by omega) hn
 have eB:scenario_reader_line n (readA t).2.1 ((readA t).2.2&&(readA t).1.all numB) [116,97,114,103,101,116]=some (readB t):=line_eq λx hx=>by have:=m7 x hx;omega
 have eC:scenario_reader_line n (readB t).2.1 (readB t).2.2 [115,116,97,116,101]=some (readC t):=line_eq λx hx=>by have:=m8 x hx;omega
 have nC:scenario_reader_numbers n (readC t).2.1 (readC t).2.2 (readC t).1=some ((readC t).1.map numV,(readC t).2.1,(readC t).2.2&&(readC t).1.all numB):=nums_eq (λx hx=>by have:=m5 x hx;omega) (by omega) hn
 unfold scenario_read
 rw [hsp,ya,actE,ya,nA,ya,eB,ya,eC,ya,nC,ya]
 exact h
theorem sRead_1:∃ o b,scenario_read n t=some (o,b)∧(b=true→t=textP o∧SmallQ o∧o.state.length≤100000):=by
 obtain ⟨m1,m2,m3,m4,m5,m6,m7,m8⟩:=mem_rd ht
 by_cases hc:(((!((readC t).2.2&&(readC t).1.all numB))||(((readA t).1.map numV).length:Int) != 2)||((readB t).1.length:Int) != 2)=true
 ·exact ⟨_,false,sRead_in ht hn (by rw [if_pos hc]),by simp⟩
 ·have hc2:=hc
  simp only [yr,yz,bne_iff_ne,not_or,Bool.not_eq_false,Decidable.not_not] at hc2
  obtain ⟨⟨-,hA⟩,hB⟩:=hc2
  obtain ⟨e,f,hef⟩:∃ e f,(readA t).1.map numV=[e,f]:=by
   match hh:(readA t).1.map numV with
   | []=>rw [hh] at hA;simp at hA
   | [_]=>rw [hh] at hA;simp at hA
   | [e,f]=>exact ⟨e,f,rfl⟩
   | _::_::_::_=>rw [hh] at hA;simp at hA;omega
  obtain ⟨k,x,hkx⟩:∃ k x,(readB t).1=[k,x]:=by
   match hh:(readB t).1 with
   | []=>rw [hh] at hB;simp at hB
   | [_]=>rw [hh] at hB;simp at hB
   | [e,f]=>exact ⟨e,f,rfl⟩
   | _::_::_::_=>rw [hh] at hB;simp at hB;omega
  have hx:=m3 x (by rw [hkx];simp)
  have hn1:scenario_reader_numbers n (readC t).2.1 ((readC t).2.2&&(readC t).1.all numB) [x]=some ([numV x],(readC t).2.1,((readC t).2.2&&(readC t).1.all numB)&&numB x):=by
   have:=nums_eq (n:=n) (L:=(readC t).2.1) (W:=[x]) (ok:=((readC t).2.2&&(readC t).1.all numB)) (λy hy=>by simp at hy;subst hy;omega) (by simp) hn
   simpa using this
  have s1:scenario_small n [e,f]=some (sm6B [e,f]):=small6_eq (by simp) hn
  have s2:scenario_small n [numV x]=some (sm6B [numV x]):=small6_eq (by simp) hn
  have s3:scenario_small n ((readC t).1.map numV)=some (sm6B ((readC t).1.map numV)):=small6_eq (by simp;omega) hn
  have cB:cut [k,x] 1 (([k,x]:List (List UInt8)).length:Int)=some [x]:=rfl
  have i0:idx [e,f] 0=some e:=rfl
  have i1:idx [e,f] 1=some f:=rfl
  have i2:idx [k,x] 0=some k:=rfl
  have i3:idx [numV x] 0=some (numV x):=rfl
  generalize hok:(((readC t).2.2&&(readC t).1.all numB)&&numB x)=ok at hn1
  generalize hst:(readC t).1.map numV=st at s3
  have hsl:st.length≤65537:=by rw [← hst];simp;omega
  generalize ho:(⟨⟨e,f,⟨decide (k=[104,111,108,100]),numV x⟩⟩,st⟩:Scenario)=o
  have hsm:sm6B [e,f]=true→sm6B [numV x]=true→sm6B st=true→SmallQ o:=λh1 h2 h3=>by
   rw [← ho]
   exact ⟨sm6B_iff.1 h1 e (by simp),sm6B_iff.1 h1 f (by simp),sm6B_iff.1 h2 _ (by simp),sm6B_iff.1 h3⟩
  have hol:o.state.length≤100000:=by rw [← ho];simp only [];omega
  have htx:sm6B [e,f]=true→sm6B [numV x]=true→sm6B st=true→scenario_text n o=some (textP o):=λh1 h2 h3=>sText_eq (hsm h1 h2 h3) hol hn
  refine ⟨o,(((ok&&sm6B [e,f])&&sm6B [numV x])&&sm6B st)&&decide ((scenario_text n o).getD default=t),sRead_in ht hn ?_,λhb=>?_⟩
  ·rw [if_neg hc,hef,i0,ya,i1,ya,hkx,i2,ya,cB,ya,hn1,ya,i3,ya,s1,s2,hst,s3,ho]
   simp only [yi,yt,grd,if_true,yh]
   by_cases hall:(((ok&&sm6B [e,f])&&sm6B [numV x])&&sm6B st)=true
   ·have h4:=hall
    simp only [yc] at h4
    rw [htx h4.1.1.2 h4.1.2 h4.2];simp
   ·simp only [yH] at hall
    rw [hall];simp
  ·simp only [yc,yd] at hb
   obtain ⟨⟨⟨⟨-,h1⟩,h2⟩,h3⟩,h4⟩:=hb
   rw [htx h1 h2 h3,yh] at h4
   exact ⟨h4.symm,hsm h1 h2 h3,hol⟩
end
theorem sRead_2 {n:Nat} {s:Scenario} (hq:SmallQ s) (ht:(textP s).length≤65536) (hl:s.state.length≤100000) (hn:1000000≤n):scenario_read n (textP s)=some (s,true):=by
 obtain ⟨a1,a2⟩:=nums_itoa (ef6 hq)
 obtain ⟨b1,b2⟩:=nums_itoa (ix6 hq)
 obtain ⟨c1,c2⟩:=nums_itoa hq.st
 have rA:readA (textP s)=([itoaL s.question.e,itoaL s.question.f],[lineB s,lineC s,[]],true):=by
  unfold readA lineP
  rw [split_text hq]
  simp only [split_A hq]
  simp
 have rB:readB (textP s)=([kindW s.question.target.hold,itoaL s.question.target.index],[lineC s,[]],true):=by
  unfold readB lineP
  rw [rA]
  simp only [split_B hq]
  simp only [yI,List.map_nil] at a2
  rw [a2];simp
 have rC:readC (textP s)=(s.state.map itoaL,[[]],true):=by
  unfold readC lineP
  rw [rB]
  simp only [split_C hq]
  simp
 simp only [yI,List.map_nil] at a1 b1 b2
 have hx:=itoa6_len hq.ix
 refine sRead_in ht hn ?_
 rw [rA,rB,rC]
 simp only [yI,List.map_nil,a1,c1,c2]
 have cB:cut [kindW s.question.target.hold,itoaL s.question.target.index] 1 (([kindW s.question.target.hold,itoaL s.question.target.index]:List (List UInt8)).length:Int)=some [itoaL s.question.target.index]:=rfl
 have i0:idx [s.question.e,s.question.f] 0=some s.question.e:=rfl
 have i1:idx [s.question.e,s.question.f] 1=some s.question.f:=rfl
 have i2:idx [kindW s.question.target.hold,itoaL s.question.target.index] 0=some (kindW s.question.target.hold):=rfl
 have i3:idx [s.question.target.index] 0=some s.question.target.index:=rfl
 have hn1:scenario_reader_numbers n [[]] true [itoaL s.question.target.index]=some ([s.question.target.index],[[]],true):=by
  have:=nums_eq (n:=n) (L:=[[]]) (W:=[itoaL s.question.target.index]) (ok:=true) (λy hy=>by simp only [yK] at hy;subst hy;omega) (by simp) hn
  rw [yI,List.map_nil,b1,b2] at this
  exact this
 have s1:scenario_small n [s.question.e,s.question.f]=some true:=by rw [small6_eq (by simp) hn];exact congrArg some (sm6B_iff.2 (ef6 hq))
 have s2:scenario_small n [s.question.target.index]=some true:=by rw [small6_eq (by simp) hn];exact congrArg some (sm6B_iff.2 (ix6 hq))
 have s3:scenario_small n s.state=some true:=by rw [small6_eq hl hn];exact congrArg some (sm6B_iff.2 hq.st)
 have hk:decide (kindW s.question.target.hold=[104,111,108,100])=s.question.target.hold:=by cases s.question.target.hold <;> decide
 have c1b:(!(true&&true)||((([s.question.e,s.question.f]:List Int).length:Int) != 2)||((([kindW s.question.target.hold,itoaL s.question.target.index]:List (List UInt8)).length:Int) != 2))=false:=rfl
 rw [c1b,if_neg (by simp),i0,ya,i1,ya,i2,ya,cB,ya,ut,hn1,ya]
 simp only [i3,ya,s1,s2,s3,hk,sText_eq hq hl hn,yi,yt,grd,if_true,yh,uI,decide_true]
def TextOf (t:List UInt8) (s:Scenario):Prop:=t=textP s∧SmallQ s
theorem text_long {s:Scenario}:s.state.length≤(textP s).length:=by
 have:∀ l:List Int,l.length≤(spaced l).length:=by
  intro l
  induction l with
  | nil=>simp
  | cons x l ih=>rw [spaced_cons];simp;omega
 have:=this s.state
 unfold textP lineC
 simp;omega
def zeroS:Scenario:=⟨⟨0,0,⟨false,0⟩⟩,[]⟩
section
variable {n:Nat} {m:Model} {t:List UInt8} (hF:Fuel n) (hS:SmallM m) (ht:t.length≤65536)
include hF hS ht
theorem sParse_1 {s:Scenario} (h:TextOf t s):scenario_Parse n m t=some (if suitP m s=true then (s,0) else (zeroS,1)):=by
 obtain ⟨rfl,hq⟩:=h
 have hn:=hF.big
 have hl:=text_long (s:=s)
 unfold scenario_Parse
 rw [if_neg (by simp;omega),sRead_2 hq ht (by omega) (by omega),ya,if_neg (by simp),suits_eq hF hS,ya]
 cases suitP m s <;> rfl
theorem sParse_0 (h:∀ s,¬ TextOf t s):scenario_Parse n m t=some (zeroS,3):=by
 have hn:=hF.big
 obtain ⟨o,b,e,hb⟩:=sRead_1 (n:=n) ht (by omega)
 unfold scenario_Parse
 rw [if_neg (by simp;omega),e,ya]
 cases b with
 | false=>rfl
 | true=>exact absurd ⟨(hb rfl).1,(hb rfl).2.1⟩ (h o)
end
end Go.Proofs.YtbnhmfnagdgcmaaGreatDoor
