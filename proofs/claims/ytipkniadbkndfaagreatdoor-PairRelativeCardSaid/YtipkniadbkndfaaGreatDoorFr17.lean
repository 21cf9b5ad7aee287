/- Part of the proof of one law of the seat. -/
import Derived.Test.YtipkniadbkndfaaGreatDoorFr05
set_option linter.unusedVariables false
set_option linter.unusedSectionVars false
set_option linter.unusedSimpArgs false
set_option maxRecDepth 100000
set_option maxHeartbeats 40000000
namespace Go.Proofs.YtipkniadbkndfaaGreatDoor
open Go Go.RowKit
abbrev yr:=@_root_.Option.isSome_some
abbrev yv:=@_root_.List.take_succ_eq_append_getElem
abbrev yB:=@_root_.Bool.or_true
abbrev yS:=@_root_.Bool.not_eq_true
abbrev ub:=@_root_.Nat.mul_le_mul
abbrev ud:=@_root_.Bool.or_eq_false_iff
abbrev uf:=@_root_.Bool.false_and
abbrev uo:=@_root_.Bool.not_true
abbrev uq:=@_root_.Nat.pow_le_pow_right
abbrev ur:=@_root_.Bool.not_false
abbrev uA:=@_root_.Bool.true_or
abbrev uC:=@_root_.List.length_replicate
abbrev uF:=@_root_.Int.natCast_mul
abbrev uK:=@_root_.Bool.false_or
abbrev uS:=@_root_.Bool.and_self
theorem zM {σ R} {body} {len} {st:Nat→σ} {g:Nat→Option R}
  (hb:∀ rec i,i<len→rec (st (i+1))=g (i+1)→body rec (st i)=g i) (he:∀ rec,body rec (st len)=g len) :
  ∀ n i,i≤len→len - i<n→ztz body n (st i)=g i
 | 0,_,_,h=>by omega
 | n+1,i,a,h=>by
  simp only [ztz];by_cases e:i=len
  ·simp_all
  ·exact hb _ i (by omega) (zM hb he n (i+1) (by omega) (by omega))
theorem zd {i:Nat} (h:i<4611686018427387904):ztu (i:Int) 1=((i+1:Nat):Int):=by
 grind [ztu,zao]
theorem zb {α} {l:List α} {i} (h:i<l.length):idx l (i:Int)=some l[i]:=by
 unfold idx;simp_all
theorem zB {α:Type} {l:List α} {i} (h:i<l.length):decide ((i:Int)<(l.length:Int))=true:=by simp_all
theorem zaw {α:Type} {l:List α}:decide (((l.length:Nat):Int)<(l.length:Int))=false:=by simp
def zz:List Change→Int→Int
 | [],_=>0
 | d::l,c=>if d.cell=c then d.add else zz l c
theorem zm {α:Type} {l:List α} {i} (h):l.drop i=l[i]::l.drop (i+1):=List.drop_eq_getElem_cons h
theorem zag {n} {a} (c) (hl:a.effect.delta.length<4611686018427387904) (hn:a.effect.delta.length<n):zR n a c=some (zz a.effect.delta c):=by
 have:=zM (body:=zR.l1 n a c) (len:=a.effect.delta.length) (st:=λi=>i) (g:=λi=>some (zz (a.effect.delta.drop i) c)) (λb i d e=>?_) (λb=>?_) n 0 (yo _) (by omega)
 ·grind [zR]
 ·simp only [zR.l1,zb d,zd (i:=i) (by omega)];rw [zm d];simp only [zz]
  grind
 ·simp [zR.l1,zz]
def zcA (f:Int→Int):List Term→Int→Int
 | [],s=>s
 | t::l,s=>zcA f l (ztu s (ztG t.ztE (f t.cell)))
def zwS (f:Int→Int) (l:List Term) (i:Nat):Int:=zcA f (l.take i) 0
theorem zgM (f):∀ (l m) (s),zcA f (l++m) s=zcA f m (zcA f l s)
 | [],_,_=>rfl
 | _::l,m,s=>by exact zgM f l m _
theorem zli (f) {l i} (h):zwS f l (i+1)=ztu (zwS f l i) (ztG l[i].ztE (f l[i].cell)):=by
 unfold zwS;rw [yv h,zgM];rfl
theorem zcq {n} {a r} (h1:a.effect.delta.length<4611686018427387904) (h2:a.effect.delta.length<n) (h3:r.zty.length<4611686018427387904) (h4:r.zty.length<n) :
  zH n a r=some (zcA (zz a.effect.delta) r.zty 0):=by
 have:=zM (body:=zH.l1 n a r) (len:=r.zty.length) (st:=λi=>(zwS (zz a.effect.delta) r.zty i,i)) (g:=λ_=>some (zcA (zz a.effect.delta) r.zty 0)) (λc i b d=>?_) (λc=>?_) n 0 (yo _) (by omega)
 ·grind [zH,zwS,zcA]
 ·simp only [zH.l1,zB b,if_true,zb b,ya,zag _ h1 h2,zd (i:=i) (by omega),← zli _ b,d]
 ·simp [zH.l1,zwS]
def addP (c:Int):List Change→Int→Int
 | [],s=>s
 | d::l,s=>addP c l (if d.cell=c then ztu s d.add else s)
theorem zjC (c):∀ (l m) (s),addP c (l++m) s=addP c m (addP c l s)
 | [],_,_=>rfl
 | _::l,m,s=>by exact zjC c l m _
theorem zeQ {n} {e} (c) (hl:e.delta.length<4611686018427387904) (hn:e.delta.length<n):za1 n e c=some (addP c e.delta 0):=by
 have:=zM (body:=za1.l1 n e c) (len:=e.delta.length) (st:=λi=>(addP c (e.delta.take i) 0,i)) (g:=λ_=>some (addP c e.delta 0)) (λa i d b=>?_) (λa=>?_) n 0 (yo _) (by omega)
 ·grind [za1,addP]
 ·rw [yv d,zjC] at b;simp only [addP] at b;simp only [za1.l1,zb d,jn,zd (i:=i) (by omega)]
  grind
 ·simp [za1.l1]
theorem zmU {n} {e r} (h1:e.delta.length<4611686018427387904) (h2:e.delta.length<n) (h3:r.zty.length<4611686018427387904) (h4:r.zty.length<n) :
  zbt n e r=some (zcA (λc=>addP c e.delta 0) r.zty 0):=by
 have:=zM (body:=zbt.l1 n e r) (len:=r.zty.length) (st:=λi=>(zwS (λc=>addP c e.delta 0) r.zty i,i)) (g:=λ_=>some (zcA (λc=>addP c e.delta 0) r.zty 0)) (λb i a d=>?_) (λb=>?_) n 0 (yo _) (by omega)
 ·grind [zbt,zwS,zcA]
 ·rw [zli _ a] at d;simp only [zbt.l1,zB a,if_true,zb a,ya,zeQ _ h1 h2,zd (i:=i) (by omega),d]
 ·simp [zbt.l1,zwS]
theorem zkP (c):∀ (l) (s),(∀ d∈l,d.cell≠c)→addP c l s=s
 | [],_,_=>rfl
 | d::l,s,h=>by
  simp only [addP];rw [if_neg (h d (by simp))];exact zkP c l s λx a=>h x (by grind)
theorem zjB (c):∀ (l),(l.map (·.cell)).Nodup→(∀ d∈l,-9223372036854775808≤d.add∧d.add≤9223372036854775807)→addP c l 0=zz l c
 | [],_,_=>rfl
 | d::l,a,f=>by
  simp only [yY,List.nodup_cons,y9,not_exists,not_and] at a;simp only [addP,zz];split <;> rename_i h
  ·rw [zkP c l _ λx b e=>a.1 x b (e.trans h.symm)];unfold ztu;grind [zao]
  ·exact zjB c l a.2 λx b=>f x (by grind)
section
variable {κ:Type} [DecidableEq κ]
structure zvS (m:GMap κ Bool) (l:List κ):Prop where
 tru:∀ e∈m.es,e.2.2=true
 mem:∀ k,k∈m.es.map (λe=>e.2.1)↔k∈l
theorem zjP (k):∀ (es:List (Nat×κ×Bool)),(∀ e∈es,e.2.2=true)→((zuA k es).map (·.2)).getD false=decide (k∈es.map (λe=>e.2.1))
 | [],_=>by simp [zuA]
 | e::es,h=>by
  simp only [zuA,yY,yG];by_cases a:k=e.2.1
  ·simp_all
  ·have:=zjP k es λx b=>h x (by grind)
   simp only [a,false_or,← this];cases zuA k es <;> rfl
theorem zn9 (k):∀ (es:List (Nat×κ×Bool)),zuA k es=none→k∉es.map (λe=>e.2.1)
 | [],_=>by simp
 | e::es,h=>by
  simp only [zuA] at h;split at h
  ·cases h
  ·rename_i a;simp only [Option.map_eq_none_iff] at h;simp only [yY,yG,not_or];exact ⟨a,zn9 k es h⟩
theorem zjQ (k):∀ (es:List (Nat×κ×Bool)) (p),zuA k es=some p→k∈es.map (λe=>e.2.1)
 | [],_,h=>by grind [zuA]
 | e::es,p,h=>by
  simp only [zuA] at h;split at h
  ·simp_all
  ·simp only [Option.map_eq_some_iff] at h;obtain ⟨q,a,_⟩:=h;exact yW _ (zjQ k es q a)
theorem zvS.get {m} {l} (h:zvS m l) (k:κ):(m.get? k).getD false=decide (k∈l):=by
 unfold GMap.get?;rw [zjP k m.es h.tru];exact decide_eq_decide.2 (h.mem k)
theorem zvS.empty:zvS (GMap.empty:GMap κ Bool) []:=⟨λe a=>(by grind [GMap.empty]),λk=>by simp [GMap.empty]⟩
theorem zg9 (f) (hf:∀ e,(f e).2.1=e.2.1):∀ (es:List (Nat×κ×Bool)) (i),(es.modify i f).map (λe=>e.2.1)=es.map (λe=>e.2.1)
 | [],_=>by simp
 | e::es,0=>by grind
 | e::es,i+1=>by simp [zg9 f hf es i]
theorem ziA {p:Nat×κ×Bool→Prop} (f) (hf:∀ e,p (f e)):∀ (es:List (Nat×κ×Bool)) (i),(∀ e∈es,p e)→∀ e∈es.modify i f,p e
 | [],_,_=>by simp
 | e::es,0,h=>by
  grind
 | e::es,i+1,h=>by
  intro x a;simp only [List.modify_succ_cons,yG] at a;rcases a with rfl | a
  ·simp_all
  ·exact ziA f hf es i (λy b=>h y (by grind)) x a
theorem zvS.put {m} {l} (h:zvS m l) (k:κ):zvS (m.put k true) (l++[k]):=by
 unfold GMap.put;cases d:zuA k m.es with
 | none=>
  refine ⟨λe a=>?_,λx=>?_⟩
  ·simp only [yu,yM] at a;rcases a with a | rfl
   ·exact h.tru e a
   ·rfl
  ·simp only [ul,yY,List.map_nil,yu,h.mem x]
 | some p=>
  obtain ⟨i,b⟩:=p;have c :=(h.mem k).1 (zjQ k m.es _ d);refine ⟨ziA (p:=λe=>e.2.2=true) _ (λe=>rfl) m.es i h.tru,λx=>?_⟩;rw [zg9 (λe =>(e.1,e.2.1,true)) (λe=>rfl) m.es i,h.mem x];simp_all
end
def ixP {α:Type} (p:α→Bool):List α→Nat→Int
 | [],_=>-1
 | x::l,i=>if p x=true then (i:Int) else ixP p l (i+1)
theorem zp4 {α} (p):∀ (l:List α) (i),0≤ixP p l i↔l.any p=true
 | [],_=>by simp [ixP]
 | x::l,i=>by
  have a:=zp4 p l (i+1);rw [ixP,List.any_cons]
  grind
theorem zf2 {α} (p) (l:List α) (i):decide (0≤ixP p l i)=l.any p:=by
 have:=zp4 p l i
 grind
theorem ze8 {n l f p} (hf:∀ x∈l,f x=some (p x)) (hl:l.length<4611686018427387904) (hn:l.length<n):zP n l f=some (ixP p l 0):=by
 have:=zM (body:=zP.l1 n l f) (len:=l.length) (st:=λi=>i) (g:=λi=>some (ixP p (l.drop i) i)) (λa i b c=>?_) (λa=>?_) n 0 (yo _) (by omega)
 ·grind [zP]
 ·simp only [zP.l1,zb b,zd (i:=i) (by omega)]
  grind [zm,ixP]
 ·simp [zP.l1,ixP]
theorem zbj {n} {l} {f} {p} (hf:∀ x∈l,f x=some (p x)) (hl:l.length<4611686018427387904) (hn:l.length<n):zr n l f=some (l.any p):=by
 unfold zr;rw [ze8 hf hl hn,ya,zf2]
def zcw (x:Int):Bool:=decide (1≤x)&&decide (x≤6)
def zum (sizes:List Int) (c:Int):Bool:=decide (0≤c)&&decide (c<(sizes.length:Int))
theorem znp {α:Type} (p) (l:List α):(!l.any λx=>!p x)=l.all p:=by
 grind
theorem zkx {n} {l} (hl:l.length<4611686018427387904) (hn:l.length<n):zfs n l=some (l.all zcw):=by
 unfold zfs;rw [zbj (p:=λx=>!zcw x) (λx _=>by simp [zft,zdS,zcw]) hl hn,ya,znp]
theorem zih {n} {sizes cols} (hl:cols.length<4611686018427387904) (hn:cols.length<n):zdO n sizes cols=some (decide (cols.length≤3)&&cols.all (zum sizes)):=by
 unfold zdO;rw [zbj (p:=λx=>!zum sizes x) (λx _=>by
  simp only [zc7,zum,yn]
  grind) hl hn]
 simp only [yr,yB,grd,if_true,yn]
 grind
theorem zgT {n l} (hl:l.length<4611686018427387904) (hn:l.length<n):zbA n l=some (l.all zcw):=by
 have:=zM (body:=zbA.l1 n l) (len:=l.length) (st:=λi=>i) (g:=λi=>some ((l.drop i).all zcw)) (λa i b c=>?_) (λa=>?_) n 0 (yo _) (by omega)
 ·grind [zbA]
 ·simp only [zbA.l1,zb b,grd,zd (i:=i) (by omega)];rw [zm b];simp only [um,zcw]
  grind
 ·simp [zbA.l1]
def zas (sizes:List Int):List Int→Int→Int
 | [],s=>s
 | c::l,s=>zas sizes l (ztG s (sizes.getD c.toNat 0))
theorem zdE (sizes):∀ (l m) (s),zas sizes (l++m) s=zas sizes m (zas sizes l s)
 | [],_,_=>rfl
 | _::l,m,s=>by exact zdE sizes l m _
theorem zfx {sizes c} (h:zum sizes c=true):idx sizes c=some (sizes.getD c.toNat 0):=by
 simp only [zum] at h
 grind [zb]
theorem zeY {n sizes cols} (hc:cols.all (zum sizes)=true) (hl:cols.length<4611686018427387904) (hn:cols.length<n):zba n sizes cols=some (zas sizes cols 1):=by
 have:=zM (body:=zba.l1 n sizes cols) (len:=cols.length) (st:=λi=>(zas sizes (cols.take i) 1,i)) (g:=λ_=>some (zas sizes cols 1)) (λc i a b=>?_) (λc=>?_) n 0 (yo _) (by omega)
 ·grind [zba,zas]
 ·rw [yv a,zdE] at b;simp only [zas] at b;simp only [zba.l1,zB a,if_true,zb a,ya,zfx (yp.1 hc _ (yi a)),zd (i:=i) (by omega),b]
 ·simp [zba.l1]
theorem znH {n sizes cols} (hl:cols.length<4611686018427387904) (hn:cols.length<n):ztz (zak.l1 n sizes cols) n (1,0)=some (if cols.all (zum sizes)=true then zas sizes cols 1 else 0):=by
 by_cases h:cols.all (zum sizes)=true
 ·have:=zM (body:=zak.l1 n sizes cols) (len:=cols.length) (st:=λi=>(zas sizes (cols.take i) 1,i)) (g:=λ_=>some (zas sizes cols 1)) (λe i b d=>?_) (λe=>?_) n 0 (yo _) (by omega)
  ·grind [zas]
  ·rw [yv b,zdE] at d;simp only [zas] at d;have a:=yp.1 h _ (yi b);have f:=zfx a;simp only [zum] at a;have c:((decide (cols[i]<0))||(decide (sizes.length≤cols[i])))=false:=by
    simp_all
   simp only [zak.l1,zB b,if_true,zb b,ya,yr,yB,grd,yj,c,ye,if_false,f,zd (i:=i) (by omega),d]
  ·simp [zak.l1]
 ·have:=zM (body:=zak.l1 n sizes cols) (len:=cols.length) (st:=λi=>(zas sizes (cols.take i) 1,i)) (g:=λi=>some (if (cols.drop i).all (zum sizes)=true then zas sizes cols 1 else 0)) (λe i b d=>?_) (λe=>?_) n 0 (yo _) (by omega)
  ·grind [zas]
  ·rw [yv b,zdE] at d;simp only [zas] at d;rw [zm b,um];by_cases a:zum sizes cols[i]=true
   ·have f:=zfx a;rw [a,yD];simp only [zum] at a;have c:((decide (cols[i]<0))||(decide (sizes.length≤cols[i])))=false:=by
     simp_all
    simp only [zak.l1,zB b,if_true,zb b,ya,yr,yB,grd,yj,c,ye,if_false,f,zd (i:=i) (by omega),d]
   ·have c:((decide (cols[i]<0))||(decide (sizes.length≤cols[i])))=true:=by
     simp only [zum] at a
     grind
    simp only [yS] at a;rw [a,uf,if_neg (by simp)];simp only [zak.l1,zB b,if_true,zb b,ya,yr,yB,grd,yj,c]
  ·simp [zak.l1]
theorem zez {n sizes cols} (hl:cols.length<4611686018427387904) (hn:cols.length<n) (hs:sizes.length<4611686018427387904) (hsn:sizes.length<n) :
  zak n sizes cols=some (if (decide (cols.length≤3)&&sizes.all zcw&&cols.all (zum sizes))=true then zas sizes cols 1 else 0):=by
 unfold zak;rw [zgT hs hsn,znH hl hn];simp only [grd]
 grind
theorem zde {S R} {body} (μ:S→Nat) (I:S→Prop) (Q:S→Option R→Prop)
  (hb:∀ rec s,I s→(∀ s',I s'→μ s'<μ s→Q s' (rec s'))→Q s (body rec s)):∀ n s,I s→μ s<n→Q s (ztz body n s)
 | 0,_,_,h=>by omega
 | n+1,s,c,h=>hb _ s c λs' a b=>zde μ I Q hb n s' a (by omega)
theorem zbd {σ S R:Type} {body} {len} {st:σ→Nat→S} {g:Nat→σ→Option R} (I:Nat→σ→Prop)
  (hb:∀ rec i s,i<len→I i s→(∀ s',I (i+1) s'→rec (st s' (i+1))=g (i+1) s')→body rec (st s i)=g i s) (he:∀ rec s,I len s→body rec (st s len)=g len s) :
  ∀ n i s,i≤len→len - i<n→I i s→ztz body n (st s i)=g i s
 | 0,_,_,_,h,_=>by omega
 | n+1,i,s,c,h,b=>by
  simp only [ztz];by_cases e:i=len
  ·grind
  ·exact hb _ i s (by omega) b λs' a=>zbd I hb he n (i+1) s' (by omega) (by omega) a
theorem zeZ {S R} {body:(S→Option R)→S→Option R} {n} (h:0<n) (s):ztz body n s=body (ztz body (n - 1)) s:=by
 obtain ⟨m,rfl⟩:∃ m,n=m+1:=⟨n - 1,by omega⟩
 rfl
theorem zc2 {a b:Nat} (h:a+b<9223372036854775808):ztu (a:Int) (b:Int)=((a+b:Nat):Int):=by
 grind [ztu,zao]
theorem zda {l:List UInt8} {i} (h:i<l.length):sidx l (i:Int)=some ((l[i].toNat:Nat):Int):=by
 unfold sidx;grind
theorem zfW {α} {l:List α} {a b} (h1:a≤b) (h2:b≤l.length):cut l (a:Int) (b:Int)=some ((l.drop a).take (b - a)):=by
 unfold cut;grind
theorem zim {α} {l:List α} {a} (h1:a≤l.length):cut l (a:Int) (l.length:Int)=some (l.drop a):=by
 rw [zfW h1 (ym _),List.take_of_length_le (by simp)]
theorem zr0 {α} {l:List α}:cut l 0 (l.length:Int)=some l:=by
 have:=zim (l:=l) (a:=0) (by omega);grind
theorem zj1 {i k:Nat} (h:i<k):decide ((i:Int)<(k:Int))=true:=by grind
theorem zhC {i k:Nat} (h:k≤i):decide ((i:Int)<(k:Int))=false:=by grind
def runP (p:Int→Bool):List UInt8→Nat
 | []=>0
 | b::l=>if p (b.toNat:Nat)=true then runP p l+1 else 0
theorem zkl (p):∀ l,runP p l≤l.length
 | []=>ym _
 | b::l=>by
  simp only [runP];split
  ·exact Nat.succ_le_succ (zkl p l)
  ·omega
theorem zf4 {n} {l} {f p} (hf:∀ q,f q=some (p q)) (hl:l.length<4611686018427387904) (hn:l.length<n):zcK n l f=some ((runP p l:Nat):Int):=by
 have:=zM (body:=zcK.l1 n l f) (len:=l.length) (st:=λi=>i) (g:=λi=>some ((i+runP p (l.drop i)))) (λa i b c=>?_) (λa=>?_) n 0 (yo _) (by omega)
 ·grind [zcK]
 ·simp only [zcK.l1,zda b,grd,zd (i:=i) (by omega)]
  grind [zm,runP]
 ·simp [zcK.l1,runP,grd]
def zbQ (q:Int):Bool:=decide (97≤q)&&decide (q≤122)
def ziV (q:Int):Bool:=decide (48≤q)&&decide (q≤57)
def zu6 (q:Int):Bool:=(zbQ q||ziV q)||(q==95)
theorem zjY {n q}:zcJ n q=some (zbQ q):=rfl
theorem zky {n q}:zbL n q=some (ziV q):=rfl
theorem zfF {n q}:za5 n q=some (zbQ q):=rfl
theorem zeR {n q}:zbN n q=some (ziV q):=rfl
def zdn (q:Int):Bool:=!(q==9||q==10||q==13||q==32||q==35)
theorem zdW {q} (h:zbQ q=true):zdn q=true:=by
 simp only [zbQ] at h
 grind [zdn,Bool.or_eq_false_iff]
theorem zlT {n} {l} (hl:l.length<1000000) (hn:1000000≤n) :
  ∃ k:Nat,zcT n l=some (k:Int)∧k≤l.length∧(∀ h ,zdn (l[0].toNat:Nat)=true→k=0)∧(∀ h ,zdn (l[0].toNat:Nat)=false→0<k):=by
 have:=zde (body:=zcT.l1 n l) (λs:Int=>l.length - s.toNat) (λs=>∃ i:Nat,s=i∧i≤l.length) (λs o=>∃ k:Nat,o=some (k:Int)∧k≤l.length∧s.toNat≤k∧∀ h:s.toNat<l.length,(zdn (l[s.toNat].toNat:Nat)=true→k=s.toNat)∧(zdn (l[s.toNat].toNat:Nat)=false→s.toNat<k))
  (λrec s hI hr=>by
   obtain ⟨i,rfl,hi⟩:=hI;by_cases hlt:i<l.length
   ·simp only [zcT.l1,zB hlt,if_true,zda hlt,ya,zb6,yt];by_cases hw:((((((l[i].toNat:Nat):Int)==32)||(((l[i].toNat:Nat):Int)==9))||(((l[i].toNat:Nat):Int)==10))||(((l[i].toNat:Nat):Int)==13))=true
    ·rw [if_pos hw,zd (i:=i) (by omega)];obtain ⟨k,e,k1,k2,-⟩:=hr ((i+1:Nat):Int) ⟨i+1,rfl,by omega⟩ (by grind);simp only [yt] at k2;refine ⟨k,e,k1,by omega,λh=>⟨λhb=>?_,λhb=>by omega⟩⟩;exfalso;simp only [yI,beq_iff_eq] at hw
     grind [zdn,Bool.not_eq_true',Bool.or_eq_false_iff,beq_eq_false_iff_ne]
    ·rw [if_neg hw];by_cases hh:((l[i].toNat:Nat):Int)=35
     ·rw [if_pos (by simp [hh]),zim hi,ya,zf4 (f:=λq=>zf5 n q) (p:=λq=>q != 10) (λq=>rfl) (by rw [ua];omega) (by rw [ua];omega),ya];have hrun:1≤runP (λq=>q != 10) (l.drop i):=by
       rw [zm hlt,runP,hh];simp
      have hle:=zkl (λq=>q != 10) (l.drop i);simp only [ua] at hle;rw [zc2 (by omega)];obtain ⟨k,e,k1,k2,-⟩:=hr ((i+runP (λq=>q != 10) (l.drop i):Nat):Int) ⟨_,rfl,by omega⟩ (by simp only [yt];omega);simp only [yt] at k2;refine ⟨k,e,k1,by omega,λh=>⟨λhb=>?_,λhb=>by omega⟩⟩;rw [hh] at hb;exact absurd hb (by decide)
     ·rw [if_neg (by simpa using hh)];refine ⟨i,rfl,hi,ym _,λh=>⟨λ_=>rfl,λhb=>?_⟩⟩;exfalso;simp only [yI,beq_iff_eq,not_or] at hw;simp only [zdn,Bool.not_eq_false',yI,beq_iff_eq] at hb;omega
   ·have:i=l.length:=by omega
    subst this;refine ⟨l.length,by simp [zcT.l1],ym _,by simp,λh=>by simp at h⟩) n 0 ⟨0,rfl,by omega⟩ (by simp;omega)
 grind [zcT]
theorem zf6 {n} {l} (hn:1000000≤n):∃ k:Int,zbl n l=some k:=by
 have:=zde (body:=zbl.l1 n l) (λs:Int=>5 - s.toNat) (λs=>∃ i:Nat,s=i∧i≤5) (λ_ o=>∃ k:Int,o=some k) (λrec s hI hr=>by
  obtain ⟨i,rfl,hi⟩:=hI;simp only [zbl.l1];generalize hL:([[61,61],[33,61],[60,61],[62,61],[46,46]]:List (List UInt8))=L;have hLl:L.length=5:=by grind
  by_cases hlt:i<L.length
  ·have hp:∃ b,zcW n l L[i]=some b:=by
    simp only [zcW,zbr];by_cases h:L[i].length≤l.length
    ·have:cut l 0 (L[i].length:Int)=some ((l.drop 0).take (L[i].length - 0)):=zfW (a:=0) (by omega) (by omega)
     simp [this,grd]
    ·simp [h,grd]
   obtain ⟨b,hp⟩:=hp;have hd:decide ((i:Int)<(([[61,61],[33,61],[60,61],[62,61],[46,46]]:List (List Nat)).length:Int))=true:=by grind
   simp only [hd,if_true,zb hlt,ya,hp,zd (i:=i) (by omega)];split
   ·grind
   ·exact hr _ ⟨i+1,rfl,by omega⟩ (by grind)
  ·have hd:decide ((i:Int)<(([[61,61],[33,61],[60,61],[62,61],[46,46]]:List (List Nat)).length:Int))=false:=by simp;omega
   rw [hd,if_neg (by simp)];cases l with
   | nil=>simp [grd]
   | cons b l=>
    have h0:sidx (b::l) 0=some ((b.toNat:Nat):Int):=zda (l:=b::l) (i:=0) (by simp)
    simp only [h0,zcj,zaW,ya,yr,yB,grd,if_true,yj]
    grind) n 0 ⟨0,rfl,by omega⟩ (by grind)
 grind [zbl]
theorem zjX {n} {l} (hn:1000000≤n) (h:0<l.length):∃ b,zdj n l=some b:=by
 obtain ⟨k,c⟩:=zf6 (n:=n) (l:=l) hn;have a:sidx l 0=some ((l[0].toNat)):=zda (i:=0) h;simp [zdj,a,zcJ,zbL,c,grd]
theorem zkz {n} {l} {k} (hl:l.length<1000000) (hn:1000000≤n) (h1:0<l.length):∃ e,ztz (zaz.l2 n l k) n 1=k (5,e):=by
 refine zde (body:=zaz.l2 n l k) (λs =>l.length - s.toNat) (λs=>∃ i:Nat,s=i∧i≤l.length) (λ_ o=>∃ e,o=k (5,e)) (λh s d f=>?_) n 1 ⟨1,rfl,h1⟩ (by grind);obtain ⟨i,rfl,g⟩:=d;by_cases a:i<l.length
 ·obtain ⟨b,c⟩:=zjX (n:=n) (l:=l.drop i) hn (by grind);simp only [zaz.l2,zda a,zb6,zim g,c,yr,yB,grd,if_true,yj,zd (i:=i) (by omega)];split
  ·exact f _ ⟨i+1,rfl,by omega⟩ (by omega)
  grind
 ·have:i=l.length:=by omega
  subst this;exact ⟨l.length,by simp [zaz.l2,grd]⟩
def zw8 (w:List UInt8):Bool:=(match w with | []=>false | b::_=>zbQ (b.toNat:Nat))&&decide (runP zu6 w=w.length)
theorem ziL (w) (h):zw8 w=(zbQ (w[0].toNat:Nat)&&decide (runP zu6 w=w.length)):=by
 cases w with
 | nil=>simp at h
 | cons b l=>rfl
theorem znE {n} {w} {kw} (hl:w.length<1000000) (hn:1000000≤n) (h0:0<w.length) :
  ∃ t,zaz n w kw=some t∧(t.at_=0∧t.end_=(w.length:Int)∧t.kind=1↔zw8 w=true∧(kw.get? w).getD false=false):=by
 obtain ⟨k,e,k1,k2,k3⟩:=zlT (n:=n) (l:=w) hl hn;unfold zaz;rw [zeZ (by omega)];have hz:ztu 0 (k:Int)=(k:Int):=by have:=zc2 (a:=0) (b:=k) (by omega);grind
 simp only [zaz.l1,zr0,ya,e,hz,zim k1,jn];by_cases hk:k=w.length
 ·subst hk;rw [if_pos (by simp)];refine ⟨_,rfl,?_⟩;simp only [];constructor
  ·grind
  ·rintro ⟨h,-⟩;exfalso;rw [ziL w h0,yd] at h
   grind [zdW]
 ·have hd:0<(w.drop k).length:=by grind
  rw [if_neg (by grind)];have hs:sidx (w.drop k) 0=some (((w.drop k)[0].toNat:Nat):Int):=zda (i:=0) hd;simp only [hs,ya,zjY];rw [ziL w h0];by_cases hlet:zbQ (((w.drop k)[0].toNat:Nat):Int)=true
  ·rw [if_pos hlet,zf4 (p:=zu6) (λq=>by simp [ziy,zcJ,zbL,grd,zu6,zbQ,ziV]) (by simp;omega) (by simp;omega)];have hle:=zkl zu6 (w.drop k);have hc:=zfW (l:=w.drop k) (a:=0) (b:=runP zu6 (w.drop k)) (by omega) hle;simp only [ya,Int.natCast_zero] at hc ⊢;rw [hc];simp only [ua] at hle;have ha:ztu (k:Int) (runP zu6 (w.drop k):Nat)=((k+runP zu6 (w.drop k):Nat):Int):=zc2 (by omega)
   simp only [ya,ha,List.drop_zero,Nat.sub_zero];by_cases hk0:k=0
   ·subst hk0;simp only [List.drop_zero] at hlet ⊢;by_cases hrun:runP zu6 w=w.length
    ·rw [hrun,List.take_of_length_le (ym _)];by_cases hkw:(kw.get? w).getD false=true
     ·rw [if_pos hkw];refine ⟨_,rfl,?_⟩;simp [hkw]
     ·rw [if_neg hkw];refine ⟨_,rfl,?_⟩;simp only [yS] at hkw;simp [hkw,hlet]
    ·split
     all_goals
      refine ⟨_,rfl,?_⟩;simp [hrun]
      try omega
   ·have hbl:zdn (w[0].toNat:Nat)=false:=by
     cases hb:zdn (w[0].toNat:Nat) with
     | false=>rfl
     | true=>exact absurd (k2 h0 hb) hk0
    have hnl:zbQ (w[0].toNat:Nat)=false:=by
     cases hb:zbQ (w[0].toNat:Nat) with
     | false=>rfl
     | true=>rw [zdW hb] at hbl;cases hbl
    split
    all_goals
     refine ⟨_,rfl,?_⟩;simp [hnl,hk0]
  ·rw [if_neg hlet];have hno:k=0→zbQ (w[0].toNat:Nat)=false:=by
    intro hk0;subst hk0;simp only [List.drop_zero,yS] at hlet;exact hlet
   have hno':zbQ (w[0].toNat:Nat)=false:=by
    by_cases hk0:k=0
    ·exact hno hk0
    ·cases hb:zbQ (w[0].toNat:Nat) with
     | false=>rfl
     | true=>exact absurd (k2 h0 (zdW hb)) hk0
   simp only [zky,ya,hno',uf,ye,false_and,iff_false];split
   ·rw [zf4 (p:=ziV) (λq=>rfl) (by simp;omega) (by simp;omega)];exact ⟨_,rfl,by simp⟩
   ·obtain ⟨v,hv⟩:=zf6 (n:=n) (l:=w.drop k) hn;simp only [hv,ya];split
    ·exact ⟨_,rfl,by simp⟩
    ·obtain ⟨e,he⟩:=zkz (n:=n) (l:=w.drop k) (k:=λv=>some (⟨v.1,0,(k:Int),ztu (k:Int) v.2⟩:Token)) (by simp;omega) hn hd;rw [he];exact ⟨_,rfl,by simp⟩
def kwL:List (List UInt8):=[[115,111,114,116],[114,101,108,97,116,105,111,110],[99,111,117,110,116,101,114],[115,101,116],[114,101,103,105,115,116,101,114],[105,110,118,97,114,105,97,110,116],[111,112,101,114,97,116,105,111,110],[107,101,121],[114,101,102,101,114,101,110,99,101],[116,111],[99,111,117,110,116],[97,99,121,99,108,105,99],[97,108,108],[115,117,109],[105,110],[97,100,100,119,105,110,115],[114,101,109,111,118,101,119,105,110,115],[108,97,115,116],[109,117,108,116,105],[104,105,100,101],[111,114,100,101,114,101,100],[114,101,113,117,105,114,101],[104,111,108,100],[105,110,115,101,114,116],[100,101,108,101,116,101],[97,100,100],[102,114,111,109],[112,117,116],[100,114,111,112],[97,115,115,105,103,110],[102,111,114],[119,104,101,114,101],[97,110,100],[111,114],[110,111,116]]
structure Fuel (n:Nat):Prop where
 big:4294967296≤n
 kw:∃ m,zbH n=some m∧zvS m kwL
def zwe (w:List UInt8):Bool:=decide (w.length≤16)&&(zw8 w&&!decide (w∈kwL))
theorem zhN {n} {w} (hF:Fuel n):zff n w=some (zwe w):=by
 have p:=hF.big;unfold zff zwe;by_cases d:w.length≤16
 ·have k:decide (w.length≤16)=true:=by grind
  unfold zek;obtain ⟨m,f,g⟩:=hF.kw;cases i:w with
  | nil=>simp [grd,zw8]
  | cons b l=>
   rw [← i];have e:0<w.length:=by grind
   rw [if_neg (by grind),f,ya];obtain ⟨t,h,a⟩:=znE (n:=n) (w:=w) (kw:=m) (by omega) (by omega) e;rw [g.get] at a;simp only [h,ya];by_cases o:t.at_=0∧t.end_=w.length∧t.kind=1
   ·grind [grd]
   ·have j:(zw8 w&&!decide (w∈kwL))=false:=by
     grind
    rw [j];split
    ·simp [grd]
    ·rename_i c
     grind [grd]
 ·grind [grd]
theorem znL {n} {t} {rec x} (hx:x≤t.length) (hl:t.length<1000000) (hn:1000000≤n) :
  ∃ y:Nat,x≤y∧y≤t.length∧ztz (zbk.l2 n t rec) n x=rec (y:Int)∧∀ h ,(t[x].toNat:Nat)=35→x<y:=by
 have:=zde (body:=zbk.l2 n t rec) (λs:Int=>t.length - s.toNat) (λs=>∃ i:Nat,s=i∧i≤t.length) (λs o=>∃ y:Nat,s.toNat≤y∧y≤t.length∧o=rec (y:Int)∧∀ h:s.toNat<t.length,(t[s.toNat].toNat:Nat)=35→s.toNat<y) (λr s hI hr=>by
  obtain ⟨i,rfl,hi⟩:=hI;by_cases hlt:i<t.length
  ·simp only [zbk.l2,zB hlt,zda hlt,yr,grd,if_true,yj,yD,zd (i:=i) (by omega),yt];by_cases h10:((((t[i].toNat:Nat):Int) != 10))=true
   ·obtain ⟨y,y1,y2,y3,-⟩:=hr ((i+1:Nat):Int) ⟨_,rfl,by omega⟩ (by omega)
    grind
   grind
  ·have:i=t.length:=by omega
   subst this;exact ⟨t.length,by simp,ym _,by simp [zbk.l2,grd],λh=>by simp at h⟩) n x ⟨x,rfl,hx⟩ (by omega)
 grind
theorem zhm {n} {t:List UInt8} {a} (ha:a≤t.length) (hl:t.length<1000000) (hn:1000000≤n) :
  ∃ k:Nat,zbk n t a=some (k:Int)∧a≤k∧k≤t.length∧(∀ h ,zdn (t[k].toNat:Nat)=true)∧(∀ h ,zdn (t[a].toNat:Nat)=true→k=a):=by
 have:=zde (body:=zbk.l1 n t) (λs:Int=>t.length - s.toNat) (λs=>∃ i:Nat,s=i∧i≤t.length)
  (λs o=>∃ k:Nat,o=some (k:Int)∧s.toNat≤k∧k≤t.length∧(∀ h:k<t.length,zdn (t[k].toNat:Nat)=true)∧(∀ h:s.toNat<t.length,zdn (t[s.toNat].toNat:Nat)=true→k=s.toNat)) (λr s hI hr=>by
  obtain ⟨i,rfl,hi⟩:=hI;by_cases hlt:i<t.length
  ·simp only [zbk.l1,zB hlt,zda hlt,zbe,yr,yB,grd,if_true,yj,yD,ya,zd (i:=i) (by omega),yt];by_cases hb:zdn (t[i].toNat:Nat)=true
   ·rw [if_neg (by
     simp only [zdn,yC,ud,un] at hb;simp_all)]
    grind
   ·rw [if_pos (by
     simp only [zdn,yC,ud,un] at hb;simp only [yI,beq_iff_eq];omega)]
    by_cases hh:(t[i].toNat:Nat)=35
    ·rw [if_pos (by simp [hh])];obtain ⟨y,y1,y2,y3,y4⟩:=znL (n:=n) (rec:=r) hi hl hn;have y5:=y4 hlt hh;rw [y3];obtain ⟨k,e,k1,k2,k3,-⟩:=hr (y:Int) ⟨y,rfl,y2⟩ (by simp only [yt];omega);simp only [yt] at k1;exact ⟨k,e,by omega,k2,k3,λ_ h=>absurd h hb⟩
    ·rw [if_neg (by simp;omega)];obtain ⟨k,e,k1,k2,k3,-⟩:=hr ((i+1:Nat):Int) ⟨_,rfl,by omega⟩ (by simp only [yt];omega);simp only [yt] at k1;exact ⟨k,e,by omega,k2,k3,λ_ h=>absurd h hb⟩
  ·have:i=t.length:=by omega
   subst this;exact ⟨t.length,by simp [zbk.l1,grd],by simp,ym _,λh=>absurd h (by omega),λh=>by simp at h⟩) n a ⟨a,rfl,ha⟩ (by simp;omega)
 grind [zbk]
theorem zh1 {n} {t:List UInt8} {a} (ha:a≤t.length) (hl:t.length<1000000) (hn:1000000≤n):∃ v:Nat,zbs n t a=some (v:Int)∧a+v≤t.length:=by
 unfold zbs;simp only [zfD,ya];generalize hL:([[61,61],[33,61],[60,61],[62,61],[46,46],[60],[62],[61],[43],[45],[42],[40],[41],[123],[125],[44],[58],[59]]:List (List UInt8))=L;have hLl:L.length=18:=by rw [← hL];rfl
 have hL2:∀ x∈L,x.length≤2:=by rw [← hL];decide
 refine zde (body:=zbs.l1 n t a L) (λs:Int=>18 - s.toNat) (λs=>∃ i:Nat,s=i∧i≤18) (λs o=>∃ v:Nat,o=some (v:Int)∧a+v≤t.length) (λr s hI hr=>?_) n 0 ⟨0,rfl,by omega⟩ (by grind);obtain ⟨i,rfl,hi⟩:=hI;by_cases hlt:i<L.length
 ·have h2:=hL2 _ (yi hlt);simp only [zbs.l1,zB hlt,if_true,zb hlt,ya,yr,yj,yB,zd (i:=i) (by omega),zc2 (show a+L[i].length<9223372036854775808 by omega)];by_cases hle:a+L[i].length≤t.length
  ·simp only [zfW (l:=t) (a:=a) (b:=a+L[i].length) (by omega) hle,yr,yB,grd,if_true];split
   ·grind
   ·exact hr _ ⟨i+1,rfl,by omega⟩ (by grind)
  ·have hd:decide (((a+L[i].length:Nat):Int)≤(t.length:Int))=false:=by simp;omega
   simp only [hd,ur,uA,grd,if_true,uf,ye,if_false];exact hr _ ⟨i+1,rfl,by omega⟩ (by simp only [yt];omega)
 grind [zbs.l1]
theorem ziC {n} {L} {w} (hl:L.length<1000000) (hn:1000000≤n):zcN n L w=some (decide (w∈L)):=by
 have:=zM (body:=zcN.l1 n L w) (len:=L.length) (st:=λi=>i) (g:=λi=>some (decide (w∈L.drop i))) (λa i b c=>?_) (λa=>?_) n 0 (yo _) (by omega)
 ·grind [zcN]
 ·simp only [zcN.l1,zb b,zd (i:=i) (by omega)];rw [zm b]
  grind
 ·simp [zcN.l1]
theorem zgj {n}:ze1 n=some kwL:=rfl
theorem zi7 {n} {t:List UInt8} {a} (ha:a<t.length) (hb:zdn (t[a].toNat:Nat)=true) (hl:t.length<1000000) (hn:1000000≤n) :
  ∃ (k:Int) (e:Nat),zau n t a=some (k,(e:Int))∧a<e∧e≤t.length∧(zbQ (t[a].toNat:Nat)=true→e=a+runP zu6 (t.drop a))∧(k=1↔zbQ (t[a].toNat:Nat)=true∧(t.drop a).take (e - a)∉kwL):=by
 unfold zau;simp only [zda ha,ya,zfF,zeR];by_cases hlet:zbQ ((t[a].toNat:Nat):Int)=true
 ·rw [if_pos hlet];have hlp:zbQ (t[a].toNat:Nat)=true:=hlet;have hrun1:1≤runP zu6 (t.drop a):=by
   rw [zm ha,runP,if_pos (by grind [zu6])];omega
  have hle:=zkl zu6 (t.drop a);simp only [ua] at hle;have:=zbd (body:=zau.l1 n t a) (len:=t.length) (st:=λ(_:Unit) i=>(i:Int)) (g:=λi _=>some (if decide ((t.drop a).take (i+runP zu6 (t.drop i) - a)∈kwL)=true then (2,((i+runP zu6 (t.drop i):Nat):Int)) else (1,((i+runP zu6 (t.drop i):Nat):Int)))) (λi _=>a≤i) (λrec i _ hi hai hr=>?_) (λrec _ hai=>?_) n a () (by omega) (by omega) (ym _)
  ·rw [this];refine ⟨if decide ((t.drop a).take (a+runP zu6 (t.drop a) - a)∈kwL)=true then 2 else 1,a+runP zu6 (t.drop a),?_,by omega,by omega,λ_=>rfl,?_⟩
   ·grind
   grind
  ·have hr:=hr () (by omega);have hle':=zkl zu6 (t.drop i);simp only [ua] at hle';simp only [zau.l1,zB hi,zda hi,zfF,zeR,yr,yB,grd,if_true,yj,yD,zd (i:=i) (by omega),hr];rw [zm hi,runP];have hpe:(zbQ ((t[i].toNat:Nat):Int)||ziV ((t[i].toNat:Nat):Int)||((t[i].toNat:Nat):Int)==95)=zu6 ((t[i].toNat:Nat):Int):=rfl;rw [hpe];by_cases hp:zu6 (t[i].toNat:Nat)=true
   ·rw [if_pos hp,if_pos hp,show i+(runP zu6 (t.drop (i+1))+1)=i+1+runP zu6 (t.drop (i+1)) by omega]
   ·rw [if_neg hp,if_neg hp];simp only [uy,zgj,ya,zfW hai (Nat.le_of_lt hi)];rw [ziC (by decide) hn,ya];cases decide ((t.drop a).take (i - a)∈kwL) <;> rfl
  ·simp only [zau.l1,zaw,ur,uA,grd,if_true,uf,ye,if_false,zgj,ya,zfW hai (ym _)];rw [ziC (by decide) hn,ya];simp only [List.drop_length,runP,uy];cases decide ((t.drop a).take (t.length - a)∈kwL) <;> rfl
 ·rw [if_neg hlet];have hlp:zbQ (t[a].toNat:Nat)=false:=by simpa using hlet
  simp only [hlp,ye,false_implies,false_and,iff_false,true_and];by_cases hdig:ziV ((t[a].toNat:Nat):Int)=true
  ·rw [if_pos hdig];have:=zde (body:=zau.l2 n t) (λs:Int=>t.length - s.toNat) (λs=>∃ i:Nat,s=i∧i≤t.length) (λs o=>∃ e:Nat,o=some (3,(e:Int))∧s.toNat≤e∧e≤t.length∧∀ h:s.toNat<t.length,ziV (t[s.toNat].toNat:Nat)=true→s.toNat<e) (λr s hI hr=>by
    obtain ⟨i,rfl,hi⟩:=hI;by_cases hlt:i<t.length
    ·simp only [zau.l2,zB hlt,zda hlt,zeR,yr,yB,grd,if_true,yj,yD,zd (i:=i) (by omega),yt];split
     ·obtain ⟨e,e1,e2,e3,-⟩:=hr ((i+1:Nat):Int) ⟨_,rfl,by omega⟩ (by simp only [yt];omega);simp only [yt] at e2;exact ⟨e,e1,by omega,e3,λ_ _=>by omega⟩
     ·rename_i hno;exact ⟨i,rfl,ym _,hi,λ_ h=>absurd h hno⟩
    ·have:i=t.length:=by omega
     subst this;exact ⟨t.length,by simp [zau.l2,grd],by simp,ym _,λh=>by simp at h⟩) n a ⟨a,rfl,Nat.le_of_lt ha⟩ (by simp;omega)
   obtain ⟨e,e1,-,e3,e4⟩:=this;exact ⟨3,e,e1,e4 ha hdig,e3,by decide⟩
  ·rw [if_neg hdig];obtain ⟨v,hv,hv2⟩:=zh1 (n:=n) (t:=t) (a:=a) (Nat.le_of_lt ha) hl hn;rw [hv,ya];by_cases hv0:0<v
   ·rw [if_pos (by simpa using hv0),zc2 (by omega)];exact ⟨4,a+v,rfl,by omega,hv2,by decide⟩
   ·have hv0:v=0:=by omega
    subst hv0;rw [if_neg (by simp)];have:=zde (body:=zau.l3 n t) (λs:Int=>t.length - s.toNat) (λs=>∃ i:Nat,s=i∧i≤t.length) (λs o=>∃ e:Nat,o=some (5,(e:Int))∧s.toNat≤e∧e≤t.length∧(s=a→a<e)) (λr s hI hr=>by
     obtain ⟨i,rfl,hi⟩:=hI;by_cases hlt:i<t.length
     ·obtain ⟨u,hu,-⟩:=zh1 (n:=n) (t:=t) (a:=i) hi hl hn;simp only [zau.l3,zB hlt,zda hlt,zbe,zfF,zeR,hu,yr,yB,grd,if_true,yj,yD,zd (i:=i) (by omega),yt];split
      ·obtain ⟨e,e1,e2,e3,-⟩:=hr ((i+1:Nat):Int) ⟨_,rfl,by omega⟩ (by simp only [yt];omega);simp only [yt] at e2;exact ⟨e,e1,by omega,e3,λh=>by omega⟩
      ·rename_i hno;refine ⟨i,rfl,ym _,hi,λh=>?_⟩;have hia:i=a:=by omega
       subst hia;exfalso;apply hno;rw [hv] at hu;simp only [yn,Int.natCast_inj] at hu;subst hu;simp only [zdn,yC,ud,un] at hb;simp only [yd,bne_iff_ne,ne_eq,yC,ud,un];simp only [yS] at hlet hdig;exact ⟨⟨⟨⟨by omega,by omega⟩,hlet⟩,hdig⟩,by simp⟩
     ·have:i=t.length:=by omega
      subst this;exact ⟨t.length,by simp [zau.l3,grd],by simp,ym _,λh=>by omega⟩) n a ⟨a,rfl,Nat.le_of_lt ha⟩ (by simp;omega)
    obtain ⟨e,e1,-,e3,e4⟩:=this;exact ⟨5,e,e1,e4 rfl,e3,by decide⟩
theorem zl {α} {b} {xs ys:List α} (h:(xs.length+ys.length)*b≤140737488355328):Go.Proofs.YtipkniadbkndfaaGreatDoor.app b xs ys=some (xs++ys):=by
 unfold Go.Proofs.YtipkniadbkndfaaGreatDoor.app;grind
theorem zkj {n} {t} (hl:t.length<1000000) (hn:1000000≤n):∀ (m) (b) (a:Nat),a≤t.length→b.length≤a→t.length - a<m→∃ r,r≠[]∧ztz (zcU.l1 n t) m (b,(a:Int))=some (b++r,0)
 | 0,_,_,_,_,h=>by omega
 | m+1,b,a,g,j,h=>by
  obtain ⟨k,e,l,o,d,-⟩:=zhm (n:=n) g hl hn;simp only [ztz,zcU.l1,e,ya];by_cases c:k<t.length
  ·obtain ⟨q,z,f,p,i,-,-⟩:=zi7 (n:=n) c (d c) hl hn;simp only [f,ya];rw [zl (by grind),ya];obtain ⟨r,-,s⟩:=zkj hl hn m (b++[(⟨q,a,k,z⟩)]) z i (by grind) (by omega)
   grind
  ·rw [zhC (by omega),if_neg (by simp),zl (by grind),ya]
   grind
theorem znK {n} {w} (hl:w.length≤4096) (hn:1000000≤n):∃ k,zgC n w=some k∧(k=1↔zw8 w=true∧w∉kwL):=by
 unfold zgC zcU;rw [if_neg (by grind),zeZ (by omega)];obtain ⟨k,e,-,k2,k3,k4⟩:=zhm (n:=n) (t:=w) (a:=0) (by omega) (by omega) hn;simp only [Int.natCast_zero] at e;simp only [zcU.l1,e,ya];by_cases hlt:k<w.length
 ·obtain ⟨q,z,hz,z1,z2,z3,z4⟩:=zi7 (n:=n) hlt (k3 hlt) (by omega) hn;simp only [zB hlt,if_true,hz,ya,yO];rw [zl (by simp),ya];obtain ⟨r,r0,hr⟩:=zkj (n:=n) (t:=w) (by omega) hn (n - 1) [(⟨q,0,(k:Int),(z:Int)⟩:Token)] z z2 (by grind) (by omega);simp only [yO];rw [hr];have h0:idx ([(⟨q,0,(k:Int),(z:Int)⟩:Token)]++r) 0=some ⟨q,0,(k:Int),(z:Int)⟩:=by simp [idx]
  simp only [ya,h0,yr,yB,grd,if_true,yj];rw [ziL w (by omega)];have hw0:k=0→z=w.length→(zbQ (w[k].toNat:Nat)=true∧(w.drop k).take (z - k)∉kwL↔(zbQ (w[0].toNat:Nat)&&decide (runP zu6 w=w.length))=true∧w∉kwL):=by
   grind
  by_cases hc:((((((0:Int) != 0)||((([(⟨q,0,(k:Int),(z:Int)⟩:Token)]++r).length:Int) != 2))||((k:Int) != 0))||((z:Int) != (w.length:Int))))=true
  ·rw [if_pos hc];refine ⟨0,rfl,?_⟩;constructor
   ·grind
   ·rintro ⟨h1,h2⟩;exfalso;simp only [yd,yf] at h1;have hk0:k=0:=k4 (by omega) (zdW h1.1);subst hk0;have hzw:=z3 h1.1;simp only [List.drop_zero] at hzw;have hzl:z=w.length:=by omega
    subst hzl;rw [zeZ (by omega)] at hr;obtain ⟨k',e',p1,p2,-,-⟩:=zhm (n:=n) (t:=w) (a:=w.length) (ym _) (by omega) hn;have:k'=w.length:=by omega
    subst this;simp only [zcU.l1,e',ya,zaw,ye,if_false] at hr;rw [zl (by simp),ya] at hr;simp only [yn,yg,and_true,List.append_cancel_left_eq] at hr;subst hr;simp at hc
  grind
 ·rw [zhC (by omega),if_neg (by simp),zl (by simp),ya];simp only [yO,ya];refine ⟨0,by simp [grd,idx],?_⟩;constructor
  ·intro h;exact absurd h (by decide)
  ·rintro ⟨h1,-⟩;exfalso;cases w with
   | nil=>simp [zw8] at h1
   | cons x l=>
    simp only [zw8,yd] at h1;have:=k4 (by simp) (zdW h1.1);simp at hlt;omega
theorem zh0 {n} {w} (hl:w.length≤4096) (hn:1000000≤n):zfh n w=some (zwe w):=by
 unfold zfh zwe;obtain ⟨k,c,a⟩:=znK (n:=n) hl hn;have b:decide ((w.length:Int)≤16)=decide (w.length≤16):=decide_eq_decide.2 (by omega)
 grind
theorem zvS.getS {m:GMap (List UInt8) Bool} {l:List (List UInt8)} (h:zvS m l) (k:List UInt8):(m.get? k).getD false=decide (k∈l):=(h.get k).trans (decide_eq_decide.2 Iff.rfl)
def zvw:List (List UInt8)→List (List UInt8)→Bool
 | _,[]=>true
 | seen,s::l=>zwe s&&!decide (s∈seen)&&zvw (seen++[s]) l
theorem zfg {n} {l:List (List UInt8)} (hF:Fuel n) (hl:l.length<1000000):zaM n l=some (zvw [] l):=by
 have hn:=hF.big;have:=zbd (body:=zaM.l1 n l) (len:=l.length) (st:=λm i=>(m,(i:Int))) (g:=λi _=>some (zvw (l.take i) (l.drop i))) (λi m=>zvS m (l.take i)) (λrec i m hi hm hr=>?_) (λrec m _=>?_) n 0 (GMap.empty) (yo _) (by omega) (by simpa using zvS.empty)
 ·simpa [zaM] using this
 ·simp only [zaM.l1,zB hi,if_true,zb hi,ya,zhN hF,hm.getS,zd (i:=i) (by omega)];rw [hr _ (by rw [yv hi];exact hm.put _),zm hi,zvw,yv hi];cases zwe l[i] <;> cases hd:decide (l[i]∈l.take i) <;> simp
 ·simp [zaM.l1,zvw]
theorem zfi {n} {l:List (List UInt8)} (hn:1000000≤n) (hl:l.length<1000000) (hw:∀ w∈l,w.length≤4096):za0 n l=some (zvw [] l):=by
 have:=zM (body:=za0.l1 n l) (len:=l.length) (st:=λi=>(i:Int)) (g:=λi=>some (zvw (l.take i) (l.drop i))) (λrec i hi hr=>?_) (λrec=>?_) n 0 (yo _) (by omega)
 ·simpa [za0] using this
 ·have hc:=zfW (l:=l) (a:=0) (b:=i) (by omega) (Nat.le_of_lt hi)
  simp only [Int.natCast_zero,List.drop_zero,Nat.sub_zero] at hc;simp only [za0.l1,zB hi,if_true,zb hi,ya,zh0 (hw _ (yi hi)) hn,hc,yr,yj,yB,grd,ziC (show (l.take i).length<1000000 by simp;omega) hn,zd (i:=i) (by omega),hr];rw [zm hi,zvw,yv hi];cases zwe l[i] <;> cases hd:decide (l[i]∈l.take i) <;> simp
 ·simp [za0.l1,zvw]
theorem zpy {n l v} (hl:l.length<1000000) (hn:1000000≤n):z9 n l v=some (ixP (λx=>v==x) l 0):=by
 have:=zM (body:=z9.l1 n l v) (len:=l.length) (st:=λi=>(i:Int)) (g:=λi=>some (ixP (λx=>v==x) (l.drop i) i)) (λrec i hi hr=>?_) (λrec=>?_) n 0 (yo _) (by omega)
 ·simpa [z9] using this
 ·simp only [z9.l1,zB hi,if_true,zb hi,ya,zd (i:=i) (by omega),hr];rw [zm hi];simp only [ixP];split <;> rfl
 ·simp [z9.l1,ixP]
theorem ziS {n l} (hl:l.length<1000000) (hn:1000000≤n):zfT n l=some (l.all id):=by
 unfold zfT zbR;rw [zpy hl hn];simp only [ya,zf2,yn];rw [← znp];congr 2;funext x;cases x <;> rfl
def b6:Nat→Int→Int
 | 0,A=>A
 | k+1,A=>b6 k (A*6)
theorem b6_le:∀ (k:Nat) (A:Int),1≤A→A≤b6 k A
 | 0,_,_=>Int.le_refl _
 | k+1,A,h=>Int.le_trans (by omega) (b6_le k (A*6) (by omega))
theorem zqd {a b A:Int} (h1:1≤a) (h2:a≤A) (h3:1≤b) (h4:b≤6):1≤a*b∧a*b≤A*6:=by
 have e1:1*1≤a*b:=Int.mul_le_mul h1 h3 (by omega) (by omega);have e2:a*b≤A*6:=Int.mul_le_mul h2 h4 (by omega) (by omega);omega
theorem znj (sizes:List Int) (hs:sizes.all zcw=true):∀ (cols:List Int) (s A:Int),cols.all (zum sizes)=true→1≤s→s≤A→b6 cols.length A≤1000000→1≤zas sizes cols s∧zas sizes cols s≤b6 cols.length A
 | [],s,A,_,h1,h2,_=>by simpa [zas,b6] using ⟨h1,h2⟩
 | c::l,s,A,hc,h1,h2,h3=>by
  simp only [um,yd] at hc;have hcol:=hc.1;simp only [zum,yd,yf] at hcol;obtain ⟨k,rfl⟩:=y7 hcol.1;have hk:k<sizes.length:=by omega
  have hz:=yp.1 hs _ (yi hk);simp only [zcw,yd,yf] at hz;have hg:sizes.getD (k:Int).toNat 0=sizes[k]:=by simp [List.getD,hk]
  have hm:=zqd h1 h2 hz.1 hz.2;simp only [yU,b6] at h3 ⊢;have hb:=b6_le l.length (A*6) (by omega);simp only [zas,hg];unfold ztG;rw [zao (by omega) (by omega)];exact znj sizes hs l _ _ hc.2 hm.1 hm.2 h3
theorem zgq {sizes cols} (hs:sizes.all zcw=true) (hc:cols.all (zum sizes)=true) (h3:cols.length≤3):1≤zas sizes cols 1∧zas sizes cols 1≤216:=by
 have h:b6 cols.length 1≤216:=by
  match cols,h3 with
  | [],_=>decide
  | [_],_=>simp [b6]
  | [_,_],_=>simp [b6]
  | [_,_,_],_=>simp [b6]
  | _::_::_::_::_,h=>simp at h
 have:=znj sizes hs cols 1 1 hc (by decide) (by decide) (by omega);omega
def zb9 (k:Int):Bool:=k==0||k==1
def zgf (t:Table):Bool:=if (t.kind==1||t.kind==4||t.kind==5)=true then (decide (t.range.lo≤t.range.hi)&&decide (-9999≤t.range.lo))&&decide (t.range.hi≤9999) else decide (t.range=(⟨0,1⟩:Range))
def tabP (sizes:List Int) (t:Table):Bool:=zwe t.name&&(decide (0≤t.kind)&&decide (t.kind≤5))&&(decide (t.ztv.length≤3)&&t.ztv.all (zum sizes))&&zgf t
def layP (sizes:List Int):List (List UInt8)→Int→Int→List Table→Bool
 | _,a,b,[]=>decide (a≤128)&&decide (b≤64)
 | seen,a,b,t::l=>(tabP sizes t&&!decide (t.name∈seen))&&(if zb9 t.kind=true then t.first==a&&layP sizes (seen++[t.name]) (ztu a (zas sizes t.ztv 1)) b l else t.first==b&&layP sizes (seen++[t.name]) a (ztu b (zas sizes t.ztv 1)) l)
def zbm (sizes:List Int) (tables:List Table):Bool:=decide (sizes.length≤4)&&decide (tables.length≤12)&&sizes.all zcw&&layP sizes [] 0 0 tables
theorem zjH {n t}:zdR n t=some (zgf t):=by
 unfold zdR zgf jn;by_cases h1:t.kind=1
 ·simp [h1]
 ·by_cases h4:t.kind=4
  ·simp [h4]
  ·by_cases h5:t.kind=5
   ·simp [h5]
   ·simp [h1,h4,h5]
theorem zeX {n sizes tables} (hF:Fuel n) (hs:sizes.length≤1000) (ht:tables.length≤1000) (hc:∀ t∈tables,t.ztv.length≤1000):zbJ n sizes tables=some (zbm sizes tables):=by
 have hn:=hF.big;unfold zbJ zbm;rw [zkx (by omega) (by omega),ya,ziS (by simp) (by omega),ya];simp only [um,List.all_nil,id,ui];have e1:decide ((sizes.length:Int)≤4)=decide (sizes.length≤4):=decide_eq_decide.2 (by omega);have e2:decide ((tables.length:Int)≤12)=decide (tables.length≤12):=decide_eq_decide.2 (by omega);rw [e1,e2,← Bool.and_assoc];by_cases h:(decide (sizes.length≤4)&&decide (tables.length≤12)&&sizes.all zcw)=true
 ·rw [h,if_neg (by simp),yD];have:=zbd (body:=zbJ.l1 n sizes tables) (len:=tables.length) (st:=λ(s:GMap (List UInt8) Bool×Int×Int) i=>(s.1,s.2.1,s.2.2,(i:Int))) (g:=λi s=>some (layP sizes ((tables.take i).map (·.name)) s.2.1 s.2.2 (tables.drop i))) (λi s=>zvS s.1 ((tables.take i).map (·.name))) (λrec i s hi hm hr=>?_) (λrec s _=>?_) n 0 (GMap.empty,0,0) (yo _) (by omega) (by simpa using zvS.empty)
  ·simpa using this
  ·obtain ⟨m,a,b⟩:=s;simp only [] at hm;have hmem:=yi hi;have hcols:=hc _ hmem;simp only [zbJ.l1,jn,zB hi,if_true,zb hi,ya,zhN hF,hm.getS,zdS,zih (show tables[i].ztv.length<4611686018427387904 by omega) (show tables[i].ztv.length<n by omega),zjH,zb2,zd (i:=i) (by omega)];rw [ziS (by simp) (by omega),ya];simp only [um,List.all_nil,id,ui];have hput:=hm.put tables[i].name;have htk:((tables.take (i+1)).map (·.name))=(tables.take i).map (·.name)++[tables[i].name]:=by rw [yv hi,ul];rfl
   rw [← htk] at hput;have hT:(zwe tables[i].name&&(!decide (tables[i].name∈(tables.take i).map (·.name))&&(decide (0≤tables[i].kind)&&decide (tables[i].kind≤5)&&(decide (tables[i].ztv.length≤3)&&tables[i].ztv.all (zum sizes)&&zgf tables[i]))))=(tabP sizes tables[i]&&!decide (tables[i].name∈(tables.take i).map (·.name))):=by
    unfold tabP;cases zwe tables[i].name <;> cases decide (tables[i].name∈(tables.take i).map (·.name)) <;> simp [Bool.and_assoc]
   rw [hT,zm hi,layP];by_cases hv:(tabP sizes tables[i]&&!decide (tables[i].name∈(tables.take i).map (·.name)))=true
   ·rw [hv,if_neg (by simp),yD];have hcol:tables[i].ztv.all (zum sizes)=true:=by
     simp only [tabP,yd] at hv;exact hv.1.1.2.2
    simp only [zeY hcol (show tables[i].ztv.length<4611686018427387904 by omega) (show tables[i].ztv.length<n by omega),ya,← htk];unfold zb9;by_cases hk:(tables[i].kind==0||tables[i].kind==1)=true
    ·rw [if_pos hk,if_pos hk];by_cases hf:tables[i].first=a
     ·rw [if_neg (by simp [hf]),hr (m.put tables[i].name true,ztu a (zas sizes tables[i].ztv 1),b) hput];simp [hf]
     ·rw [if_pos (by simp [hf])];simp [hf]
    ·rw [if_neg hk,if_neg hk];by_cases hf:tables[i].first=b
     ·rw [if_neg (by simp [hf]),hr (m.put tables[i].name true,a,ztu b (zas sizes tables[i].ztv 1)) hput];simp [hf]
     ·rw [if_pos (by simp [hf])];simp [hf]
   ·simp only [yS] at hv;rw [hv,if_pos (by simp),uf]
  ·simp [zbJ.l1,layP]
 ·simp only [yS] at h;rw [h,if_pos (by simp),uf]
theorem ze2 {n sizes tables} (hn:1000000≤n) (hs:sizes.length≤1000) (ht:tables.length≤1000) (hc:∀ t∈tables,t.ztv.length≤1000∧t.name.length≤4096):zaB n sizes tables=some (zbm sizes tables):=by
 unfold zaB zbm;have e1:decide (4<(sizes.length:Int)) = !decide (sizes.length≤4):=by grind
 have e2:decide (12<(tables.length:Int)) = !decide (tables.length≤12):=by grind
 rw [zgT (by omega) (by omega),e1,e2];simp only [yr,yB,grd,if_true,yj];by_cases h:(decide (sizes.length≤4)&&decide (tables.length≤12)&&sizes.all zcw)=true
 ·rw [h,yD];simp only [yd] at h;obtain ⟨⟨h1,h2⟩,h3⟩:=h;rw [h1,h2,h3,if_neg (by simp)];have:=zbd (body:=zaB.l1 n sizes tables) (len:=tables.length) (st:=λ(s:Int×Int) i=>(s.1,s.2,(i:Int))) (g:=λi s=>some (layP sizes ((tables.take i).map (·.name)) s.1 s.2 (tables.drop i))) (λ_ _=>True) (λrec i s hi _ hr=>?_) (λrec s _=>?_) n 0 (0,0) (yo _) (by omega) trivial
  ·grind
  ·obtain ⟨a,b⟩:=s;have hmem:=yi hi;obtain ⟨hcols,hname⟩:=hc _ hmem;simp only [zaB.l1,jn,zB hi,if_true,zb hi,ya];generalize hK:(λ(v:Int×Int)=>rec (v.1,v.2,ztu (i:Int) 1))=K;have inner:=zM (body:=zaB.l2 n sizes tables a b i K tables[i]) (len:=i) (st:=λk=>(k:Int)) (g:=λk=>if decide (tables[i].name∈((tables.take i).drop k).map (·.name))=true then some false else zaB.l2 n sizes tables a b i K tables[i] (λ_=>none) (i:Int)) (λrec' k hk hr'=>?_) (λrec'=>?_) n 0 (yo _) (by omega)
   ·rw [show ((0:Nat):Int)=0 from rfl] at inner;rw [inner,zm hi,layP,List.drop_zero];have htk:((tables.take (i+1)).map (·.name))=(tables.take i).map (·.name)++[tables[i].name]:=by grind [List.take_succ_eq_append_getElem]
    cases hseen:decide (tables[i].name∈(tables.take i).map (·.name)) with
    | true=>simp
    | false=>
     simp only [ye,if_false,ur,ui];have hnum:=zez (n:=n) (sizes:=sizes) (cols:=tables[i].ztv) (by omega) (by omega) (by omega) (by omega);rw [h3,ui] at hnum;simp only [zaB.l2,zhC (ym i),ye,if_false,hnum,ya,zh0 hname hn,zbZ];unfold tabP;by_cases hcol:(decide (tables[i].ztv.length≤3)&&tables[i].ztv.all (zum sizes))=true
     ·simp only [hcol,if_true,ui];have hcol':=hcol;simp only [yd,yf] at hcol';have hw:=zgq h3 hcol'.2 hcol'.1;have hw0:(zas sizes tables[i].ztv 1==0)=false:=by simp;omega
      rw [hw0,Bool.or_false];by_cases hnk:(zwe tables[i].name&&(decide (0≤tables[i].kind)&&decide (tables[i].kind≤5)))=true
      ·rw [hnk,yD];simp only [yd,yf] at hnk;rw [if_neg (by simp [hnk.1];omega)];by_cases hrg:zgf tables[i]=true
       ·rw [hrg,yD];unfold zgf at hrg;rw [if_neg (by
         split at hrg
         ·simp only [yd,yf] at hrg;simp only [yI,yf];omega
         ·simp only [yf] at hrg;rw [hrg];decide),if_neg (by
         split at hrg
         ·rename_i hk;simp only [yI,beq_iff_eq] at hk;simp only [yd,yI,beq_iff_eq];omega
         ·simp only [yf] at hrg;rw [hrg];simp)]
        unfold zb9;by_cases hk:(tables[i].kind==0||tables[i].kind==1)=true
        ·rw [if_pos hk,if_pos hk];by_cases hf:tables[i].first=a
         ·rw [if_neg (by simp [hf]),← hK];simp only [zd (i:=i) (by omega)];have:=hr (ztu a (zas sizes tables[i].ztv 1),b) trivial;simp only [] at this;rw [this,htk];simp [hf]
         ·rw [if_pos (by simp [hf])];simp [hf]
        ·rw [if_neg hk,if_neg hk];by_cases hf:tables[i].first=b
         ·rw [if_neg (by simp [hf]),← hK];simp only [zd (i:=i) (by omega)];have:=hr (a,ztu b (zas sizes tables[i].ztv 1)) trivial;simp only [] at this;rw [this,htk];simp [hf]
         ·rw [if_pos (by simp [hf])];simp [hf]
       ·simp only [yS] at hrg;rw [hrg,uf];unfold zgf at hrg;split at hrg
        ·rename_i hk;rw [if_pos (by
          simp only [uB,yL] at hrg;simp only [yI,yf];omega)]
        ·rename_i hk;simp only [yI,beq_iff_eq,not_or] at hk;have hr01:¬ (tables[i].range.lo=0∧tables[i].range.hi=1):=by
          rintro ⟨q1,q2⟩;simp only [yL] at hrg;apply hrg;cases hrr:tables[i].range;rw [hrr] at q1 q2;simp only [] at q1 q2;rw [q1,q2]
         split
         ·rfl
         ·rw [if_pos (by
           simp only [yd,yI,beq_iff_eq,bne_iff_ne,ne_eq];omega)]
      ·simp only [yS] at hnk;rw [hnk,uf,uf];rw [if_pos (by
        simp only [uB,yL] at hnk;simp only [yI,yC,yf];rcases hnk with h | h | h
        ·exact .inl (.inl h)
        ·exact .inl (.inr (by omega))
        ·exact .inr (by omega))]
     ·simp only [yS] at hcol;simp only [hcol,Bool.and_false,uf,ye,if_false];rw [if_pos (by simp)]
   ·have hk':k<tables.length:=by omega
    simp only [zaB.l2,zj1 hk,if_true,zb hk',ya,zd (i:=k) (by omega),hr'];have hk2:k<(tables.take i).length:=by simp;omega
    rw [zm hk2];simp only [List.getElem_take,yY,yG];by_cases hnm:tables[k].name=tables[i].name
    ·rw [if_pos (by simpa using hnm),if_pos (by simp [hnm])]
    ·rw [if_neg (by simpa using hnm)];have hnm':¬ tables[i].name=tables[k].name:=λe=>hnm e.symm
     simp only [hnm',false_or]
   ·rw [if_neg (by simp)];simp only [zaB.l2,zhC (ym i),ye,if_false]
  ·simp [zaB.l1,layP]
 grind
def zW (sizes:List Int) (s:Bool):List Table→List Range
 | []=>[]
 | t::l=>if (zb9 t.kind==s)=true then List.replicate (zas sizes t.ztv 1).toNat t.range++zW sizes s l else zW sizes s l
theorem zhJ {sizes}:∀ {l} {seen} {a b},layP sizes seen a b l=true→∀ t∈l,tabP sizes t=true
 | [],_,_,_,_,_,c=>by grind
 | x::l,seen,a,b,h,t,c=>by
  simp only [layP,yd] at h;simp only [yG] at c;rcases c with rfl | c
  ·grind
  ·have d:=h.2;split at d
   ·simp only [yd] at d;exact zhJ d.2 t c
   ·simp only [yd] at d;exact zhJ d.2 t c
theorem zb5 {sizes tables} (h:zbm sizes tables=true):sizes.length≤4∧tables.length≤12∧sizes.all zcw=true∧∀ t∈tables,zwe t.name=true∧(0≤t.kind∧t.kind≤5)∧t.ztv.length≤3∧t.ztv.all (zum sizes)=true∧1≤zas sizes t.ztv 1∧zas sizes t.ztv 1≤216:=by
 simp only [zbm,yd,yf] at h;obtain ⟨⟨⟨c,d⟩,b⟩,e⟩:=h;refine ⟨c,d,b,λt f=>?_⟩;have:=zhJ e t f;simp only [tabP,yd,yf] at this;obtain ⟨⟨⟨g,i⟩,a⟩,-⟩:=this;exact ⟨g,i,a.1,a.2,zgq b a.2 a.1⟩
theorem zdL {sizes s}:∀ {l},(∀ t∈l,1≤zas sizes t.ztv 1∧zas sizes t.ztv 1≤216)→(zW sizes s l).length≤l.length*216
 | [],_=>by simp [zW]
 | t::l,h=>by
  have b:=zdL (s:=s) (l:=l) λx a=>h x (by simp [a])
  grind [zW]
theorem zsU {n}:∀ w:Fin 217,zee n 1 ((w.1:Nat):Int)=some (0,((w.1:Nat):Int)):=by
 intro w;unfold zee zeu;revert w;decide +kernel
theorem zoU:∀ w:Fin 217,wk .u64 ((w.1:Nat):Int)=((w.1:Nat):Int)∧wk .i64 ((w.1:Nat):Int)=((w.1:Nat):Int):=by decide +kernel
theorem zpA {n x w} (h1:1≤w) (h2:w≤216) (hn:1000000≤n):zK n [x] w=some (List.replicate w.toNat x):=by
 obtain ⟨W,rfl⟩:=y7 (show 0≤w by omega);have hW:W<217:=by omega
 have hwk:=zoU ⟨W,hW⟩;simp only [] at hwk;have h1k:wk .u64 (([x]:List Range).length:Int)=1:=(zoU ⟨1,by decide⟩).1;unfold zK;rw [if_neg (by simp),h1k,hwk.1,zsU ⟨W,hW⟩];simp only [ya];rw [if_neg (by grind),hwk.2];have hm:mkl 16 (W:Int) (⟨0,0⟩:Range)=some (List.replicate W ⟨0,0⟩):=by
  unfold mkl;grind
 rw [hm,ya];simp only [uC,uL,Nat.sub_zero,yt];rw [show min W 1=1 by omega];refine zde (body:=zK.l1 n) (λs=>W - s.2.toNat) (λs=>∃ k:Nat,s.2=(k:Int)∧1≤k∧k≤W∧s.1.length=W∧s.1.take k=List.replicate k x) (λ_ o=>o=some (List.replicate W x)) (λrec s hI hr=>?_) n _ ⟨1,rfl,by omega,by omega,?_,?_⟩ (by simp;omega)
 ·obtain ⟨b,kk⟩:=s;obtain ⟨k,rfl,k1,k2,hb,hk⟩:=hI;simp only [] at hb hk;simp only [zK.l1];by_cases hlt:k<W
  ·have hcE:cut b (k:Int) (W:Int)=some (b.drop k):=by grind [zim]
   have hc:=zfW (l:=b) (a:=0) (b:=k) (by omega) (by omega)
   simp only [Int.natCast_zero] at hc;simp only [hb,zj1 hlt,if_true,hcE,hc,ya,yt,List.drop_zero,Nat.sub_zero,hk,uC];rw [zc2 (by omega)];refine hr (_,((k+min (W - k) k:Nat):Int)) ⟨k+min (W - k) k,rfl,by omega,by omega,?_,?_⟩ (by grind)
   ·simp only [];rw [zdq (by omega) (by omega),hb]
   ·simp only [zeI,hk,List.take_replicate,uC];rw [show min (W - k) k=min (W - k) k from rfl,← yJ,List.replicate_append_replicate];rw [List.take_append_of_le_length (by simp)];simp
  grind
 ·rw [zdq (by omega) (by simp)];simp
 grind [zeI,List.take_append,List.take_of_length_le,min]
theorem zgS (sizes s):∀ (l m),zW sizes s (l++m)=zW sizes s l++zW sizes s m
 | [],_=>rfl
 | t::l,m=>by
  simp only [uu,zW,zgS sizes s l m]
  grind
theorem zgg {sizes} {s} {l:List Table} {i} (hi):zW sizes s (l.take (i+1))=if (zb9 l[i].kind==s)=true then zW sizes s (l.take i)++List.replicate (zas sizes l[i].ztv 1).toNat l[i].range else zW sizes s (l.take i):=by
 grind [List.take_succ_eq_append_getElem,zgS,zW]
theorem zfS {n} {sizes} {tables} {s} (hF:Fuel n) (hs:sizes.length≤1000) (ht:tables.length≤1000) (hc:∀ t∈tables,t.ztv.length≤1000) :
  zbG n sizes tables s=some (if zbm sizes tables=true then zW sizes s tables else []):=by
 have o:=hF.big;unfold zbG;rw [zeX hF hs ht hc,ya];cases f:zbm sizes tables with
 | false=>simp
 | true=>
  obtain ⟨p,k,m,e⟩:=zb5 f;have:=zM (body:=zbG.l1 n sizes tables s) (len:=tables.length) (st:=λi=>(zW sizes s (tables.take i),(i:Int))) (g:=λ_=>some (zW sizes s tables)) (λa i c b=>?_) (λa=>?_) n 0 (yo _) (by omega)
  ·grind [zW]
  ·have d:=zdL (sizes:=sizes) (s:=s) (l:=tables.take i) λx h=>(e x (List.mem_of_mem_take h)).2.2.2.2
   rw [zgg c] at b;simp only [zbG.l1,jn,zb c,ya,zb2,zd (i:=i) (by omega)];unfold zb9 at b;by_cases j:((tables[i].kind==0||tables[i].kind==1)==s)=true
   ·grind [zeY,zpA,zl]
   grind
  ·simp [zbG.l1]
theorem zey {n} {sizes} {tables} {s} (hn:1000000≤n) (hs:sizes.length≤1000) (ht:tables.length≤1000) (hc:∀ t∈tables,t.ztv.length≤1000∧t.name.length≤4096) :
  zaJ n sizes tables s=some (if zbm sizes tables=true then zW sizes s tables else []):=by
 unfold zaJ;rw [ze2 hn hs ht hc,ya];cases hL:zbm sizes tables with
 | false=>simp
 | true=>
  obtain ⟨l1,l2,l3,l4⟩:=zb5 hL;have:=zM (body:=zaJ.l1 n sizes tables s) (len:=tables.length) (st:=λi=>(zW sizes s (tables.take i),(i:Int))) (g:=λ_=>some (zW sizes s tables)) (λrec i hi hr=>?_) (λrec=>?_) n 0 (yo _) (by omega)
  ·grind [zW]
  ·obtain ⟨-,-,c1,c2,c3,c4⟩:=l4 _ (yi hi);have hlen:=zdL (sizes:=sizes) (s:=s) (l:=tables.take i) λx hx=>(l4 x (List.mem_of_mem_take hx)).2.2.2.2
   simp only [ug] at hlen;rw [zgg hi] at hr;simp only [zaJ.l1,zB hi,if_true];obtain ⟨W,hW⟩:=y7 (show 0≤zas sizes tables[i].ztv 1 by omega);have hnum:=zez (n:=n) (sizes:=sizes) (cols:=tables[i].ztv) (by omega) (by omega) (by omega) (by omega);simp only [l3,c2,c1,decide_true,ui,if_true] at hnum;have inner:=zM (body:=zaJ.l2 n sizes tables s i rec) (len:=if (zb9 tables[i].kind==s)=true then W else 0) (st:=λk=>(zW sizes s (tables.take i)++List.replicate k tables[i].range,(k:Int))) (g:=λ_=>some (zW sizes s tables)) (λrec' k hk hr'=>?_) (λrec'=>?_) n 0 (yo _) (by grind)
   ·grind
   ·split at hk
    ·rename_i hst;simp only [zb9] at hst;simp only [zaJ.l2,zb hi,ya,zbZ,hst,yr,yB,grd,if_true,yj,hnum,yD,hW,zj1 hk,zd (i:=k) (by omega)];rw [zl (by simp only [yQ,uC,uL];omega),ya,yJ,← List.replicate_succ',hr']
    ·omega
   ·by_cases hst:((tables[i].kind==0||tables[i].kind==1)==s)=true
    ·have hst':(zb9 tables[i].kind==s)=true:=hst;rw [if_pos hst'] at hr ⊢;simp only [zaJ.l2,zb hi,ya,zbZ,hst,yr,yB,grd,if_true,yj,hnum,yD,hW,zhC (ym W),ye,if_false,zd (i:=i) (by omega)];rw [hW] at hr;simpa using hr
    ·have hst':¬ (zb9 tables[i].kind==s)=true:=hst;rw [if_neg hst'] at hr ⊢;simp only [yS] at hst;simp only [zaJ.l2,zb hi,ya,zbZ,hst,ur,uA,grd,if_true,uf,ye,if_false,zd (i:=i) (by omega)];simpa using hr
  ·simp [zaJ.l1]
def zb7 (p:Int→Bool) (i:Nat):Nat→List Int
 | 0=>[]
 | m+1=>if p (i:Int)=true then (i:Int)::zb7 p (i+1) m else zb7 p (i+1) m
theorem zhf (p):∀ (m i),(zb7 p i m).length≤m
 | 0,_=>ym _
 | m+1,i=>by
  simp only [zb7];split
  ·exact Nat.succ_le_succ (zhf p m (i+1))
  ·exact Nat.le_succ_of_le (zhf p m (i+1))
theorem zi5 (p):∀ (m i),zb7 p i (m+1)=if p ((i+m:Nat):Int)=true then zb7 p i m++[((i+m:Nat):Int)] else zb7 p i m
 | 0,i=>by simp [zb7]
 | m+1,i=>by
  have a:=zi5 p m (i+1)
  grind [zb7]
def zea (l:List Change) (c:Constraint) (k:Int):Bool:=decide (0<zz l (ztu c.first k))
theorem zdd {n} {a c} {K:Nat} (hK:ztG c.size c.size=(K:Int)) (h1:a.effect.delta.length<4611686018427387904) (h2:a.effect.delta.length<n) (h3:K<17592186044416) (h4:K<n) :
  zA n a c=some (zb7 (zea a.effect.delta c) 0 K):=by
 have:=zM (body:=zA.l1 n a c) (len:=K) (st:=λi=>(zb7 (zea a.effect.delta c) 0 i,i)) (g:=λ_=>some (zb7 (zea a.effect.delta c) 0 K)) (λe i j b=>?_) (λe=>?_) n 0 (yo _) (by omega)
 ·grind [zA,zb7]
 ·rw [zi5] at b;have h:=zhf (zea a.effect.delta c) i 0;have k:decide (i<ztG c.size c.size)=true:=by simp_all
  have f:Go.Proofs.YtipkniadbkndfaaGreatDoor.app 8 (zb7 (zea a.effect.delta c) 0 i) [i]=some (zb7 (zea a.effect.delta c) 0 i++[(i:Int)]):=by
   unfold Go.Proofs.YtipkniadbkndfaaGreatDoor.app;grind
  simp only [zA.l1,jn,zag _ h1 h2,zd (i:=i) (by omega)];simp only [uh] at b;by_cases d:zea a.effect.delta c i=true
  ·rw [if_pos d] at b;unfold zea at d;simp_all
  ·rw [if_neg d] at b;unfold zea at d
   grind
 ·grind [zA.l1]
theorem zki {n} {e c} {K:Nat} (hK:ztG c.size c.size=(K:Int)) (h1:e.delta.length<4611686018427387904) (h2:e.delta.length<n) (h3:K<17592186044416) (h4:K<n)
  (hadd:∀ k,addP k e.delta 0=zz e.delta k):zbI n e c=some (decide (0<(zb7 (zea e.delta c) 0 K).length)):=by
 have:=zM (body:=zbI.l1 n e c) (len:=K) (st:=λi=>i) (g:=λi=>some (decide (0<(zb7 (zea e.delta c) i (K - i)).length))) (λb i f h=>?_) (λb=>?_) n 0 (yo _) (by omega)
 ·grind [zbI]
 ·have d:decide (i<ztG c.size c.size)=true:=by simp_all
  simp only [zbI.l1,zeQ _ h1 h2,zd (i:=i) (by omega)];rw [show K - i=(K - (i+1))+1 by omega,zb7];by_cases a:zea e.delta c i=true
  ·rw [if_pos a];unfold zea at a;simp_all
  ·rw [if_neg a];unfold zea at a;grind
 ·have d:decide (K<ztG c.size c.size)=false:=by simp_all
  simp [zbI.l1,d,zb7]
structure Good (n:Nat) (m:Model):Prop where
 acts:∀ a∈m.ztw,a.effect.delta.length<4611686018427387904∧a.effect.delta.length<n∧(∀ k,addP k a.effect.delta 0=zz a.effect.delta k)∧∀ r∈a.effect.hold,r.zty.length<4611686018427387904∧r.zty.length<n
 cons:∀ c∈m.constraints,(c.kind=0∨c.kind=1)∧c.row.zty.length<4611686018427387904∧c.row.zty.length<n∧∃ K:Nat,ztG c.size c.size=(K:Int)∧K<17592186044416∧K<n
theorem zhw {f g} (h:∀ k,f k=g k):∀ (l:List Term) (s:Int),zcA f l s=zcA g l s
 | [],_=>rfl
 | t::l,s=>by simp only [zcA,h];exact zhw h l _
theorem zbb {α:Type} {l:List α} {i:Int} {x:α} (h:idx l i=some x):x∈l:=by
 obtain ⟨n,rfl,hn,rfl⟩:=idxS h;exact yi hn
theorem za6 {α:Type} {l:List α} {i:Int} (h0:0≤i) (h1:i<(l.length:Int)):∃ x,idx l i=some x:=by
 obtain ⟨n,rfl⟩:=y7 h0;exact ⟨_,zb (by omega)⟩
def allR (p:Nat→Bool) (i:Nat):Nat→Bool
 | 0=>true
 | k+1=>p i&&allR p (i+1) k
theorem zjl {p}:∀ {k i},allR p i k=true↔∀ j,i≤j→j<i+k→p j=true
 | 0,i=>by grind [allR]
 | k+1,i=>by
  simp only [allR,yd,zjl (k:=k) (i:=i+1)]
  grind
theorem ziO {p k}:allR p 0 k=true↔∀ j,j<k→p j=true:=by
 grind [zjl]
theorem zf7 {S R} {body} {len n} {st:Nat→S} (p) (F T:Option R)
  (hb:∀ rec i,i<len→body rec (st i)=if p i=true then rec (st (i+1)) else F) (he:∀ rec,body rec (st len)=T) (hn:len<n):ztz body n (st 0)=if allR p 0 len=true then T else F:=by
 have:=zM (body:=body) (len:=len) (st:=st) (g:=λi=>if allR p i (len - i)=true then T else F) (λrec i b a=>?_) (λrec=>?_) n 0 (yo _) (by omega)
 ·grind
 ·rw [hb rec i b,show len - i=(len - (i+1))+1 by omega,allR,a]
  grind
 grind [allR]
theorem zd6 {n l f p} (hf:∀ x∈l,f x=some (p x)) (hl:l.length<1000000) (hn:1000000≤n):zx n l f=some (ixP p l 0):=by
 have:=zM (body:=zx.l1 n l f) (len:=l.length) (st:=λi=>i) (g:=λi=>some (ixP p (l.drop i) i)) (λa i b c=>?_) (λa=>?_) n 0 (yo _) (by omega)
 ·grind [zx]
 ·simp only [zx.l1,zb b,zd (i:=i) (by omega)]
  grind [zm,ixP]
 ·simp [zx.l1,ixP]
theorem zdF {n l f p} (hf:∀ x∈l,f x=some (p x)) (hl:l.length<1000000) (hn:1000000≤n):zab n l f=some (l.any p):=by
 unfold zab;rw [zd6 hf hl hn,ya,zf2]
theorem zeW {n l f p} (hf:∀ x∈l,f x=some (p x)) (hl:l.length<1000000) (hn:1000000≤n):zn n l f=some (ixP p l 0):=by
 have:=zM (body:=zn.l1 n l f) (len:=l.length) (st:=λi=>i) (g:=λi=>some (ixP p (l.drop i) i)) (λa i b c=>?_) (λa=>?_) n 0 (yo _) (by omega)
 ·grind [zn]
 ·simp only [zn.l1,zb b,zd (i:=i) (by omega)]
  grind [zm,ixP]
 ·simp [zn.l1,ixP]
theorem zcC {n l f p} (hf:∀ x∈l,f x=some (p x)) (hl:l.length<1000000) (hn:1000000≤n):zo n l f=some (l.any p):=by
 unfold zo;rw [zeW hf hl hn,ya,zf2]
theorem zeq {n l f p} (hf:∀ x∈l,f x=some (p x)) (hl:l.length<1000000) (hn:1000000≤n):zE n l f=some (ixP p l 0):=by
 have:=zM (body:=zE.l1 n l f) (len:=l.length) (st:=λi=>i) (g:=λi=>some (ixP p (l.drop i) i)) (λa i b c=>?_) (λa=>?_) n 0 (yo _) (by omega)
 ·grind [zE]
 ·simp only [zE.l1,zb b,zd (i:=i) (by omega)]
  grind [zm,ixP]
 ·simp [zE.l1,ixP]
theorem zdQ {n l f p} (hf:∀ x∈l,f x=some (p x)) (hl:l.length<1000000) (hn:1000000≤n):zax n l f=some (l.any p):=by
 unfold zax;rw [zeq hf hl hn,ya,zf2]
def zaT (x most:Int):Bool:=decide (-most≤x)&&decide (x≤most)
theorem around3 {n x}:za4 n x 1000=some (zaT x 1000):=rfl
theorem zxT {n x}:za4 n x 1000000000=some (zaT x 1000000000):=rfl
theorem around4 {n x}:za4 n x 9999=some (zaT x 9999):=rfl
theorem between3 {n x}:zaS n x 1000=some (zaT x 1000):=rfl
theorem zxu {n x}:zaS n x 1000000000=some (zaT x 1000000000):=rfl
theorem between4 {n x}:zaS n x 9999=some (zaT x 9999):=rfl
def rowP (K:Nat):Int→List Term→Bool
 | _,[]=>true
 | last,t::l=>(decide (last<t.cell)&&decide (t.cell<(K:Int))&&(t.ztE != 0)&&zaT t.ztE 1000)&&rowP K t.cell l
def zul (K:Nat) (r:Row):Bool:=rowP K (-1) r.zty&&zaT r.bound 1000000000
theorem zeD {i:Nat} (h0:0<i) (h:i<4611686018427387904):ztH (i:Int) 1=((i - 1:Nat):Int):=by
 grind [ztH,zao]
theorem zi2 {n} {j} {r} (hl:r.zty.length<1000000) (hn:1000000≤n):zaH n j r=some (zul j.strict.length r):=by
 have:=zbd (body:=zaH.l1 n j r) (len:=r.zty.length) (st:=λs i=>(s,i)) (g:=λi s=>some (rowP j.strict.length s (r.zty.drop i)&&zaT r.bound 1000000000)) (λ_ _=>True) (λa i s b _ c=>?_) (λa s _=>?_) n 0 (-1) (yo _) (by omega) trivial
 ·grind [zaH,zul]
 ·simp only [zaH.l1,zb b,around3,grd,zd (i:=i) (by omega)];rw [zm b,rowP]
  grind
 ·simp [zaH.l1,zxT,rowP]
theorem zk7 {n K:Nat} {r} (hl:r.zty.length<1000000) (hn:1000000≤n):zcP n r (K:Int)=some (zul K r):=by
 have:=zbd (body:=zcP.l1 n r K) (len:=r.zty.length) (st:=λ(_) i=>i) (g:=λi s=>some (rowP K s (r.zty.drop i)&&zaT r.bound 1000000000)) (λi s=>-1≤s∧((i=0∧s = -1)∨(0<i∧∃ x,idx r.zty (ztH i 1)=some x∧x.cell=s))) (λb i s c e d=>?_) (λb s _=>?_) n 0 (-1) (yo _) (by omega) ⟨by omega,.inl ⟨rfl,rfl⟩⟩
 ·grind [zcP,zul]
 ·have a:(decide (0<i)&&decide (r.zty[i].cell≤((idx r.zty (ztH i 1)).getD default).cell))=(decide (0<i)&&decide (r.zty[i].cell≤s))∧(!(decide (0<(i:Int)))||(idx r.zty (ztH i 1)).isSome)=true:=by
   grind
  simp only [zcP.l1,zB c,if_true,zb c,ya,between3,yr,yB,grd,a.2,zd (i:=i) (by omega)];rw [zm c,rowP];by_cases h:(decide (s<r.zty[i].cell)&&decide (r.zty[i].cell<K)&&(r.zty[i].ztE != 0)&&zaT r.zty[i].ztE 1000)=true
  ·rw [h,yD];simp only [yd,yf] at h;rw [if_neg (by grind),d r.zty[i].cell ⟨by omega,.inr ⟨by omega,r.zty[i],by
    grind [zeD,zb],rfl⟩⟩]
  grind
 ·simp [zcP.l1,zxu,rowP]
def zhE (ztB:List Int) (c:Constraint) (t:Table):Bool:=(t.kind==0&&((t.ztv.length:Int)==2))&&(((idx t.ztv 0).getD default==(idx t.ztv 1).getD default)&&t.first==c.first&&((idx ztB ((idx t.ztv 0).getD default)).getD default==c.size))
def zgO (m:Model) (c:Constraint):Bool:=(((c.row.zty.length:Int)==0)&&(c.row.bound==0))&&m.tables.any (zhE m.ztB c)
theorem zit {ztB} {t:Table} (hc:t.ztv.all (zum ztB)=true) (h2:(t.ztv.length:Int)=2):(∃ x,idx t.ztv 0=some x)∧(∃ x,idx t.ztv 1=some x)∧∃ x,idx ztB ((idx t.ztv 0).getD default)=some x:=by
 obtain ⟨x,b⟩:=za6 (l:=t.ztv) (i:=0) (by omega) (by omega);obtain ⟨y,a⟩:=za6 (l:=t.ztv) (i:=1) (by omega) (by omega)
 grind [zfx,zbb]
theorem zpb {n} {j} {c t} (hc:t.ztv.all (zum j.model.ztB)=true):zbM n t c j=some (zhE j.model.ztB c t):=by
 unfold zbM zhE;by_cases b:(t.kind==0&&((t.ztv.length:Int)==2))=true
 ·have a:=b;simp only [yd,beq_iff_eq] at a;obtain ⟨⟨x,e⟩,⟨y,f⟩,z,d⟩:=zit hc a.2
  grind [grd]
 ·grind [grd]
theorem zkB {n} {j} {c} (hc:∀ t∈j.model.tables,t.ztv.all (zum j.model.ztB)=true) (hl:j.model.tables.length<1000000) (hn:1000000≤n):zch n j c=some (zgO j.model c):=by
 unfold zch zgO;rw [zdF (p:=zhE j.model.ztB c) (λt a=>zpb (hc t a)) hl hn];simp [grd]
theorem zmW {n m c} (hc:∀ t∈m.tables,t.ztv.all (zum m.ztB)=true) (hl:m.tables.length<1000000) (hn:1000000≤n):zcs n m c=some (zgO m c):=by
 unfold zcs zgO;by_cases h:(((c.row.zty.length:Int)==0)&&(c.row.bound==0))=true
 ·rw [h,yD];simp only [yd,beq_iff_eq] at h;rw [if_neg (by grind)];have:=zM (body:=zcs.l1 n m c) (len:=m.tables.length) (st:=λi=>(i:Int)) (g:=λi=>some ((m.tables.drop i).any (zhE m.ztB c))) (λrec i hi hr=>?_) (λrec=>?_) n 0 (yo _) (by omega)
  ·grind
  ·simp only [zcs.l1,zB hi,if_true,zb hi,ya,zd (i:=i) (by omega),hr];rw [zm hi,List.any_cons];have hcol:=hc _ (yi hi);by_cases h2:(m.tables[i].kind==0&&((m.tables[i].ztv.length:Int)==2))=true
   ·have h2':=h2;simp only [yd,beq_iff_eq] at h2';obtain ⟨⟨x,hx⟩,⟨y,hy⟩,z,hz⟩:=zit hcol h2'.2;rw [hx] at hz;simp only [yj] at hz;simp only [h2,hx,hy,hz,grd,yr,yB,if_true,yj,yD,zhE]
    grind
   ·simp only [yS] at h2;simp [h2,grd,zhE]
  ·simp [zcs.l1]
 grind
theorem zmf {n a b} (hl:a.length<1000000) (hn:1000000≤n):zT n a b=some (decide (a=b)):=by
 unfold zT;by_cases h:a.length=b.length
 ·have:=zM (body:=zT.l1 n a b) (len:=a.length) (st:=λi=>i) (g:=λi=>some (decide (a.drop i=b.drop i))) (λd i f j=>?_) (λd=>?_) n 0 (yo _) (by omega)
  ·grind
  ·have c:i<b.length:=by omega
   simp only [zT.l1,zB f,if_true,zb f,zb c,ya,zd (i:=i) (by omega),j];rw [zm f,zm c];by_cases e:a[i]=b[i]
   ·simp only [e,decide_true,uo,ye,if_false,List.cons.injEq,true_and]
   ·simp only [e,decide_false,ur,if_true,List.cons.injEq,false_and]
  grind [zT.l1]
 ·have:¬ a=b:=λe=>h (by rw [e])
  grind
theorem zmk {n a b} (hl:a.length<1000000) (hn:1000000≤n):zbf n a b=some (decide (a=b)):=by
 unfold zbf;by_cases h:a.length=b.length
 ·have:=zM (body:=zbf.l1 n a b) (len:=a.length) (st:=λi=>i) (g:=λi=>some (decide (a.drop i=b.drop i))) (λd i f j=>?_) (λd=>?_) n 0 (yo _) (by omega)
  ·grind
  ·have c:i<b.length:=by omega
   simp only [zbf.l1,zB f,if_true,zb f,zb c,ya,zd (i:=i) (by omega),j];rw [zm f,zm c];by_cases e:a[i]=b[i]
   ·simp only [e,decide_true,uo,ye,if_false,List.cons.injEq,true_and]
   ·simp only [e,decide_false,ur,if_true,List.cons.injEq,false_and]
  grind [zbf.l1]
 ·have:¬ a=b:=λe=>h (by rw [e])
  grind
theorem zqC {n r c f b} (hl:r.zty.length<1000000) (hn:1000000≤n):zdZ n r c f b=some (decide (r=(⟨[⟨c,f⟩],b⟩:Row))):=by
 unfold zdZ;rw [zmf hl hn,ya];congr 1;rw [Bool.eq_iff_iff];cases r;simp
theorem zkN {n a b} (hl:a.zty.length<1000000) (hn:1000000≤n):zdx n a b=some (decide (a=b)):=by
 unfold zdx;rw [zmk hl hn];simp only [yr,yB,grd,if_true];congr 1;cases a;cases b
 grind
structure zt9 (m:Model):Prop where
 ztB:m.ztB.length≤8
 tables:m.tables.length≤6
 tab:∀ t∈m.tables,t.name.length≤40∧t.ztv.length≤12
 ztI:m.ztI.length≤20
 fam:∀ s∈m.ztI,s.length≤40
 constraints:m.constraints.length≤60
 con:∀ c∈m.constraints,c.row.zty.length≤20
 ztx:m.ztx.length≤8
 op:∀ o∈m.ztx,o.name.length≤40∧o.ztB.length≤6
 ztw:m.ztw.length≤30
 act:∀ a∈m.ztw,a.arguments.length≤6∧a.effect.delta.length≤20∧a.effect.hold.length≤10∧a.effect.ztD.length≤40∧∀ r∈a.effect.hold,r.zty.length≤20
 ztK:m.ztK.length≤12
def zdN (l:List Range) (i:Nat):Row:=⟨[⟨((i / 2:Nat):Int),if i % 2=0 then -1 else 1⟩],if i % 2=0 then zuj ((idx l ((i / 2:Nat):Int)).getD default).lo else ((idx l ((i / 2:Nat):Int)).getD default).hi⟩
def famP (m:Model) (c:Constraint):Bool:=decide (0≤c.family)&&decide (c.family<(m.ztI.length:Int))
def zeP (K:Nat) (c:Constraint):Bool:=(((c.kind==0)&&(c.first==0))&&(c.size==0))&&zul K c.row
def acyP (m:Model) (c:Constraint):Bool:=c.kind==1&&zgO m c
def conP (m:Model) (l:List Range) (i:Nat) (c:Constraint):Bool:=famP m c&&(zeP l.length c||acyP m c)&&(!decide (i / 2<l.length)||(c.kind==0&&decide (c.row=zdN l i)))
def zw1 (m:Model) (l:List Range):Bool:=decide (m.constraints.length≤512)&&decide (2*l.length≤m.constraints.length)&&allR (λi=>conP m l i ((idx m.constraints (i:Int)).getD default)) 0 m.constraints.length
theorem quo2 {i:Nat} (h:i<1000000):zuU (i:Int) 2=some ((i / 2:Nat):Int):=by
 unfold zuU;rw [if_neg (by decide),Int.tdiv_eq_ediv_of_nonneg (by omega),zao (by omega) (by omega)];congr 1
theorem rem2 {i:Nat}:zuV (i:Int) 2=some ((i % 2:Nat):Int):=by
 unfold zuV
 grind
theorem mul2 {i:Nat} (h:i<1000000):ztG 2 (i:Int)=((2*i:Nat):Int):=by
 grind [ztG,zao]
theorem zgG {n} {m} {l} (hS:zt9 m) (hc:∀ t∈m.tables,t.ztv.all (zum m.ztB)=true) (hK:l.length<100000) (hn:1000000≤n):zZ n ⟨m,l⟩=some (zw1 m l):=by
 have hcl:=hS.constraints;have htl:=hS.tables;unfold zZ zw1;simp only [mul2 (show l.length<1000000 by omega)];by_cases h0:(decide (m.constraints.length≤512)&&decide (2*l.length≤m.constraints.length))=true
 ·rw [h0,yD];simp only [yd,yf] at h0;rw [if_neg (by grind)];have:=zf7 (body:=zZ.l1 n ⟨m,l⟩) (len:=m.constraints.length) (n:=n) (st:=λi=>(i:Int)) (λi=>conP m l i ((idx m.constraints (i:Int)).getD default)) (some false) (some true) (λrec i hi=>?_) (λrec=>?_) (by omega)
  ·grind
  ·have hterms:=hS.con _ (yi hi);simp only [zZ.l1,jn,zB hi,if_true,zb hi,ya,zaA,yj,zi2 (j:=⟨m,l⟩) (r:=m.constraints[i].row) (show m.constraints[i].row.zty.length<1000000 by omega) hn,zkB (j:=⟨m,l⟩) (c:=m.constraints[i]) hc (show m.tables.length<1000000 by omega) hn,yr,yB,grd,quo2 (show i<1000000 by omega),rem2,zqC (r:=m.constraints[i].row) (show m.constraints[i].row.zty.length<1000000 by omega) hn,zd (i:=i) (by omega)];have hfam:(decide (0≤m.constraints[i].family)&&decide (m.constraints[i].family<(m.ztI.length:Int)))=famP m m.constraints[i]:=rfl;rw [hfam];cases hf:famP m m.constraints[i] with
   | false=>grind [conP]
   | true=>
    simp only [uo,ye,if_false];have hrest:∀ (X:Bool),X=(zeP l.length m.constraints[i]||acyP m m.constraints[i]) →
      (if X=true then (if decide (((i / 2:Nat):Int)<(l.length:Int))=true then (idx l ((i / 2:Nat):Int)).bind λx81=>(if (((i % 2:Nat):Int)==0)=true then (if (m.constraints[i].kind != 0||!decide (m.constraints[i].row=(⟨[⟨((i / 2:Nat):Int),-1⟩],zuj x81.lo⟩:Row)))=true then some false else rec ((i+1:Nat):Int)) else (if (m.constraints[i].kind != 0||!decide (m.constraints[i].row=(⟨[⟨((i / 2:Nat):Int),1⟩],x81.hi⟩:Row)))=true then some false else rec ((i+1:Nat):Int))) else rec ((i+1:Nat):Int)) else some false)=if conP m l i m.constraints[i]=true then rec ((i+1:Nat):Int) else some false:=by
     intro X hX;unfold conP;rw [hf,← hX];cases X with
     | false=>simp
     | true=>
      simp only [if_true,yD];by_cases hlt:i / 2<l.length
      ·rw [if_pos (zj1 hlt),zb hlt,ya];simp only [hlt,decide_true,uo,uK,zdN,zb hlt,yj]
       grind
      grind
    by_cases hk:m.constraints[i].kind=0
    ·rw [if_pos (by simp [hk])]
     grind [zeP,acyP,zul,bne]
    ·rw [if_neg (by simp [hk])];have hX:(zeP l.length m.constraints[i]||acyP m m.constraints[i])=(m.constraints[i].kind==1&&zgO m m.constraints[i]):=by
      simp [zeP,acyP,hk]
     rw [← hrest _ hX.symm];cases h1:(m.constraints[i].kind==1) <;> cases h3:zgO m m.constraints[i] <;> simp [bne,h1]
  ·simp [zZ.l1]
 grind
theorem zpL {m l} (h2:2*l.length≤m.constraints.length) :
  allR (λi=>conP m l i ((idx m.constraints (i:Int)).getD default)) 0 m.constraints.length=(allR (λi=>decide (((idx m.constraints ((2*i:Nat):Int)).getD default).row=zdN l (2*i))&&decide (((idx m.constraints ((2*i+1:Nat):Int)).getD default).row=zdN l (2*i+1))) 0 l.length
   && allR (λi=>famP m ((idx m.constraints (i:Int)).getD default)&&(zeP l.length ((idx m.constraints (i:Int)).getD default)||(decide (2*l.length≤i)&&acyP m ((idx m.constraints (i:Int)).getD default)))) 0 m.constraints.length):=by
 rw [Bool.eq_iff_iff,yd,ziO,ziO,ziO];constructor
 ·intro h;refine ⟨λj hj=>?_,λi hi=>?_⟩
  ·have ha:=h (2*j) (by omega);have hb:=h (2*j+1) (by omega);simp only [conP,yd,yI,yC,yL,yf] at ha hb ⊢
   grind
  ·have ha:=h i hi;simp only [conP,yd,yI,yC,yL,yf] at ha ⊢;refine ⟨ha.1.1,?_⟩;rcases ha.1.2 with e | e
   ·grind
   ·refine .inr ⟨?_,e⟩;rcases ha.2 with f | f
    ·omega
    ·simp only [acyP,yd,beq_iff_eq] at e
     grind
 ·rintro ⟨ha,hb⟩ i hi;have hb:=hb i hi;simp only [conP,yd,yI,yC,yL,yf] at hb ⊢;refine ⟨⟨hb.1,hb.2.imp id (·.2)⟩,?_⟩;by_cases hlt:i / 2<l.length
  ·right;have ha:=ha (i / 2) hlt;simp only [yd,yf] at ha;rcases hb.2 with e | e
   ·refine ⟨?_,?_⟩
    ·simp only [zeP,yd] at e;exact e.1.1.1
    ·by_cases hm:i % 2=0
     ·have:=ha.1
      rwa [show 2*(i / 2)=i by omega] at this
     ·have:=ha.2
      rwa [show 2*(i / 2)+1=i by omega] at this
   ·omega
  ·exact .inl hlt
theorem zgH {n} {m} (hS:zt9 m) (hL:zbm m.ztB m.tables=true) (hn:1000000≤n):zY n m=some (zw1 m (zW m.ztB true m.tables)):=by
 have hcl:=hS.constraints;have htl:=hS.tables;have hsl:=hS.ztB;obtain ⟨l1,l2,l3,l4⟩:=zb5 hL;have hlen:=zdL (sizes:=m.ztB) (s:=true) (l:=m.tables) λx hx=>(l4 x hx).2.2.2.2
 unfold zY zcm zw1;rw [zey hn (by omega) (by omega) (λt ht=>by have:=hS.tab t ht;omega),hL,if_pos rfl];generalize zW m.ztB true m.tables=l at hlen;simp only [ya,mul2 (show l.length<1000000 by omega)];by_cases h0:(decide (m.constraints.length≤512)&&decide (2*l.length≤m.constraints.length))=true
 ·rw [h0,yD];simp only [yd,yf] at h0;rw [if_neg (by grind),zpL h0.2];have first:=zf7 (body:=zY.l1 n m l) (len:=l.length) (n:=n) (st:=λi=>(i:Int)) (λi=>decide (((idx m.constraints ((2*i:Nat):Int)).getD default).row=zdN l (2*i))&&decide (((idx m.constraints ((2*i+1:Nat):Int)).getD default).row=zdN l (2*i+1))) (some false) (ztz (zY.l2 n m l) n 0) (λrec i hi=>?_) (λrec=>?_) (by omega)
  ·simp only [Int.natCast_zero] at first
   rw [first];have second:=zf7 (body:=zY.l2 n m l) (len:=m.constraints.length) (n:=n) (st:=λi=>(i:Int)) (λi=>famP m ((idx m.constraints (i:Int)).getD default)&&(zeP l.length ((idx m.constraints (i:Int)).getD default)||(decide (2*l.length≤i)&&acyP m ((idx m.constraints (i:Int)).getD default)))) (some false) (some true) (λrec i hi=>?_) (λrec=>?_) (by omega)
   ·grind
   ·have hterms:=hS.con _ (yi hi);have hd:decide (ztG 2 (l.length:Int)≤(i:Int))=decide (2*l.length≤i):=by rw [mul2 (by omega)];exact decide_eq_decide.2 (by omega)
    simp only [zY.l2,zB hi,if_true,zb hi,ya,yj,zk7 (r:=m.constraints[i].row) (show m.constraints[i].row.zty.length<1000000 by omega) hn,zmW (m:=m) (c:=m.constraints[i]) (λt ht=>(l4 t ht).2.2.2.1) (show m.tables.length<1000000 by omega) hn,yr,yB,grd,zd (i:=i) (by omega),hd];have hfam:(decide (m.constraints[i].family<0)||decide ((m.ztI.length:Int)≤m.constraints[i].family)) = !famP m m.constraints[i]:=by
     unfold famP;rw [Bool.not_and,← decide_not,← decide_not];congr 1
     ·exact decide_eq_decide.2 (by omega)
     ·exact decide_eq_decide.2 (by omega)
    rw [hfam];cases famP m m.constraints[i] with
    | false=>simp
    | true=>
     have hp:((((m.constraints[i].kind==0)&&(m.constraints[i].first==0))&&(m.constraints[i].size==0))&&zul l.length m.constraints[i].row)=zeP l.length m.constraints[i]:=rfl;rw [hp];unfold acyP;cases zeP l.length m.constraints[i] <;> cases decide (2*l.length≤i) <;> cases (m.constraints[i].kind==1) <;> cases zgO m m.constraints[i] <;> simp
   ·simp [zY.l2]
  ·have h2i:2*i<m.constraints.length:=by omega
   have h2j:2*i+1<m.constraints.length:=by omega
   have t1:=hS.con _ (yi h2i);have t2:=hS.con _ (yi h2j);have e1:zdN l (2*i)=⟨[⟨(i:Int),-1⟩],zuj l[i].lo⟩:=by
    unfold zdN;rw [show 2*i / 2=i by omega,if_pos (by omega),if_pos (by omega),zb hi];rfl
   have e2:zdN l (2*i+1)=⟨[⟨(i:Int),1⟩],l[i].hi⟩:=by
    unfold zdN;rw [show (2*i+1) / 2=i by omega,if_neg (by omega),if_neg (by omega),zb hi];rfl
   have hadd:ztu ((2*i:Nat):Int) 1=((2*i+1:Nat):Int):=zd (by omega);simp only [zY.l1,zB hi,if_true,zb hi,mul2 (show i<1000000 by omega),zb h2i,hadd,zb h2j,ya,yj,zkN (show m.constraints[2*i].row.zty.length<1000000 by omega) hn,zkN (show m.constraints[2*i+1].row.zty.length<1000000 by omega) hn,yr,yB,grd,zd (i:=i) (by omega),e1,e2];cases decide (m.constraints[2*i].row=⟨[⟨(i:Int),-1⟩],zuj l[i].lo⟩) <;> cases decide (m.constraints[2*i+1].row=⟨[⟨(i:Int),1⟩],l[i].hi⟩) <;> simp
  ·simp [zY.l1]
 grind
theorem zat {α S R:Type} {body} {l:List α} {n} {st:Nat→S} (p) (F T:Option R)
  (hb:∀ rec i (hi),body rec (st i)=if p l[i]=true then rec (st (i+1)) else F) (he:∀ rec,body rec (st l.length)=T) (hn:l.length<n):ztz body n (st 0)=if l.all p=true then T else F:=by
 have:=zM (body:=body) (len:=l.length) (st:=st) (g:=λi=>if (l.drop i).all p=true then T else F) (λrec i hi a=>?_) (λrec=>?_) n 0 (yo _) (by omega)
 ·grind
 ·grind [zm]
 grind
def zcX (sizes:List Int) (c:Int):Int:=sizes.getD c.toNat 0
def digR (sizes:List Int):List Int→Int→List Int
 | [],_=>[]
 | c::l,k=>k.tmod (zcX sizes c)::digR sizes l (w64 (k.tdiv (zcX sizes c)))
def zoP (sizes cols:List Int) (k:Int):List Int:=(digR sizes cols.reverse k).reverse
theorem zh7 {sizes} (hs:sizes.all zcw=true) {c} (hc:zum sizes c=true):1≤zcX sizes c∧zcX sizes c≤6:=by
 simp only [zum,yd,yf] at hc;obtain ⟨k,rfl⟩:=y7 hc.1;have b:k<sizes.length:=by omega
 have a:=yp.1 hs _ (yi b);simp only [zcw] at a
 grind [zcX]
theorem zqG {r} {done} {x:Int}:sto (List.replicate (r+1) 0++done) (r:Int) x=some (List.replicate r 0++x::done):=by
 unfold sto;rw [if_pos (by grind)]
 grind [Int.toNat_natCast,List.replicate_succ']
theorem zp2 {r} {done:List Int}:∃ x,idx (List.replicate (r+1) 0++done) (r:Int)=some x:=⟨_,zb (by grind)⟩
theorem zoO {α:Type} {l:List α} {r} (h):(l.take (r+1)).reverse=l[r]::(l.take r).reverse:=by
 simp_all
theorem ziT {n} {sizes} {t} {i} (hs:sizes.all zcw=true) (hc:t.ztv.all (zum sizes)=true) (hl:t.ztv.length<1000000):∀ (m r) (done) (k),r<m→r≤t.ztv.length →
  ztz (za3.l2 n sizes i t) m (List.replicate r 0++done,k,(r:Int) - 1)=some (i,(digR sizes (t.ztv.take r).reverse k).reverse++done,true)
 | 0,_,_,_,h,_=>by omega
 | m+1,0,done,k,_,_=>by simp [ztz,za3.l2,digR]
 | m+1,r+1,done,k,h,o=>by
  have d :=by omega
  have a:=yp.1 hc _ (yi d);have j:=zh7 hs a;have e:(((r+1:Nat))) - 1=(r:Int):=by omega
  obtain ⟨x,p⟩:=zp2 (r:=r) (done:=done);have b:zuV k (zcX sizes t.ztv[r])=some (k.tmod (zcX sizes t.ztv[r])):=by unfold zuV;grind
  have c:zuU k (zcX sizes t.ztv[r])=some (w64 (k.tdiv (zcX sizes t.ztv[r]))):=by unfold zuU;grind
  have g:=zfx a;have f:ztH r 1=r - 1:=by grind [ztH,zao]
  have l:decide (0≤r)=true:=by simp
  unfold zcX at b c;simp only [ztz,za3.l2,e,zb d,g,b,c,zqG,ya,f];rw [ziT hs hc hl m r _ _ (by omega) (by omega),zoO d]
  grind [digR,zcX]
theorem zk6 {n} {sizes cols} (hs:sizes.all zcw=true) (hc:cols.all (zum sizes)=true) (hl:cols.length<1000000):∀ (m r) (done) (k),r<m→r≤cols.length →
  ztz (zd1.l1 n sizes cols) m (List.replicate r 0++done,k,(r:Int) - 1)=some ((digR sizes (cols.take r).reverse k).reverse++done)
 | 0,_,_,_,h,_=>by omega
 | m+1,0,done,k,_,_=>by simp [ztz,zd1.l1,digR]
 | m+1,r+1,done,k,h,l=>by
  have d :=by omega
  have a:=yp.1 hc _ (yi d);have i:=zh7 hs a;have e:(((r+1:Nat))) - 1=(r:Int):=by omega
  obtain ⟨x,o⟩:=zp2 (r:=r) (done:=done);have b:zuV k (zcX sizes cols[r])=some (k.tmod (zcX sizes cols[r])):=by unfold zuV;grind
  have c:zuU k (zcX sizes cols[r])=some (w64 (k.tdiv (zcX sizes cols[r]))):=by unfold zuU;grind
  have g:=zfx a;have f:ztH r 1=r - 1:=by grind [ztH,zao]
  have j:decide (0≤r)=true:=by simp
  unfold zcX at b c;simp only [ztz,zd1.l1,e,zb d,g,b,c,zqG,ya,f];rw [zk6 hs hc hl m r _ _ (by omega) (by omega),zoO d]
  grind [digR,zcX]
theorem mkl_0 {b k:Nat} (h:k*b≤140737488355328):mkl b (k:Int) (0:Int)=some (List.replicate k 0):=by
 unfold mkl;grind
theorem znd {k:Nat} (h:k<1000000):ztH (k:Int) 1=(k:Int) - 1:=by
 grind [ztH,zao]
theorem zmO {n} {sizes cols} {k} (hs:sizes.all zcw=true) (hc:cols.all (zum sizes)=true) (hl:cols.length≤1000) (hn:1000000≤n):zd1 n sizes cols k=some (zoP sizes cols k):=by
 unfold zd1;rw [mkl_0 (by omega),ya,znd (by omega)];have:=zk6 (n:=n) hs hc (by omega) n cols.length [] k (by omega) (ym _)
 grind [zoP]
def hitP (sizes:List Int) (s:Bool) (cell:Int) (t:Table):Bool:=(zb9 t.kind==s)&&(decide (0≤ztH cell t.first)&&decide (ztH cell t.first<zas sizes t.ztv 1))
def resT (sizes:List Int) (s:Bool) (cell:Int):List Table→Nat→Int×List Int×Bool
 | [],_=>(0,[],false)
 | t::l,i=>if hitP sizes s cell t=true then ((i:Int),zoP sizes t.ztv (ztH cell t.first),true) else resT sizes s cell l (i+1)
def zvZ (sizes:List Int) (tables:List Table) (s:Bool) (cell:Int):Int×List Int×Bool:=if (zbm sizes tables&&decide (0≤cell))=true then resT sizes s cell tables 0 else (0,[],false)
theorem zkv {n} {sizes} {tables} {s} {cell} (hF:Fuel n) (hs:sizes.length≤1000) (ht:tables.length≤1000) (hc:∀ t∈tables,t.ztv.length≤1000):za3 n sizes tables s cell=some (zvZ sizes tables s cell):=by
 have hn:=hF.big;unfold za3 zvZ;rw [zeX hF hs ht hc,ya];cases hL:zbm sizes tables with
 | false=>simp
 | true=>
  obtain ⟨l1,l2,l3,l4⟩:=zb5 hL;by_cases h0:0≤cell
  ·have:=zM (body:=za3.l1 n sizes tables s cell) (len:=tables.length) (st:=λi=>i) (g:=λi=>some (resT sizes s cell (tables.drop i) i)) (λrec i hi hr=>?_) (λrec=>?_) n 0 (yo _) (by omega)
   ·grind
   ·obtain ⟨-,-,c1,c2,c3,c4⟩:=l4 _ (yi hi);simp only [za3.l1,zB hi,zb hi,ya,zb2,zeY c2 (show tables[i].ztv.length<4611686018427387904 by omega) (show tables[i].ztv.length<n by omega),grd,zd (i:=i) (by omega),mkl_0 (b:=8) (k:=tables[i].ztv.length) (by omega),uC,znd (show tables[i].ztv.length<1000000 by omega)];have hdig:=ziT (n:=n) (i:=(i:Int)) l3 c2 (by omega) n tables[i].ztv.length [] (ztH cell tables[i].first) (by omega) (ym _);simp only [ue,List.take_length] at hdig;rw [hdig,zm hi,resT];have hh:(((tables[i].kind==0||tables[i].kind==1) != s||decide (ztH cell tables[i].first<0))||decide (zas sizes tables[i].ztv 1≤ztH cell tables[i].first)) = !hitP sizes s cell tables[i]:=by
     unfold hitP zb9
     grind
    grind [hitP,zoP]
   ·simp [za3.l1,resT]
  grind
theorem zkE {n} {sizes} {tables} {s} {cell} (hn:1000000≤n) (hs:sizes.length≤1000) (ht:tables.length≤1000) (hc:∀ t∈tables,t.ztv.length≤1000∧t.name.length≤4096):zcO n sizes tables s cell=some (zvZ sizes tables s cell):=by
 unfold zcO zvZ;rw [ze2 hn hs ht hc,ya];cases d:zbm sizes tables with
 | false=>simp
 | true=>
  obtain ⟨m,j,e,f⟩:=zb5 d;have:=zM (body:=zcO.l1 n sizes tables s cell) (len:=tables.length) (st:=λi=>i) (g:=λi=>some (if decide (0≤cell)=true then resT sizes s cell (tables.drop i) i else (0,[],false))) (λa i b k=>?_) (λa=>?_) n 0 (yo _) (by omega)
  ·grind
  ·obtain ⟨-,-,l,h,o,p⟩:=f _ (yi b);have c:=zez (n:=n) (sizes:=sizes) (cols:=tables[i].ztv) (by omega) (by omega) (by omega) (by omega);simp only [zcO.l1,zb b,ya,zbZ,grd,zd (i:=i) (by omega),zmO e h (show tables[i].ztv.length≤1000 by omega) hn];rw [zm b,resT];unfold hitP zb9
   grind
  ·simp [zcO.l1,resT]
theorem zql {sizes} {s} {cell}:∀ (l) (i),(resT sizes s cell l i).2.2=true→∃ k:Nat,(resT sizes s cell l i).1=(k:Int)∧i≤k∧k<i+l.length
 | [],_,h=>by grind [resT]
 | t::l,i,h=>by
  rw [resT] at h ⊢;split at h
  ·grind
  ·rename_i b;obtain ⟨k,e,c,a⟩:=zql l (i+1) h
   grind
theorem zmq {sizes} {tables} {s} {cell} (h:(zvZ sizes tables s cell).2.2=true):∃ t,idx tables (zvZ sizes tables s cell).1=some t:=by
 unfold zvZ at h ⊢;split at h
 ·rename_i a;rw [if_pos a];obtain ⟨k,e,-,b⟩:=zql tables 0 h;rw [e];exact ⟨_,zb (by omega)⟩
 grind
theorem zpG {sizes} {tables} {s} {cell} (h:cell<0):(zvZ sizes tables s cell).2.2=false:=by
 unfold zvZ
 grind
def updT (t:Table) (u:zva):Bool:=if (t.kind==2||t.kind==3)=true then ((u.kind==0)||(u.kind==1))&&(u.value==0) else ((u.kind==2)&&decide (t.range.lo≤u.value))&&decide (u.value≤t.range.hi)
def updP (m:Model) (u:zva):Bool:=(zvZ m.ztB m.tables false u.cell).2.2&&updT ((idx m.tables (zvZ m.ztB m.tables false u.cell).1).getD default) u
def zvQ (m:Model):Int→List zva→Bool
 | _,[]=>true
 | last,u::l=>(decide (last<u.cell)&&updP m u)&&zvQ m u.cell l
theorem zj7 {n} {m} {l} {u} (hF:Fuel n) (hS:zt9 m):zbY n ⟨m,l⟩ u=some (updP m u):=by
 unfold zbY updP;have c:=hS.ztB;have b:=hS.tables;simp only [];rw [zkv hF (by omega) (by omega) (λt h=>by have:=hS.tab t h;omega),ya];cases a:(zvZ m.ztB m.tables false u.cell).2.2 with
 | false=>simp
 | true=>
  obtain ⟨t,b⟩:=zmq a;simp only [jn,updT]
  grind
def opP (m:Model) (o:zt7):Bool:=decide (o.ztB.length≤3)&&o.ztB.all λs=>decide (-1≤s)&&decide (s<(m.ztB.length:Int))
def opsP (m:Model):Bool:=m.ztx.all (opP m)&&(decide (m.ztx.length≤8)&&zvw [] (m.ztx.map (·.name)))
theorem zed {α β:Type} {f:α→β} {l:List α} {i} (hi):(l.take i).map f++[f l[i]]=(l.take (i+1)).map f:=by
 grind [List.take_succ_eq_append_getElem]
theorem zg8 {n} {m} {l} (hF:Fuel n) (hS:zt9 m):zO n ⟨m,l⟩=some (opsP m):=by
 have hn:=hF.big;have hol:=hS.ztx;unfold zO opsP;have:=zat (body:=zO.l1 n ⟨m,l⟩) (l:=m.ztx) (n:=n) (st:=λi=>((m.ztx.take i).map (·.name),(i:Int))) (opP m) (some false) (some (decide (m.ztx.length≤8)&&zvw [] (m.ztx.map (·.name)))) (λrec i hi=>?_) (λrec=>?_) (by omega)
 ·grind
 ·have hop:=hS.op _ (yi hi);simp only [zO.l1,zb hi,ya];rw [zl (by grind),ya,zbj (p:=λs=>!(decide (-1≤s)&&decide (s<(m.ztB.length:Int)))) (λx _=>by
   simp only [zbv,Bool.not_and,← decide_not]
   grind) (by omega) (by omega)]
  simp only [grd,zd (i:=i) (by omega),zed hi];have h3:decide (3<(m.ztx[i].ztB.length:Int)) = !decide (m.ztx[i].ztB.length≤3):=by grind
  grind [opP]
 ·simp only [zO.l1,ye,if_false,List.take_length];rw [zfg hF (by grind)];simp only [yr,yB,grd,if_true,yj,yK,yn]
  grind
def zgN (K:Nat):Int→List Change→Bool
 | _,[]=>true
 | last,d::l=>(decide (last<d.cell)&&decide (d.cell<(K:Int))&&(d.add != 0)&&zaT d.add 1000000000)&&zgN K d.cell l
def effP (m:Model) (K:Nat) (x:zt4):Bool:=zgN K (-1) x.delta&&(zvQ m (-1) x.ztD&&(decide (x.hold.length≤8)&&decide (x.ztD.length≤32)&&x.hold.all (zul K)))
theorem zj5 {n m l x} (hF:Fuel n) (hS:zt9 m) (h1:x.delta.length≤1000) (h2:x.ztD.length≤1000) (h3:x.hold.length≤1000) (h4:∀ r∈x.hold,r.zty.length≤1000):zS n ⟨m,l⟩ x=some (effP m l.length x):=by
 have hn:=hF.big;have T:ztz (zS.l2 n ⟨m,l⟩ x) n (-1,0)=some (zvQ m (-1) x.ztD&&(decide (x.hold.length≤8)&&decide (x.ztD.length≤32)&&x.hold.all (zul l.length))):=by
  have:=zbd (body:=zS.l2 n ⟨m,l⟩ x) (len:=x.ztD.length) (st:=λ(s:Int) i=>(s,(i:Int))) (g:=λi s=>some (zvQ m s (x.ztD.drop i)&&(decide (x.hold.length≤8)&&decide (x.ztD.length≤32)&&x.hold.all (zul l.length)))) (λ_ _=>True) (λrec i s hi _ hr=>?_) (λrec s _=>?_) n 0 (-1) (yo _) (by omega) trivial
  ·simpa using this
  ·simp only [zS.l2,zB hi,if_true,zb hi,ya,zj7 hF hS,yr,yB,grd,yj,zd (i:=i) (by omega),hr x.ztD[i].cell trivial];rw [zm hi,zvQ];by_cases hlt:s<x.ztD[i].cell
   ·have hd:decide (x.ztD[i].cell≤s)=false:=by simp;omega
    rw [hd];cases updP m x.ztD[i] <;> simp [hlt]
   ·have hd:decide (x.ztD[i].cell≤s)=true:=by simp;omega
    rw [hd];simp [hlt]
  ·have hc:zo n x.hold (λq0=>zbC n q0 ⟨m,l⟩)=some (x.hold.any λr=>!zul l.length r):=zcC (λr hr=>by
    unfold zbC;rw [zi2 (by have:=h4 r hr;omega) (by omega)];rfl) (by omega) (by omega)
   simp only [zS.l2,zaw,ye,if_false,hc,yr,yB,grd,if_true,yj,znp,List.drop_length,zvQ,yD,yn];congr 2
   ·exact decide_eq_decide.2 (by omega)
   ·exact decide_eq_decide.2 (by omega)
 have:=zbd (body:=zS.l1 n ⟨m,l⟩ x) (len:=x.delta.length) (st:=λ(s:Int) i=>(s,(i:Int))) (g:=λi s=>some (zgN l.length s (x.delta.drop i)&&(zvQ m (-1) x.ztD&&(decide (x.hold.length≤8)&&decide (x.ztD.length≤32)&&x.hold.all (zul l.length))))) (λ_ _=>True) (λrec i s hi _ hr=>?_) (λrec s _=>?_) n 0 (-1) (yo _) (by omega) trivial
 ·simpa [zS,effP] using this
 ·simp only [zS.l1,zB hi,if_true,zb hi,ya,zxT,yr,yB,grd,yj,zd (i:=i) (by omega),hr x.delta[i].cell trivial];rw [zm hi,zgN];by_cases h:(decide (s<x.delta[i].cell)&&decide (x.delta[i].cell<(l.length:Int))&&(x.delta[i].add != 0)&&zaT x.delta[i].add 1000000000)=true
  ·rw [h,yD];simp only [yd,yf,bne_iff_ne] at h;rw [if_neg (by simp [h.2,h.1.2];omega)]
  ·rw [if_pos (by
    simp only [yd,yf,bne_iff_ne,ne_eq] at h;simp only [yI,yf,beq_iff_eq,yC,← yS];by_cases ha:zaT x.delta[i].add 1000000000=true
    ·left;simp only [ha,and_true] at h;omega
    ·exact .inr ha)]
   simp only [yS] at h;rw [h];rfl
 ·simp only [zS.l1,zaw,ye,if_false,T,List.drop_length,zgN,yD]
theorem zl3 {n m x} (hn:1000000≤n) (hS:zt9 m) (hL:zbm m.ztB m.tables=true) (h1:x.delta.length≤1000) (h2:x.ztD.length≤1000) (h3:x.hold.length≤1000) (h4:∀ r∈x.hold,r.zty.length≤1000):zaa n m x=some (effP m (zW m.ztB true m.tables).length x):=by
 have htl:=hS.tables;have hsl:=hS.ztB;have hcs:∀ t∈m.tables,t.ztv.length≤1000∧t.name.length≤4096:=λt ht=>by have:=hS.tab t ht;omega
 unfold zaa zcm;rw [zey hn (by omega) (by omega) hcs,hL,if_pos rfl];generalize zW m.ztB true m.tables=l;simp only [ya];have T3:ztz (zaa.l3 n m x) n 0=some (zvQ m (-1) x.ztD&&(decide (x.hold.length≤8)&&decide (x.ztD.length≤32))):=by
  have:=zbd (body:=zaa.l3 n m x) (len:=x.ztD.length) (st:=λ(_:Int) i=>(i:Int)) (g:=λi s=>some (zvQ m s (x.ztD.drop i)&&(decide (x.hold.length≤8)&&decide (x.ztD.length≤32)))) (λi s=>-1≤s∧((i=0∧s = -1)∨(0<i∧∃ y,idx x.ztD (ztH (i:Int) 1)=some y∧y.cell=s))) (λrec i s hi hI hr=>?_) (λrec s _=>?_) n 0 (-1) (yo _) (by omega) ⟨by omega,.inl ⟨rfl,rfl⟩⟩
  ·simpa using this
  ·obtain ⟨h1,h2⟩:=hI;have hprev:(decide (0<(i:Int))&&decide (x.ztD[i].cell≤((idx x.ztD (ztH (i:Int) 1)).getD default).cell))=(decide (0<i)&&decide (x.ztD[i].cell≤s))∧(!(decide (0<(i:Int)))||(idx x.ztD (ztH (i:Int) 1)).isSome)=true:=by
    rcases h2 with ⟨h2,h3⟩ | ⟨h2,y,h3,h4⟩
    ·subst h2;simp
    ·rw [h3];simp [h4,h2]
   have hnext:(-1≤x.ztD[i].cell)→rec ((i+1:Nat):Int)=some (zvQ m x.ztD[i].cell (x.ztD.drop (i+1))&&(decide (x.hold.length≤8)&&decide (x.ztD.length≤32))):=λh=>hr x.ztD[i].cell ⟨h,.inr ⟨by omega,x.ztD[i],by
     rw [zeD (by omega) (by omega),show i+1 - 1=i by omega,zb hi],rfl⟩⟩
   simp only [zaa.l3,zB hi,if_true,zb hi,ya,zkE (cell:=x.ztD[i].cell) (s:=false) hn (show m.ztB.length≤1000 by omega) (show m.tables.length≤1000 by omega) hcs,hprev.1,hprev.2,yB,grd,zkf,zd (i:=i) (by omega)];rw [zm hi,zvQ];unfold updP;cases hok:(zvZ m.ztB m.tables false x.ztD[i].cell).2.2 with
   | false=>simp
   | true=>
    obtain ⟨t,ht⟩:=zmq hok;have hge:0≤x.ztD[i].cell:=by
     by_cases h:x.ztD[i].cell<0
     ·rw [zpG h] at hok;cases hok
     ·omega
    have hasc:(decide (0<i)&&decide (x.ztD[i].cell≤s)) = !decide (s<x.ztD[i].cell):=by
     rw [← decide_not,← Bool.decide_and];refine decide_eq_decide.2 ?_;rcases h2 with ⟨h2,h3⟩ | ⟨h2,-⟩ <;> omega
    rw [hasc,hnext (by omega)];simp only [ht,uo,uK,ya,yj,yD];cases decide (s<x.ztD[i].cell) with
    | false=>simp
    | true=>
     simp only [uo,ye,if_false,yD];unfold updT;by_cases hset:(t.kind==2||t.kind==3)=true
     ·rw [hset];simp only [if_true,yD,uo,uf,ye,if_false];cases hk0:(x.ztD[i].kind==0) <;> cases hk1:(x.ztD[i].kind==1) <;> cases hv:(x.ztD[i].value==0) <;> simp [bne,hk0,hk1,hv]
     ·simp only [yS] at hset;rw [hset];simp only [uf,ye,if_false,ur,yD];have e1:decide (x.ztD[i].value<t.range.lo) = !decide (t.range.lo≤x.ztD[i].value):=by rw [← decide_not];exact decide_eq_decide.2 (by omega)
      have e2:decide (t.range.hi<x.ztD[i].value) = !decide (x.ztD[i].value≤t.range.hi):=by rw [← decide_not];exact decide_eq_decide.2 (by omega)
      rw [e1,e2];cases hk0:(x.ztD[i].kind==2) <;> cases decide (t.range.lo≤x.ztD[i].value) <;> cases decide (x.ztD[i].value≤t.range.hi) <;> simp [bne,hk0]
  ·simp only [zaa.l3,zaw,ye,if_false,List.drop_length,zvQ,yD,yn];congr 1
   ·exact decide_eq_decide.2 (by omega)
   ·exact decide_eq_decide.2 (by omega)
 have T2:ztz (zaa.l2 n m x l) n 0=if x.hold.all (zul l.length)=true then some (zvQ m (-1) x.ztD&&(decide (x.hold.length≤8)&&decide (x.ztD.length≤32))) else some false:=by
  have:=zat (body:=zaa.l2 n m x l) (l:=x.hold) (n:=n) (st:=λi=>(i:Int)) (zul l.length) (some false) (some (zvQ m (-1) x.ztD&&(decide (x.hold.length≤8)&&decide (x.ztD.length≤32)))) (λrec i hi=>?_) (λrec=>?_) (by omega)
  ·simpa using this
  ·simp only [zaa.l2,zB hi,if_true,zb hi,ya,zk7 (show x.hold[i].zty.length<1000000 by have:=h4 _ (yi hi);omega) hn,zd (i:=i) (by omega)];cases zul l.length x.hold[i] <;> simp
  ·simp only [zaa.l2,zaw,ye,if_false,T3]
 have:=zbd (body:=zaa.l1 n m x l) (len:=x.delta.length) (st:=λ(_:Int) i=>(i:Int)) (g:=λi s=>some (zgN l.length s (x.delta.drop i)&&(zvQ m (-1) x.ztD&&(decide (x.hold.length≤8)&&decide (x.ztD.length≤32)&&x.hold.all (zul l.length))))) (λi s=>-1≤s∧((i=0∧s = -1)∨(0<i∧∃ y,idx x.delta (ztH (i:Int) 1)=some y∧y.cell=s))) (λrec i s hi hI hr=>?_) (λrec s _=>?_) n 0 (-1) (yo _) (by omega) ⟨by omega,.inl ⟨rfl,rfl⟩⟩
 ·simpa [effP] using this
 ·obtain ⟨h1,h2⟩:=hI;have hprev:(decide (0<(i:Int))&&decide (x.delta[i].cell≤((idx x.delta (ztH (i:Int) 1)).getD default).cell))=(decide (0<i)&&decide (x.delta[i].cell≤s))∧(!(decide (0<(i:Int)))||(idx x.delta (ztH (i:Int) 1)).isSome)=true:=by
   rcases h2 with ⟨h2,h3⟩ | ⟨h2,y,h3,h4⟩
   ·subst h2;simp
   ·rw [h3];simp [h4,h2]
  simp only [zaa.l1,zB hi,if_true,zb hi,ya,zxu,yr,yB,grd,yj,hprev.1,hprev.2,zd (i:=i) (by omega)];rw [zm hi,zgN];by_cases h:(decide (s<x.delta[i].cell)&&decide (x.delta[i].cell<(l.length:Int))&&(x.delta[i].add != 0)&&zaT x.delta[i].add 1000000000)=true
  ·rw [h,yD];simp only [yd,yf,bne_iff_ne] at h;rw [if_neg (by simp [h.2,h.1.2];omega),hr x.delta[i].cell ⟨by omega,.inr ⟨by omega,x.delta[i],by
    rw [zeD (by omega) (by omega),show i+1 - 1=i by omega,zb hi],rfl⟩⟩]
  ·rw [if_pos (by
    simp only [yd,yf,bne_iff_ne,ne_eq] at h;simp only [yI,yd,yf,beq_iff_eq,yC,← yS];by_cases ha:zaT x.delta[i].add 1000000000=true
    ·left;simp only [ha,and_true] at h;rcases h2 with ⟨h2,h3⟩ | ⟨h2,-⟩ <;> omega
    ·exact .inr ha)]
   simp only [yS] at h;rw [h];rfl
 ·simp only [zaa.l1,zaw,ye,if_false,T2,List.drop_length,zgN,yD];cases x.hold.all (zul l.length) <;> simp
def cmpP:List Int→List Int→Int
 | [],[]=>0
 | [],_::_=>-1
 | _::_,[]=>1
 | x::l,y::k=>if x<y then -1 else if y<x then 1 else cmpP l k
def zwd:List Int→List Int→Bool
 | [],[]=>false
 | [],_::_=>true
 | _::_,[]=>false
 | x::l,y::k=>if x=y then zwd l k else decide (x<y)
theorem znZ:∀ a b:List Int,decide (0≤cmpP a b) = !zwd a b
 | [],[]=>rfl
 | [],_::_=>rfl
 | _::_,[]=>rfl
 | x::l,y::k=>by
  simp only [cmpP,zwd];by_cases h:x=y
  ·subst h;simp [znZ l k]
  ·by_cases h2:x<y
   ·simp [h,h2]
   ·have:y<x:=by omega
    simp [h,h2,this]
theorem zoW {n a b} (hl:a.length<1000000) (hn:1000000≤n):zq n a b=some (cmpP a b):=by
 have:=zM (body:=zq.l1 n a b) (len:=a.length) (st:=λi=>(i:Int)) (g:=λi=>some (cmpP (a.drop i) (b.drop i))) (λrec i hi hr=>?_) (λrec=>?_) n 0 (yo _) (by omega)
 ·simpa [zq] using this
 ·simp only [zq.l1,zB hi,if_true,zb hi,ya,zd (i:=i) (by omega),hr];rw [zm hi];by_cases hb:i<b.length
  ·rw [if_neg (by simp;omega),zb hb,zm hb];simp only [ya,zcd,zdp,bne_self_eq_false,ye,if_false,cmpP,yf];by_cases h1:a[i]<b[i]
   ·simp [h1]
   ·by_cases h2:b[i]<a[i]
    ·simp [h1,h2]
    ·simp [h1,h2]
  ·rw [if_pos (by simp;omega),show b.drop i=[] from List.drop_eq_nil_of_le (by omega)];rfl
 ·simp only [zq.l1,zaw,ye,if_false,List.drop_length];by_cases hb:a.length<b.length
  ·rw [if_pos (by simpa using hb),zm hb];rfl
  ·rw [if_neg (by simpa using hb),List.drop_eq_nil_of_le (by omega)];rfl
theorem znM {n a b} (hl:a.length<1000000) (hn:1000000≤n):zcV n a b=some (zwd a b):=by
 have:=zM (body:=zcV.l1 n a b) (len:=min a.length b.length) (st:=λi=>(i:Int)) (g:=λi=>some (zwd (a.drop i) (b.drop i))) (λrec i hi hr=>?_) (λrec=>?_) n 0 (yo _) (by omega)
 ·simpa [zcV] using this
 ·have ha:i<a.length:=by omega
  have hb:i<b.length:=by omega
  simp only [zcV.l1,zB ha,zB hb,uS,if_true,zb ha,zb hb,ya,zd (i:=i) (by omega),hr];rw [zm ha,zm hb];by_cases h:a[i]=b[i]
  ·simp [h,zwd]
  ·simp [h,zwd]
 ·simp only [zcV.l1];rw [if_neg (by simp;omega)];by_cases ha:a.length≤b.length
  ·rw [Nat.min_eq_left ha,List.drop_length];by_cases hb:a.length<b.length
   ·rw [zm hb];simp [zwd,hb]
   ·rw [List.drop_eq_nil_of_le (by omega)];simp [zwd];omega
  ·rw [Nat.min_eq_right (by omega),List.drop_length,zm (by omega)];simp [zwd];omega
def argP (m:Model) (s x:Int):Bool:=(!decide (s<0)||zaT x 9999)&&(!decide (0≤s)||(decide (0≤x)&&decide (x<(idx m.ztB s).getD default)))
def zwY (m:Model):List Int→List Int→Bool
 | s::l,x::k=>argP m s x&&zwY m l k
 | _,_=>true
def opAt (m:Model) (a:Action):zt7:=(idx m.ztx a.operation).getD default
def ordP (b a:Action):Bool:=!decide (a.operation<b.operation)&&(!(b.operation==a.operation)||zwd b.arguments a.arguments)
def actP (m:Model) (K:Nat) (i:Nat) (a:Action):Bool:=
 (decide (0≤a.operation)&&decide (a.operation<(m.ztx.length:Int)))&&(a.arguments.length==(opAt m a).ztB.length)&&zwY m (opAt m a).ztB a.arguments&&(decide (i=0)||ordP ((idx m.ztw ((i - 1:Nat):Int)).getD default) a)&&effP m K a.effect
def zxb (m:Model) (K:Nat):Bool:=decide (m.ztw.length≤256)&&allR (λi=>actP m K i ((idx m.ztw (i:Int)).getD default)) 0 m.ztw.length
theorem zkS {m} {s x:List Int} {k} (h1) (h2:k<x.length):zwY m (s.drop k) (x.drop k)=(argP m s[k] x[k]&&zwY m (s.drop (k+1)) (x.drop (k+1))):=by
 rw [zm h1,zm h2];rfl
theorem zox {m a} (h:(decide (0≤a.operation)&&decide (a.operation<(m.ztx.length:Int)))=true):idx m.ztx a.operation=some (opAt m a)∧opAt m a∈m.ztx:=by
 simp only [yd,yf] at h;obtain ⟨o,b⟩:=za6 h.1 h.2
 grind [opAt,zbb]
theorem zq4 {m:Model} {s} (h0:0≤s) (h:s<(m.ztB.length:Int)):idx m.ztB s=some ((idx m.ztB s).getD default):=by
 obtain ⟨x,a⟩:=za6 h0 h
 grind
theorem zk1 {m} (h:opsP m=true):∀ o∈m.ztx,o.ztB.length≤3∧∀ s∈o.ztB,-1≤s∧s<(m.ztB.length:Int):=by
 simp only [opsP,yd,yp] at h;intro o a;have:=h.1 o a;simp only [opP] at this
 grind
theorem zqh {b a}:((decide (a.operation<b.operation))||((b.operation==a.operation)&&(decide (0≤cmpP b.arguments a.arguments)))) = !ordP b a:=by
 grind [znZ,ordP]
theorem zss {b a}:((decide (a.operation<b.operation))||((b.operation==a.operation)&&(!zwd b.arguments a.arguments))) = !ordP b a:=by
 grind [ordP]
theorem zje {n} {m} {l} (hF:Fuel n) (hS:zt9 m) (hO:opsP m=true):zI n ⟨m,l⟩=some (zxb m l.length):=by
 have hn:=hF.big;have hal:=hS.ztw;unfold zI zxb;by_cases h0:m.ztw.length≤256
 ·rw [if_neg (by grind),decide_eq_true h0,yD];have:=zf7 (body:=zI.l1 n ⟨m,l⟩) (len:=m.ztw.length) (n:=n) (st:=λi=>(i:Int)) (λi=>actP m l.length i ((idx m.ztw (i:Int)).getD default)) (some false) (some true) (λrec i hi=>?_) (λrec=>?_) (by omega)
  ·grind
  ·have hmem:=yi hi;obtain ⟨a1,a2,a3,a4,a5⟩:=hS.act _ hmem;simp only [zI.l1,zB hi,if_true,zb hi,ya,zaA,yj];unfold actP;cases hop:(decide (0≤m.ztw[i].operation)&&decide (m.ztw[i].operation<(m.ztx.length:Int))) with
   | false=>simp [grd]
   | true=>
    obtain ⟨ho,hom⟩:=zox hop;obtain ⟨o1,o2⟩:=zk1 hO _ hom;simp only [ho,yr,yB,grd,if_true,yj,uo,uK,yD,ya];by_cases hlen:m.ztw[i].arguments.length=(opAt m m.ztw[i]).ztB.length
    ·rw [if_neg (by grind)];have hle:(m.ztw[i].arguments.length==(opAt m m.ztw[i]).ztB.length)=true:=by grind
     rw [hle,yD];have inner:=zM (body:=zI.l2 n ⟨m,l⟩ i rec m.ztw[i] (opAt m m.ztw[i])) (len:=(opAt m m.ztw[i]).ztB.length) (st:=λk=>(k:Int)) (g:=λk=>if zwY m ((opAt m m.ztw[i]).ztB.drop k) (m.ztw[i].arguments.drop k)=true then (if ((decide (i=0)||ordP ((idx m.ztw ((i - 1:Nat):Int)).getD default) m.ztw[i])&&effP m l.length m.ztw[i].effect)=true then rec ((i+1:Nat):Int) else some false) else some false) (λrec' k hk hr'=>?_) (λrec'=>?_) n 0 (yo _) (by omega)
     ·grind
     ·have hk2:k<m.ztw[i].arguments.length:=by omega
      have hs2:=o2 _ (yi hk);simp only [zI.l2,zB hk,if_true,zb hk,zb hk2,ya,around4,yr,yB,grd,yj,zd (i:=k) (by omega),hr',zaA];rw [zkS hk hk2];unfold argP;by_cases hneg:(opAt m m.ztw[i]).ztB[k]<0
      ·grind
      ·have hd1:decide ((opAt m m.ztw[i]).ztB[k]<0)=false:=by simp;omega
       have hd2:decide (0≤(opAt m m.ztw[i]).ztB[k])=true:=by simp;omega
       obtain ⟨z,hz⟩:=za6 (l:=m.ztB) (i:=(opAt m m.ztw[i]).ztB[k]) (by omega) hs2.2;rw [hz,hd1,hd2];by_cases h1:0≤m.ztw[i].arguments[k]
       ·by_cases h2:m.ztw[i].arguments[k]<z
        ·have h2':¬ z≤m.ztw[i].arguments[k]:=by omega
         simp [h1,h2,h2']
        ·have h2':z≤m.ztw[i].arguments[k]:=by omega
         simp [h1,h2,h2']
       ·simp [h1]
     ·simp only [zI.l2,zaw,ye,if_false,jn,List.drop_length];rw [zj5 hF hS (by omega) (by omega) (by omega) (λr hr=>by have:=a5 r hr;omega)];simp only [ya,zd (i:=i) (by omega)];have hargs:zwY m [] (m.ztw[i].arguments.drop (opAt m m.ztw[i]).ztB.length)=true:=rfl;rw [hargs,if_pos rfl];by_cases h0i:i=0
      ·subst h0i;rw [if_neg (by simp)];cases effP m l.length m.ztw[0].effect <;> simp
      ·rw [if_pos (by simp;omega),zeD (by omega) (by omega)];have hi1:i - 1<m.ztw.length:=by omega
       have b1:=(hS.act _ (yi hi1)).1;simp only [zb hi1,ya,zqh,yj,zoW (a:=m.ztw[i - 1].arguments) (b:=m.ztw[i].arguments) (show m.ztw[i - 1].arguments.length<1000000 by omega) (show 1000000≤n by omega),yr,yB,if_true,h0i,decide_false,uK];cases ordP m.ztw[i - 1] m.ztw[i] <;> cases effP m l.length m.ztw[i].effect <;> simp [grd]
    grind
  ·simp [zI.l1]
 grind
theorem zjg {n} {m} (hn:1000000≤n) (hS:zt9 m) (hL:zbm m.ztB m.tables=true):zD n m=some (opsP m&&zxb m (zW m.ztB true m.tables).length):=by
 have hal:=hS.ztw;have hol:=hS.ztx;have hef:∀ a∈m.ztw,zaa n m a.effect=some (effP m (zW m.ztB true m.tables).length a.effect):=λa ha=>by
  obtain ⟨a1,a2,a3,a4,a5⟩:=hS.act _ ha
  grind [zl3]
 generalize (zW m.ztB true m.tables).length=K at hef;have T:opsP m=true→ztz (zD.l3 n m) n 0=some (allR (λi=>actP m K i ((idx m.ztw (i:Int)).getD default)) 0 m.ztw.length):=λhO=>by
  have:=zf7 (body:=zD.l3 n m) (len:=m.ztw.length) (n:=n) (st:=λi=>(i:Int)) (λi=>actP m K i ((idx m.ztw (i:Int)).getD default)) (some false) (some true) (λrec i hi=>?_) (λrec=>?_) (by omega)
  ·grind
  ·have hmem:=yi hi;obtain ⟨a1,a2,a3,a4,a5⟩:=hS.act _ hmem;simp only [zD.l3,zB hi,if_true,zb hi,ya,yj];have hneg:(decide (m.ztw[i].operation<0)||decide ((m.ztx.length:Int)≤m.ztw[i].operation)) = !(decide (0≤m.ztw[i].operation)&&decide (m.ztw[i].operation<(m.ztx.length:Int))):=by
    grind
   rw [hneg];unfold actP;cases hop:(decide (0≤m.ztw[i].operation)&&decide (m.ztw[i].operation<(m.ztx.length:Int))) with
   | false=>simp [grd]
   | true=>
    obtain ⟨ho,hom⟩:=zox hop;obtain ⟨o1,o2⟩:=zk1 hO _ hom;simp only [ho,yr,yB,grd,if_true,yj,uo,uK,yD];by_cases hlen:m.ztw[i].arguments.length=(opAt m m.ztw[i]).ztB.length
    ·rw [if_neg (by grind)];have hle:(m.ztw[i].arguments.length==(opAt m m.ztw[i]).ztB.length)=true:=by grind
     rw [hle,yD];have inner:=zM (body:=zD.l4 n m i rec m.ztw[i]) (len:=m.ztw[i].arguments.length) (st:=λk=>(k:Int)) (g:=λk=>if zwY m ((opAt m m.ztw[i]).ztB.drop k) (m.ztw[i].arguments.drop k)=true then (if ((decide (i=0)||ordP ((idx m.ztw ((i - 1:Nat):Int)).getD default) m.ztw[i])&&effP m K m.ztw[i].effect)=true then rec ((i+1:Nat):Int) else some false) else some false) (λrec' k hk2 hr'=>?_) (λrec'=>?_) n 0 (yo _) (by omega)
     ·grind
     ·have hk:k<(opAt m m.ztw[i]).ztB.length:=by omega
      have hs2:=o2 _ (yi hk);simp only [zD.l4,zB hk2,if_true,ho,zb hk,zb hk2,ya,between4,yr,yB,grd,yj,zd (i:=k) (by omega),hr'];rw [zkS hk hk2];unfold argP;by_cases hneg:(opAt m m.ztw[i]).ztB[k]<0
      ·have hd1:decide ((opAt m m.ztw[i]).ztB[k]<0)=true:=by simp [hneg]
       have hd2:decide (0≤(opAt m m.ztw[i]).ztB[k])=false:=by simp;omega
       rw [hd1,hd2];cases zaT m.ztw[i].arguments[k] 9999 <;> simp
      ·have hd1:decide ((opAt m m.ztw[i]).ztB[k]<0)=false:=by simp;omega
       have hd2:decide (0≤(opAt m m.ztw[i]).ztB[k])=true:=by simp;omega
       rw [zq4 (m:=m) (s:=(opAt m m.ztw[i]).ztB[k]) (by omega) hs2.2,hd1,hd2];simp only [yj];generalize (idx m.ztB (opAt m m.ztw[i]).ztB[k]).getD default=z;by_cases h1:m.ztw[i].arguments[k]<0
       ·have h1':¬ 0≤m.ztw[i].arguments[k]:=by omega
        simp [h1,h1']
       ·have h1':0≤m.ztw[i].arguments[k]:=by omega
        by_cases h2:z≤m.ztw[i].arguments[k]
        ·have h2':¬ m.ztw[i].arguments[k]<z:=by omega
         simp [h1,h1',h2,h2']
        ·have h2':m.ztw[i].arguments[k]<z:=by omega
         simp [h1,h1',h2,h2']
     ·simp only [zD.l4,zaw,ye,if_false,jn,List.drop_length,hef _ hmem];simp only [ya,zd (i:=i) (by omega)];have hargs:zwY m ((opAt m m.ztw[i]).ztB.drop m.ztw[i].arguments.length) []=true:=by cases (opAt m m.ztw[i]).ztB.drop m.ztw[i].arguments.length <;> rfl
      rw [hargs,if_pos rfl];by_cases h0i:i=0
      ·subst h0i;rw [if_neg (by simp)];cases effP m K m.ztw[0].effect <;> simp
      ·rw [if_pos (by simp;omega),zeD (by omega) (by omega)];have hi1:i - 1<m.ztw.length:=by omega
       have b1:=(hS.act _ (yi hi1)).1;simp only [zb hi1,ya,zss,yj,znM (a:=m.ztw[i - 1].arguments) (b:=m.ztw[i].arguments) (show m.ztw[i - 1].arguments.length<1000000 by omega) (show 1000000≤n by omega),yr,yB,if_true,h0i,decide_false,uK];cases ordP m.ztw[i - 1] m.ztw[i] <;> cases effP m K m.ztw[i].effect <;> simp [grd]
    grind
  ·simp [zD.l3]
 unfold zD;have:=zat (body:=zD.l1 n m) (l:=m.ztx) (n:=n) (st:=λi=>((m.ztx.take i).map (·.name),(i:Int))) (opP m) (some false) (if (decide (m.ztx.length≤8)&&zvw [] (m.ztx.map (·.name))&&decide (m.ztw.length≤256))=true then ztz (zD.l3 n m) n 0 else some false) (λrec i hi=>?_) (λrec=>?_) (by omega)
 ·simp only [List.take_zero,List.map_nil,Int.natCast_zero] at this;rw [this];unfold zxb;cases hO:opsP m with
  | true=>
   have hO':=hO;simp only [opsP,yd] at hO';rw [hO'.1,hO'.2.1,hO'.2.2,T hO];cases decide (m.ztw.length≤256) <;> rfl
  | false=>
   unfold opsP at hO;cases h1:m.ztx.all (opP m) with
   | false=>simp
   | true=>
    rw [h1,yD] at hO;rw [hO];simp
 ·have hop:=hS.op _ (yi hi);simp only [zD.l1,zB hi,if_true,zb hi,ya];rw [zl (by simp;omega),ya,zed hi];generalize hX:(m.ztx.take (i+1)).map (·.name)=X;have inner:=zat (body:=zD.l2 n m i rec m.ztx[i] X) (l:=m.ztx[i].ztB) (n:=n) (st:=λk=>(k:Int)) (λs=>decide (-1≤s)&&decide (s<(m.ztB.length:Int))) (some false) (if decide (m.ztx[i].ztB.length≤3)=true then rec (X,((i+1:Nat):Int)) else some false) (λrec' k hk=>?_) (λrec'=>?_) (by omega)
  ·simp only [Int.natCast_zero] at inner;rw [inner];unfold opP;cases decide (m.ztx[i].ztB.length≤3) <;> cases (m.ztx[i].ztB.all λs=>decide (-1≤s)&&decide (s<(m.ztB.length:Int))) <;> simp
  ·simp only [zD.l2,zB hk,if_true,zb hk,ya,yr,yB,grd,yj,zd (i:=k) (by omega)];have e1:decide (m.ztx[i].ztB[k] < -1) = !decide (-1≤m.ztx[i].ztB[k]):=by rw [← decide_not];exact decide_eq_decide.2 (by omega)
   have e2:decide ((m.ztB.length:Int)≤m.ztx[i].ztB[k]) = !decide (m.ztx[i].ztB[k]<(m.ztB.length:Int)):=by rw [← decide_not];exact decide_eq_decide.2 (by omega)
   rw [e1,e2];cases decide (-1≤m.ztx[i].ztB[k]) <;> cases decide (m.ztx[i].ztB[k]<(m.ztB.length:Int)) <;> simp
  ·simp only [zD.l2,zaw,ye,if_false,zd (i:=i) (by omega)];by_cases h3:m.ztx[i].ztB.length≤3
   ·rw [if_neg (by simp;omega),if_pos (by simp [h3])]
   ·rw [if_pos (by simp;omega),if_neg (by simp [h3])]
 ·simp only [zD.l1,zaw,ye,if_false,List.take_length];rw [zfi hn (by simp;omega) (λw hw=>by
   simp only [y9] at hw;obtain ⟨o,ho,rfl⟩:=hw;have:=(hS.op o ho).1;omega)]
  simp only [yr,yB,grd,if_true,yj];have e1:decide (8<(m.ztx.length:Int)) = !decide (m.ztx.length≤8):=by rw [← decide_not];exact decide_eq_decide.2 (by omega)
  have e2:decide (256<(m.ztw.length:Int)) = !decide (m.ztw.length≤256):=by rw [← decide_not];exact decide_eq_decide.2 (by omega)
  rw [e1,e2];cases decide (m.ztx.length≤8) <;> cases zvw [] (m.ztx.map (·.name)) <;> cases decide (m.ztw.length≤256) <;> simp
def zaZ (hs:List Hide):Nat→Int→Int→Bool
 | 0,a,b=>a==b
 | k+1,a,b=>a==b||hs.any λh=>h.table==a&&zaZ hs k h.to b
def zv1 (m:Model) (h:Hide):Bool:=
 (((decide (0≤h.table)&&decide (h.table<(m.tables.length:Int)))&&(decide (0≤h.to)&&decide (h.to<(m.tables.length:Int))))&&(h.table != h.to)) &&
 (((((idx m.tables h.table).getD default).kind==0)&&(((idx m.tables h.to).getD default).kind==0))&&((decide (0≤h.column)&&decide (h.column<(((idx m.tables h.table).getD default).ztv.length:Int)))&&(((((idx m.tables h.to).getD default).ztv.length:Int)==1)&&((idx ((idx m.tables h.to).getD default).ztv 0).getD default==(idx ((idx m.tables h.table).getD default).ztv h.column).getD default))))
def zkY (m:Model):Bool:=decide (m.ztK.length≤12)&&(m.ztK.all (zv1 m)&&m.ztK.all λh=>!zaZ m.ztK m.tables.length h.to h.table)
theorem zpf {m n self a b k} (hl:m.ztK.length<n) (hl2:m.ztK.length<1000000) (hk:k+1<1000000) (hself:∀ x,self m x b (k:Int)=some (zaZ m.ztK k x b)) :
  ztz (zaU.l1 n self m a b ((k+1:Nat):Int)) n 0=some (m.ztK.any λh=>h.table==a&&zaZ m.ztK k h.to b):=by
 have:=zM (body:=zaU.l1 n self m a b ((k+1))) (len:=m.ztK.length) (st:=λi=>i) (g:=λi=>some ((m.ztK.drop i).any λh=>h.table==a&&zaZ m.ztK k h.to b)) (λc i e f=>?_) (λc=>?_) n 0 (yo _) (by omega)
 ·simp_all
 ·have j:decide (0<((k+1)))=true:=by simp
  have d:ztH ((k+1:Nat)) 1=k:=by rw [zeD (by omega) (by omega)];simp
  simp only [zaU.l1,zb e,grd,zd (i:=i) (by omega)]
  grind [zm]
 ·simp [zaU.l1]
theorem zmX {m} (hl:m.ztK.length<1000000):∀ (k n:Nat) (a b),k<1000000→1000000+k<n→zaU n m a b (k:Int)=some (zaZ m.ztK k a b)
 | 0,0,_,_,_,h=>by omega
 | 0,n+1,a,b,_,h=>by
  simp only [zaU,zaU.body,zaZ];by_cases e:a=b
  ·grind
  ·grind [zeZ,zaU.l1]
 | k+1,0,_,_,_,h=>by omega
 | k+1,n+1,a,b,c,h=>by
  simp only [zaU,zaU.body,zaZ];by_cases e:a=b
  ·grind
  ·rw [if_neg (by simp_all),zpf (by omega) hl c λx=>zmX hl k n x b (by omega) (by omega)];simp_all
theorem zoi {m:Model} {h:Hide} (h0:0≤h.table∧h.table<(m.tables.length:Int)) (h1:0≤h.to∧h.to<(m.tables.length:Int)):∃ t u,idx m.tables h.table=some t∧idx m.tables h.to=some u:=by
 obtain ⟨t,b⟩:=za6 h0.1 h0.2;obtain ⟨u,a⟩:=za6 h1.1 h1.2;simp_all
theorem zke {n} {m} (hn:4294967296≤n) (hS:zt9 m):zaK n m=some (zkY m):=by
 have hhl:=hS.ztK;have htl:=hS.tables;unfold zaK zkY;have T:ztz (zaK.l2 n m) n 0=some (m.ztK.all λh=>!zaZ m.ztK m.tables.length h.to h.table):=by
  have:=zat (body:=zaK.l2 n m) (l:=m.ztK) (n:=n) (st:=λi=>(i:Int)) (λh=>!zaZ m.ztK m.tables.length h.to h.table) (some false) (some true) (λrec i hi=>?_) (λrec=>?_) (by omega)
  ·grind
  ·simp only [zaK.l2,zb hi,ya,zmX (m:=m) (by omega) m.tables.length n m.ztK[i].to m.ztK[i].table (by omega) (by omega),zd (i:=i) (by omega)]
   grind
  ·simp [zaK.l2]
 have:=zat (body:=zaK.l1 n m) (l:=m.ztK) (n:=n) (st:=λi=>(i:Int)) (zv1 m) (some false) (some (m.ztK.all λh=>!zaZ m.ztK m.tables.length h.to h.table)) (λrec i hi=>?_) (λrec=>?_) (by omega)
 ·grind
 ·simp only [zaK.l1,zB hi,if_true,zb hi,ya,zd (i:=i) (by omega)];generalize m.ztK[i]=h;by_cases hb:(((0≤h.table∧h.table<(m.tables.length:Int))∧(0≤h.to∧h.to<(m.tables.length:Int)))∧h.table≠h.to)
  ·rw [if_neg (by simp_all)];obtain ⟨t,u,ht,hu⟩:=zoi hb.1.1 hb.1.2;have hhp:zv1 m h=(((t.kind==0)&&(u.kind==0))&&((decide (0≤h.column)&&decide (h.column<(t.ztv.length:Int)))&&(((u.ztv.length:Int)==1)&&((idx u.ztv 0).getD default==(idx t.ztv h.column).getD default)))):=by
    grind [zv1]
   simp only [ht,hu,ya];by_cases hk:(((t.kind==0)&&(u.kind==0))&&((decide (0≤h.column)&&decide (h.column<(t.ztv.length:Int)))&&((u.ztv.length:Int)==1)))=true
   ·have hk':=hk;simp only [yd,yf,beq_iff_eq] at hk';obtain ⟨⟨k1,k2⟩,⟨k3,k4⟩,k5⟩:=hk';obtain ⟨x,hx⟩:=za6 (l:=u.ztv) (i:=0) (by omega) (by omega);obtain ⟨y,hy⟩:=za6 k3 k4;have n1:¬ h.column<0:=by omega
    have n2:¬ (t.ztv.length:Int)≤h.column:=by omega
    simp only [n1,n2,grd];simp_all
   ·have hf:(((((t.kind != 0)||(u.kind != 0))||(decide (h.column<0)))||(decide ((t.ztv.length:Int)≤h.column)))||((u.ztv.length:Int) != 1))=true:=by
     grind
    simp only [uA,grd,if_true];simp_all
  ·have hhp:zv1 m h=false:=by
    unfold zv1;simp_all
   simp_all
 ·simp only [zaK.l1,zaw,ye,if_false,T]
theorem zj9:∀ (T:Nat) (l:List Int),l.Nodup→(∀ x∈l,0≤x∧x<(T:Int))→l.length≤T
 | 0,l,_,h=>by
  cases l with
  | nil=>simp
  | cons x l=>have:=h x (by simp);omega
 | T+1,l,a,h=>by
  by_cases c:(T:Int)∈l
  ·have d:=zj9 T (l.erase T) (a.erase _) (λx b=>by
    grind)
   grind
  ·have:=zj9 T l a (λx b=>by
    grind)
   omega
theorem zjT {hs}:∀ {k} {a b},zaZ hs k a b=true→zaZ hs (k+1) a b=true
 | 0,a,b,h=>by
  simp only [zaZ] at h;simp only [zaZ,h,uA]
 | k+1,a,b,h=>by
  rw [zaZ] at h ⊢;simp only [yI,ut,yd] at h ⊢;rcases h with h | ⟨x,d,e,c⟩
  ·grind
  ·exact .inr ⟨x,d,e,zjT c⟩
theorem zp6 {hs k j a b} (h:zaZ hs k a b=true) (hkj:k≤j):zaZ hs j a b=true:=by
 obtain ⟨d,rfl⟩:=Nat.exists_eq_add_of_le hkj;clear hkj
 induction d with
 | zero=>exact h
 | succ d ih=>exact zjT ih
theorem zfB {hs k a}:zaZ hs k a a=true:=by cases k <;> simp [zaZ]
theorem zjU {hs h} (hh:h∈hs):∀ {k} {a},zaZ hs k a h.table=true→zaZ hs (k+1) a h.to=true
 | 0,a,e=>by
  simp only [zaZ] at e;simp only [zaZ]
  grind
 | k+1,a,e=>by
  rw [zaZ] at e ⊢;simp only [yI,ut,yd] at e ⊢;rcases e with e | ⟨x,c,d,b⟩
  ·grind [zfB]
  ·exact .inr ⟨x,c,d,zjU hh b⟩
def zwB (f:Int→Hide) (s:Int):Nat→Int
 | 0=>s
 | k+1=>(f (zwB f s k)).to
theorem zsz {hs} {T:Nat} {S} (hS:S≠[]) (hb:∀ t∈S,0≤t∧t<(T:Int)) (hac:∀ h∈hs,zaZ hs T h.to h.table=false):∃ t∈S,∀ h∈hs,¬ (h.table=t∧h.to∈S):=by
 apply Classical.byContradiction;intro hno;have hedge:∀ t,t∈S→∃ h,h∈hs∧h.table=t∧h.to∈S:=λt ht=>by
  apply Classical.byContradiction;intro hn;exact hno ⟨t,ht,λh hh he=>hn ⟨h,hh,he.1,he.2⟩⟩
 obtain ⟨s,hs0⟩:∃ s,s∈S:=by
  cases S with
  | nil=>exact absurd rfl hS
  | cons x l=>exact ⟨x,by simp⟩
 obtain ⟨f,hf⟩:∃ f:Int→Hide,∀ t,t∈S→f t∈hs∧(f t).table=t∧(f t).to∈S:=by
  refine ⟨λt=>if ht:t∈S then Classical.choose (hedge t ht) else default,λt ht=>?_⟩;simp only [ht,dite_true];exact Classical.choose_spec (hedge t ht)
 have hw:∀ k,zwB f s k∈S:=λk=>by
  induction k with
  | zero=>exact hs0
  | succ k ih=>exact (hf _ ih).2.2
 have hlead:∀ d i,zaZ hs d (zwB f s i) (zwB f s (i+d))=true:=λd=>by
  induction d with
  | zero=>intro i;exact zfB
  | succ d ih=>
   intro i;simp only [zaZ,yI,ut,yd,beq_iff_eq];refine .inr ⟨f (zwB f s i),(hf _ (hw i)).1,(hf _ (hw i)).2.1,?_⟩;have:=ih (i+1);rw [show i+1+d=i+(d+1) by omega] at this;exact this
 have hne:∀ i j,i<j→j≤T→zwB f s i≠zwB f s j:=λi j hij hj e=>by
  have h1:=hlead (j - i - 1) (i+1);rw [show i+1+(j - i - 1)=j by omega,← e] at h1;have h2:=hac _ (hf _ (hw i)).1;rw [(hf _ (hw i)).2.1] at h2;have h3:zaZ hs T (f (zwB f s i)).to (zwB f s i)=true:=zp6 h1 (by omega);rw [h3] at h2;cases h2
 have hlen:=zj9 T ((List.range (T+1)).map (zwB f s)) (by
  rw [List.Nodup,List.pairwise_map];exact List.Pairwise.imp_of_mem (λ{a b} _ hb hab=>hne a b hab (by have:=yV.1 hb;omega)) List.pairwise_lt_range) (λx hx=>by
  simp only [y9] at hx;obtain ⟨k,-,rfl⟩:=hx;exact hb _ (hw k))
 simp at hlen;omega
def zcf (m:GMap Int Bool):List Int:=m.es.map λe=>e.2.1
structure WfM (m:GMap Int Bool):Prop where
 tru:∀ e∈m.es,e.2.2=true
 nd:(m.es.map (·.1)).Nodup
 lt:∀ e∈m.es,e.1<m.clock
theorem WfM.get {m} (h:WfM m) (k):(m.get? k).getD false=decide (k∈zcf m):=by
 unfold GMap.get?;rw [zjP k m.es h.tru];rfl
theorem WfM.empty:WfM (GMap.empty:GMap Int Bool):=⟨λe a=>(by grind [GMap.empty]),by simp [GMap.empty],λe a=>(by grind [GMap.empty])⟩
theorem zn8 (k):∀ (es:List (Nat×Int×Bool)) (p),zuA k es=some p→∃ h:p.1<es.length,es[p.1].2.1=k
 | [],_,h=>by grind [zuA]
 | e::es,p,h=>by
  simp only [zuA] at h;split at h
  ·grind
  ·simp only [Option.map_eq_some_iff] at h;obtain ⟨q,a,rfl⟩:=h;obtain ⟨c,b⟩:=zn8 k es q a
   grind
theorem zhR (f) (hf:∀ e,(f e).1=e.1):∀ (es:List (Nat×Int×Bool)) (i),(es.modify i f).map (·.1)=es.map (·.1)
 | [],_=>by simp
 | e::es,0=>by simp [hf]
 | e::es,i+1=>by simp [zhR f hf es i]
theorem WfM.put {m} (h:WfM m) (k):WfM (m.put k true)∧(m.put k true).es.length≤m.es.length+1∧∀ t,t∈zcf (m.put k true)↔t∈zcf m∨t=k:=by
 unfold GMap.put zcf;cases l:zuA k m.es with
 | none=>
  refine ⟨⟨λe c=>?_,?_,λe c=>?_⟩,by simp,λt=>by simp⟩
  ·simp only [yu,yM] at c;rcases c with c | rfl
   ·exact h.tru e c
   ·rfl
  ·simp only [ul,yY,List.map_nil];rw [uR];refine ⟨h.nd,by simp,λa f b d=>?_⟩;simp only [yM] at d;simp only [y9] at f;obtain ⟨e,c,rfl⟩:=f;have:=h.lt e c;omega
  ·simp only [yu,yM] at c;rcases c with c | rfl
   ·have:=h.lt e c
    grind
   ·simp
 | some p=>
  obtain ⟨i,b⟩:=p;have d:=zhR (λe =>(e.1,e.2.1,true)) (λe=>rfl) m.es i;refine ⟨⟨ziA (p:=λe=>e.2.2=true) _ (λe=>rfl) m.es i h.tru,by rw [d];exact h.nd,λe c=>?_⟩,by simp,λt=>?_⟩
  ·have:e.1∈m.es.map (·.1):=by grind
   simp only [y9] at this;obtain ⟨x,j,n⟩:=this;have:=h.lt x j
   grind
  ·rw [zg9 (λe =>(e.1,e.2.1,true)) (λe=>rfl) m.es i];constructor
   ·grind
   ·rintro (g | rfl)
    ·exact g
    grind [zjQ]
theorem WfM.del {m} (h:WfM m) {e} (he:e∈m.es):WfM (m.del e.2.1)∧(m.del e.2.1).clock=m.clock∧(m.del e.2.1).es.length+1=m.es.length∧(m.del e.2.1).es.Sublist m.es∧∀ t,t∈zcf m→t≠e.2.1→t∈zcf (m.del e.2.1):=by
 unfold GMap.del zcf;cases g:zuA e.2.1 m.es with
 | none=>exact absurd (List.mem_map_of_mem (f:=λe =>e.2.1) he) (zn9 _ m.es g)
 | some p=>
  obtain ⟨i,b⟩:=p;obtain ⟨l,d⟩:=zn8 _ m.es _ g;simp only [] at l d ⊢;have a:=List.eraseIdx_sublist m.es i;refine ⟨⟨λx c=>h.tru x (a.subset c),(a.map _).nodup h.nd,λx c=>h.lt x (a.subset c)⟩,trivial,?_,a,λt k n=>?_⟩
  ·grind
  ·simp only [y9] at k ⊢;obtain ⟨x,c,rfl⟩:=k;obtain ⟨j,o,rfl⟩:=List.mem_iff_getElem.1 c;refine ⟨_,?_,rfl⟩;rw [List.mem_eraseIdx_iff_getElem]
   grind
theorem zmC {m m':GMap Int Bool} {seen} {e} (he:e∈m.left seen) (hs:m'.es.Sublist m.es):(m'.left (seen++[e.1])).length<(m.left seen).length:=by
 unfold GMap.left at he ⊢;have b:(m.es.filter λx=>!(seen++[e.1]).contains x.1)=(m.es.filter λx=>!seen.contains x.1).filter λx=>!(x.1==e.1):=by
  rw [List.filter_filter];congr 1;funext x;simp
  grind
 have a:((m.es.filter λx=>!seen.contains x.1).filter λx=>!(x.1==e.1)).length<(m.es.filter λx=>!seen.contains x.1).length:=
  List.length_filter_lt_length_iff_exists.2 ⟨e,he,by simp⟩
 grind
theorem zi0 {n} {j} {m0} {i} {rec} {r} (hn:1000000≤n) (hh:j.model.ztK.length<1000000) (J:GMap Int Bool→List Nat→Prop)
  (hwf:∀ m seen,J m seen→WfM m∧m.clock=m0.clock) (hover:∀ m seen,J m seen→m.left seen=[]→rec (m,ztu i 1)=some r)
  (hstep:∀ m seen e,J m seen→e∈m.left seen→J (if (j.model.ztK.any λh=>h.table==e.2.1&&decide (h.to∈zcf m))=true then m else m.del e.2.1) (seen++[e.1]))
  (h0:J m0 []) (hl:m0.es.length<1000000):ztz (zh.l4 n j m0 i rec) n (m0,[],m0.clock)=some r:=by
 refine zde (body:=zh.l4 n j m0 i rec) (λs=>(s.1.left s.2.1).length) (λs=>J s.1 s.2.1∧s.2.2=m0.clock) (λ_ o=>o=some r) (λrec' s hI hr=>?_) n _ ⟨h0,rfl⟩ ?_
 ·obtain ⟨m,seen,last⟩:=s;obtain ⟨hJ,hlast⟩:=hI;simp only [] at hJ hlast hr;subst hlast;obtain ⟨hw,hc⟩:=hwf m seen hJ;simp only [zh.l4,stepM];have hold:m.old m0.clock m0.clock=true:=by
   simp only [GMap.old,yd,yp,yf];exact ⟨λe he=>by have:=hw.lt e he;omega,ym _⟩
  rw [hold];unfold grd;rw [if_pos rfl];cases hleft:m.left seen with
  | nil=>
   grind
  | cons x l=>
   rw [← hleft,if_neg (by grind)];refine zlu (by rw [hleft];simp) (λe he=>?_);have hem:e∈m.es:=(List.mem_filter.1 he).1;rw [if_pos (by simpa using hw.nd),zdQ (p:=λh=>h.table==e.2.1&&decide (h.to∈zcf m)) (λh _=>by
    unfold zc0;rw [hw.get]) hh hn,ya]
   have hst:=hstep m seen e hJ he;cases hb:(j.model.ztK.any λh=>h.table==e.2.1&&decide (h.to∈zcf m)) with
   | true=>
    rw [hb] at hst;rw [if_neg (by simp)]
    grind [seen,zmC]
   | false=>
    rw [hb] at hst;rw [if_pos (by simp)];exact hr (m.del e.2.1,seen++[e.1],m.clock) ⟨hst,hc⟩ (zmC he (hw.del hem).2.2.2.1)
 ·have:(m0.left []).length≤m0.es.length:=List.length_filter_le _ _;simp only [];omega
theorem zhT {α β:Type} {f:α→β}:∀ {l:List α},(l.map f).Nodup→∀ x∈l,∀ y∈l,f x=f y→x=y
 | [],_,x,b,_,_,_=>by grind
 | a::l,h,x,b,y,c,e=>by
  simp only [yY,List.nodup_cons] at h;simp only [yG] at b c;rcases b with rfl | b <;> rcases c with rfl | c
  ·rfl
  ·grind
  ·grind
  ·exact zhT h.2 x b y c e
theorem zlL {n} {j} {m} (hn:1000000≤n) (hh:j.model.ztK.length≤1000) (hok:∀ h∈j.model.ztK,(0≤h.table∧h.table<(j.model.tables.length:Int)))
  (hw:WfM m) (hlen:m.es.length≤j.model.ztK.length) (hk:∀ t,t∈zcf m↔∃ h∈j.model.ztK,h.table=t) :
  ztz (zh.l3 n j) n (m,0)=some (j.model.ztK.all λh=>!zaZ j.model.ztK j.model.tables.length h.to h.table):=by
 cases hac:(j.model.ztK.all λh=>!zaZ j.model.ztK j.model.tables.length h.to h.table) with
 | true=>
  have hac':∀ h∈j.model.ztK,zaZ j.model.ztK j.model.tables.length h.to h.table=false:=λh hm=>by
   grind
  have hrange:∀ m':GMap Int Bool,(∀ t∈zcf m',∃ h∈j.model.ztK,h.table=t)→m'.es≠[]→∃ e∈m'.es,∀ h∈j.model.ztK,¬ (h.table=e.2.1∧h.to∈zcf m'):=λm' hm' hne=>by
   obtain ⟨t,ht,hs⟩:=zsz (hs:=j.model.ztK) (T:=j.model.tables.length) (S:=zcf m') (by simpa [zcf] using hne) (λt ht=>by
    grind) hac'
   simp only [zcf,y9] at ht
   grind
  refine zbd (body:=zh.l3 n j) (len:=j.model.ztK.length) (st:=λm i=>(m,(i:Int))) (g:=λ_ _=>some true) (λi m=>WfM m∧m.es.length+i≤j.model.ztK.length∧∀ t∈zcf m,∃ h∈j.model.ztK,h.table=t) (λrec i m hi hI hr=>?_) (λrec m hI=>?_) n 0 m (yo _) (by omega) ⟨hw,by omega,λt ht=>(hk t).1 ht⟩
  ·obtain ⟨h1,h2,h3⟩:=hI;simp only [zh.l3,zB hi,if_true];refine zi0 (r:=true) (by omega) (by omega) (λm' seen=>(WfM m'∧m'.clock=m.clock∧∀ t∈zcf m',∃ h∈j.model.ztK,h.table=t)∧(m'.es.length+i+1≤j.model.ztK.length∨(m'.es.length+i≤j.model.ztK.length∧∃ e∈m'.left seen,∀ h∈j.model.ztK,¬ (h.table=e.2.1∧h.to∈zcf m')))) (λm' seen hJ=>⟨hJ.1.1,hJ.1.2.1⟩) (λm' seen hJ hl=>?_) (λm' seen e hJ he=>?_) ⟨⟨h1,rfl,h3⟩,?_⟩ (by omega)
   ·rw [zd (by omega)];refine hr m' ⟨hJ.1.1,?_,hJ.1.2.2⟩;rcases hJ.2 with h | ⟨-,e,he,-⟩
    ·omega
    grind
   ·obtain ⟨⟨w1,w2,w3⟩,hd⟩:=hJ;have hem:e∈m'.es:=(List.mem_filter.1 he).1;obtain ⟨d1,d2,d3,d4,-⟩:=w1.del hem;cases hb:(j.model.ztK.any λh=>h.table==e.2.1&&decide (h.to∈zcf m')) with
    | true=>
     rw [if_pos rfl];refine ⟨⟨w1,w2,w3⟩,?_⟩;rcases hd with hd | ⟨hd,x,hx,hs⟩
     ·exact .inl hd
     ·refine .inr ⟨hd,x,?_,hs⟩;simp only [GMap.left,List.mem_filter] at hx ⊢;refine ⟨hx.1,?_⟩;have hne:x.1≠e.1:=λe1=>by
       have:x=e:=zhT w1.nd x hx.1 e hem e1;subst this;simp only [ut,yd,beq_iff_eq,yf] at hb;obtain ⟨h,hh,q⟩:=hb;exact hs h hh q
      simp only [yC,List.contains_eq_mem,yL,yu,yM,not_or] at hx ⊢;exact ⟨hx.2,hne⟩
    | false=>
     rw [if_neg (by simp)];refine ⟨⟨d1,by omega,λt ht=>?_⟩,.inl ?_⟩
     ·refine w3 t ?_;simp only [zcf,y9] at ht ⊢;obtain ⟨x,hx,rfl⟩:=ht;exact ⟨x,d4.subset hx,rfl⟩
     ·rcases hd with hd | ⟨hd,-⟩ <;> omega
   ·by_cases hne:m.es=[]
    ·left;rw [hne];simp;omega
    ·right;refine ⟨h2,?_⟩;obtain ⟨e,he,hs⟩:=hrange m h3 hne;exact ⟨e,by simp [GMap.left,he],hs⟩
  ·have:m.es.length=0:=by omega
   simp [zh.l3,this]
 | false=>
  obtain ⟨h0,hm0,hl0⟩:∃ h∈j.model.ztK,zaZ j.model.ztK j.model.tables.length h.to h.table=true:=by
   simp only [List.all_eq_false] at hac;obtain ⟨h,hm,hx⟩:=hac;exact ⟨h,hm,by simpa using hx⟩
  have hclosed:∀ t,((∃ k,zaZ j.model.ztK k h0.to t=true)∧∃ k,zaZ j.model.ztK k t h0.table=true)→∃ h∈j.model.ztK,h.table=t∧((∃ k,zaZ j.model.ztK k h0.to h.to=true)∧∃ k,zaZ j.model.ztK k h.to h0.table=true):=by
   rintro t ⟨⟨a,ha⟩,b,hb⟩;have hcase:t=h0.table∨∃ h∈j.model.ztK,h.table=t∧∃ k,zaZ j.model.ztK k h.to h0.table=true:=by
    cases b with
    | zero=>left;simpa [zaZ] using hb
    | succ b=>
     simp only [zaZ,yI,beq_iff_eq,ut,yd] at hb;rcases hb with hb | ⟨h,hm,e,hx⟩
     ·exact .inl hb
     ·exact .inr ⟨h,hm,e,b,hx⟩
   rcases hcase with rfl | ⟨h,hm,rfl,k,hx⟩
   ·exact ⟨h0,hm0,rfl,⟨0,zfB⟩,_,hl0⟩
   ·exact ⟨h,hm,rfl,⟨_,zjU hm ha⟩,k,hx⟩
  generalize hC:(λt=>(∃ k,zaZ j.model.ztK k h0.to t=true)∧∃ k,zaZ j.model.ztK k t h0.table=true)=C at *;have hC':∀ t,C t→∃ h∈j.model.ztK,h.table=t∧C h.to:=by
   intro t ht;rw [← hC] at ht ⊢;exact hclosed t ht
  have hCs:C h0.to:=by rw [← hC];exact ⟨⟨0,zfB⟩,_,hl0⟩
  refine zbd (body:=zh.l3 n j) (len:=j.model.ztK.length) (st:=λm i=>(m,(i:Int))) (g:=λ_ _=>some false) (λi m=>WfM m∧m.es.length≤1000∧∀ t,C t→t∈zcf m) (λrec i m hi hI hr=>?_) (λrec m hI=>?_) n 0 m (yo _) (by omega) ⟨hw,by omega,λt ht=>(hk t).2 (by
   obtain ⟨h,hh,e,-⟩:=hC' t ht;exact ⟨h,hh,e⟩)⟩
  ·obtain ⟨h1,h2,h3⟩:=hI;simp only [zh.l3,zB hi,if_true];refine zi0 (r:=false) (by omega) (by omega) (λm' seen=>WfM m'∧m'.clock=m.clock∧m'.es.length≤1000∧∀ t,C t→t∈zcf m') (λm' seen hJ=>⟨hJ.1,hJ.2.1⟩) (λm' seen hJ hl=>?_) (λm' seen e hJ he=>?_) ⟨h1,rfl,h2,h3⟩ (by omega)
   ·rw [zd (by omega)];exact hr m' ⟨hJ.1,hJ.2.2⟩
   ·obtain ⟨w1,w2,w3,w4⟩:=hJ;have hem:e∈m'.es:=(List.mem_filter.1 he).1;obtain ⟨d1,d2,d3,-,d5⟩:=w1.del hem;cases hb:(j.model.ztK.any λh=>h.table==e.2.1&&decide (h.to∈zcf m')) with
    | true=>
     rw [if_pos rfl];exact ⟨w1,w2,w3,w4⟩
    | false=>
     rw [if_neg (by simp)];refine ⟨d1,by omega,by omega,λt ht=>d5 t (w4 t ht) λe1=>?_⟩;obtain ⟨h,hh,hht,hto⟩:=hC' t ht;have:=List.any_eq_false.1 hb h hh;apply this;simp only [yd,beq_iff_eq,yf];exact ⟨by omega,w4 _ hto⟩
  ·obtain ⟨-,-,h3⟩:=hI;have:=h3 _ hCs;have hne:m.es.length≠0:=λe=>by
    simp only [zcf,List.length_eq_zero_iff.1 e,List.map_nil,List.not_mem_nil] at this
   simp only [zh.l3,zaw,ye,if_false,yn,un];omega
theorem zj6 {n m l} (hn:1000000≤n) (hS:zt9 m):zh n ⟨m,l⟩=some (zkY m):=by
 have hhl:=hS.ztK;have htl:=hS.tables;unfold zh zkY;rw [if_neg (by grind),decide_eq_true hhl,yD];have:=zat (body:=zh.l1 n ⟨m,l⟩) (l:=m.ztK) (n:=n) (st:=λi=>(i:Int)) (zv1 m) (some false) (ztz (zh.l2 n ⟨m,l⟩) n (GMap.empty,0)) (λrec i hi=>?_) (λrec=>?_) (by omega)
 ·simp only [Int.natCast_zero] at this;rw [this];cases hall:m.ztK.all (zv1 m) with
  | false=>simp
  | true=>
   rw [if_pos rfl,yD];have hok:∀ h∈m.ztK,(0≤h.table∧h.table<(m.tables.length:Int)):=λh hm=>by
    have:=yp.1 hall h hm;simp only [zv1,yd,yf] at this
    grind
   refine zbd (body:=zh.l2 n ⟨m,l⟩) (len:=m.ztK.length) (st:=λg i=>(g,(i:Int))) (g:=λ_ _=>some (m.ztK.all λh=>!zaZ m.ztK m.tables.length h.to h.table)) (λi g=>WfM g∧g.es.length≤i∧∀ t,t∈zcf g↔∃ h∈m.ztK.take i,h.table=t) (λrec i g hi hI hr=>?_) (λrec g hI=>?_) n 0 GMap.empty (yo _) (by omega) ⟨WfM.empty,by simp [GMap.empty],λt=>by simp [zcf,GMap.empty]⟩
   ·obtain ⟨h1,h2,h3⟩:=hI;obtain ⟨p1,p2,p3⟩:=h1.put m.ztK[i].table;simp only [zh.l2,zB hi,if_true,zb hi,ya,zd (i:=i) (by omega)];refine hr _ ⟨p1,by omega,λt=>?_⟩;rw [p3,h3,yv hi]
    grind
   ·obtain ⟨h1,h2,h3⟩:=hI;simp only [zh.l2,zaw,ye,if_false]
    grind [zlL,List.take_length]
 ·simp only [zh.l1,zaA,zB hi,if_true,zb hi,ya,yr,yB,yj,zd (i:=i) (by omega)];generalize m.ztK[i]=h;by_cases hb:(((0≤h.table∧h.table<(m.tables.length:Int))∧(0≤h.to∧h.to<(m.tables.length:Int)))∧h.table≠h.to)
  ·simp only [grd,if_true];rw [if_neg (by simp [hb])];obtain ⟨t,u,ht,hu⟩:=zoi hb.1.1 hb.1.2;have hhp:zv1 m h=(((t.kind==0)&&(u.kind==0))&&((decide (0≤h.column)&&decide (h.column<(t.ztv.length:Int)))&&(((u.ztv.length:Int)==1)&&((idx u.ztv 0).getD default==(idx t.ztv h.column).getD default)))):=by
    unfold zv1;rw [ht,hu];simp [hb]
   simp only [ht,hu,ya];rw [hhp];by_cases hk:(((t.kind==0)&&(u.kind==0))&&((decide (0≤h.column)&&decide (h.column<(t.ztv.length:Int)))&&((u.ztv.length:Int)==1)))=true
   ·have hk':=hk;simp only [yd,yf,beq_iff_eq] at hk';obtain ⟨⟨k1,k2⟩,⟨k3,k4⟩,k5⟩:=hk';obtain ⟨x,hx⟩:=za6 (l:=u.ztv) (i:=0) (by omega) (by omega);obtain ⟨y,hy⟩:=za6 k3 k4;simp only [k1,k2,k3,k4,k5,hx,hy,yj,decide_true,beq_self_eq_true,bne_self_eq_false,yr,yB,Bool.or_false,yD,uS,uo,if_true];by_cases hxy:x=y
    ·simp [hxy]
    ·simp [hxy]
   ·have hf:(((((t.kind != 0)||(u.kind != 0))||(!(decide (0≤h.column)&&decide (h.column<(t.ztv.length:Int)))))||((u.ztv.length:Int) != 1)))=true:=by
     simp only [yd,yf,beq_iff_eq] at hk;simp only [yI,bne_iff_ne,yC,uB,yL];omega
    simp only [hf,uA,if_true];rw [← Bool.and_assoc (decide (0≤h.column)&&decide (h.column<(t.ztv.length:Int))),← Bool.and_assoc];simp only [yS] at hk;rw [hk];rfl
  ·have hhp:zv1 m h=false:=by
    unfold zv1;cases hx:(((decide (0≤h.table)&&decide (h.table<(m.tables.length:Int)))&&(decide (0≤h.to)&&decide (h.to<(m.tables.length:Int))))&&(h.table != h.to)) with
    | false=>rfl
    | true=>
     simp only [yd,yf,bne_iff_ne] at hx;exact absurd hx hb
   rw [hhp];simp only [grd,if_true];rw [if_pos (by
    simp only [yI,yC,uB,yL,beq_iff_eq];omega)]
   rfl
 ·simp [zh.l1]
def zfo (m:Model):Bool:=(zbm m.ztB m.tables&&(decide (m.ztI.length≤24)&&zvw [] m.ztI))&&(zw1 m (zW m.ztB true m.tables)&&(opsP m&&(zxb m (zW m.ztB true m.tables).length&&zkY m)))
theorem zgP {n m} (hF:Fuel n) (hS:zt9 m):zev n m=some (zfo m):=by
 have u:=hF.big;have r:=hS.ztB;have d:=hS.tables;have q:=hS.ztI;have a:∀ t∈m.tables,t.ztv.length≤1000:=λt h=>by have:=hS.tab t h;omega
 unfold zev zfo;rw [zeX hF (by omega) (by omega) a,zfg hF (by omega)];simp only [ya,yr,yB,grd,if_true];have g:decide (24<(m.ztI.length:Int)) = !decide (m.ztI.length≤24):=by grind
 rw [g];cases c:zbm m.ztB m.tables with
 | false=>simp
 | true=>
  by_cases b:(decide (m.ztI.length≤24)&&zvw [] m.ztI)=true
  ·simp only [yd] at b;rw [b.1,b.2,if_neg (by simp),zfS hF (by omega) (by omega) a,c];simp only [if_true,ya];obtain ⟨k,o,p,e⟩:=zb5 c;have f:=zdL (sizes:=m.ztB) (s:=true) (l:=m.tables) λx i=>(e x i).2.2.2.2
   rw [zgG hS (λt d=>(e t d).2.2.2.1) (by omega) (by omega),zg8 hF hS,zj6 (by omega) hS];simp only [yj];cases zw1 m (zW m.ztB true m.tables) with
   | false=>simp
   | true=>
    cases j:opsP m with
    | false=>simp
    | true=>
     grind [zje]
  grind
theorem zkF {n m} (hn:4294967296≤n) (hS:zt9 m):zhi n m=some (zfo m):=by
 have f:=hS.ztB;have g:=hS.tables;have i:=hS.ztI;have b:∀ t∈m.tables,t.ztv.length≤1000∧t.name.length≤4096:=λt h=>by have:=hS.tab t h;omega
 unfold zhi zfo;rw [ze2 (by omega) (by omega) (by omega) b,zfi (by omega) (by omega) (λw d=>by have:=hS.fam w d;omega)];simp only [ya,yr,yB,grd,if_true];have e:decide (24<(m.ztI.length:Int)) = !decide (m.ztI.length≤24):=by grind
 rw [e];cases c:zbm m.ztB m.tables with
 | false=>simp
 | true=>
  by_cases a:(decide (m.ztI.length≤24)&&zvw [] m.ztI)=true
  ·simp only [yd] at a;rw [a.1,a.2,if_neg (by simp),zgH hS c (by omega),zjg (by omega) hS c,zke hn hS]
   grind
  grind
def zx6 (m:Model):Bool:=(((((((decide (8<(m.ztB.length:Int)))||(decide (6<(m.tables.length:Int))))||(decide (20<(m.ztI.length:Int))))||(decide (60<(m.constraints.length:Int))))||(decide (8<(m.ztx.length:Int))))||(decide (30<(m.ztw.length:Int))))||(decide (12<(m.ztK.length:Int))))
def tabF (t:Table):Bool:=decide (t.name.length≤40)&&decide (t.ztv.length≤12)
def opF (o:zt7):Bool:=decide (o.name.length≤40)&&decide (o.ztB.length≤6)
def actF (a:Action):Bool:=((decide (a.arguments.length≤6)&&decide (a.effect.delta.length≤20))&&(decide (a.effect.hold.length≤10)&&decide (a.effect.ztD.length≤40)))&&a.effect.hold.all λr=>decide (r.zty.length≤20)
def zgt (m:Model):Bool:=!zx6 m&&(m.tables.all tabF&&(m.ztI.all (λs=>decide (s.length≤40))&&(m.constraints.all (λc=>decide (c.row.zty.length≤20))&&(m.ztx.all opF&&m.ztw.all actF))))
theorem zmI {a b:Nat}:decide ((a:Int)<(b:Int)) = !decide (b≤a):=by grind
theorem zjf {n} {m} (hn:1000000≤n):zw n m=some (zgt m):=by
 unfold zw zgt;have hl:(((((((decide (8<(m.ztB.length:Int)))||(decide (6<(m.tables.length:Int))))||(decide (20<(m.ztI.length:Int))))||(decide (60<(m.constraints.length:Int))))||(decide (8<(m.ztx.length:Int))))||(decide (30<(m.ztw.length:Int))))||(decide (12<(m.ztK.length:Int))))=zx6 m:=rfl;rw [hl];cases hlen:zx6 m with
 | true=>simp [grd]
 | false=>
  simp only [zx6,ud,yL] at hlen;obtain ⟨⟨⟨⟨⟨⟨b1,b2⟩,b3⟩,b4⟩,b5⟩,b6⟩,b7⟩:=hlen;have hfew:zc4 n m.ztB m.tables=some (m.tables.all tabF):=by
   have:=zat (body:=zc4.l1 n m.ztB m.tables) (l:=m.tables) (n:=n) (st:=λi=>(i:Int)) tabF (some false) (some true) (λrec i hi=>?_) (λrec=>?_) (by omega)
   ·grind [Int.natCast_zero,zc4,tabF]
   ·simp only [zc4.l1,zB hi,if_true,zb hi,ya,yr,yB,grd,yj,zd (i:=i) (by omega)];unfold tabF
    grind
   grind [zc4.l1]
  rw [hfew];simp only [yr,yB,grd,if_true,yj,uK,ur,yD];cases m.tables.all tabF with
  | false=>simp
  | true=>
   rw [if_neg (by simp),yD];have h4:ztz (zw.l4 n m) n 0=some (m.ztw.all actF):=by
    have:=zat (body:=zw.l4 n m) (l:=m.ztw) (n:=n) (st:=λi=>(i:Int)) actF (some false) (some true) (λrec i hi=>?_) (λrec=>?_) (by omega)
    ·simp only [Int.natCast_zero] at this;rw [this];cases m.ztw.all actF <;> rfl
    ·simp only [zw.l4,zB hi,if_true,zb hi,ya];unfold actF;by_cases hx:((decide (m.ztw[i].arguments.length≤6)&&decide (m.ztw[i].effect.delta.length≤20))&&(decide (m.ztw[i].effect.hold.length≤10)&&decide (m.ztw[i].effect.ztD.length≤40)))=true
     ·rw [hx,yD];simp only [yd,yf] at hx;rw [if_neg (by simp;omega)];have:=zat (body:=zw.l5 n i rec m.ztw[i]) (l:=m.ztw[i].effect.hold) (n:=n) (st:=λk=>(k:Int)) (λr=>decide (r.zty.length≤20)) (some false) (rec ((i+1:Nat):Int)) (λrec' k hk=>?_) (λrec'=>?_) (by omega)
      ·simpa using this
      ·simp only [zw.l5,zB hk,if_true,zb hk,ya,zd (i:=k) (by omega)];by_cases h:m.ztw[i].effect.hold[k].zty.length≤20
       ·rw [if_neg (by simp;omega),if_pos (by simp [h])]
       ·rw [if_pos (by simp;omega),if_neg (by simp [h])]
      ·simp only [zw.l5,zaw,ye,if_false,zd (i:=i) (by omega)]
     ·rw [if_pos (by
       simp only [yd,yf] at hx;simp only [yI,yf];omega)]
      simp only [yS] at hx;rw [hx,uf,if_neg (by simp)]
    ·simp [zw.l4]
   have h3:ztz (zw.l3 n m) n 0=some (m.ztx.all opF&&m.ztw.all actF):=by
    have:=zat (body:=zw.l3 n m) (l:=m.ztx) (n:=n) (st:=λi=>(i:Int)) opF (some false) (some (m.ztw.all actF)) (λrec i hi=>?_) (λrec=>?_) (by omega)
    ·simp only [Int.natCast_zero] at this;rw [this];cases m.ztx.all opF <;> rfl
    ·simp only [zw.l3,zB hi,if_true,zb hi,ya,yr,yB,grd,yj,zd (i:=i) (by omega)];unfold opF;by_cases h1:m.ztx[i].name.length≤40
     ·by_cases h2:m.ztx[i].ztB.length≤6
      ·rw [if_neg (by simp;omega),if_pos (by simp [h1,h2])]
      ·rw [if_pos (by simp;omega),if_neg (by simp [h2])]
     ·rw [if_pos (by simp;omega),if_neg (by simp [h1])]
    ·simp only [zw.l3,zaw,ye,if_false,h4]
   have h2:ztz (zw.l2 n m) n 0=some (m.constraints.all (λc=>decide (c.row.zty.length≤20))&&(m.ztx.all opF&&m.ztw.all actF)):=by
    have:=zat (body:=zw.l2 n m) (l:=m.constraints) (n:=n) (st:=λi=>(i:Int)) (λc=>decide (c.row.zty.length≤20)) (some false) (some (m.ztx.all opF&&m.ztw.all actF)) (λrec i hi=>?_) (λrec=>?_) (by omega)
    ·simp only [Int.natCast_zero] at this;rw [this];cases m.constraints.all (λc=>decide (c.row.zty.length≤20)) <;> rfl
    ·simp only [zw.l2,zB hi,if_true,zb hi,ya,zd (i:=i) (by omega)];by_cases h:m.constraints[i].row.zty.length≤20
     ·rw [if_neg (by simp;omega),if_pos (by simp [h])]
     ·rw [if_pos (by simp;omega),if_neg (by simp [h])]
    ·simp only [zw.l2,zaw,ye,if_false,h3]
   have:=zat (body:=zw.l1 n m) (l:=m.ztI) (n:=n) (st:=λi=>(i:Int)) (λs=>decide (s.length≤40)) (some false) (some (m.constraints.all (λc=>decide (c.row.zty.length≤20))&&(m.ztx.all opF&&m.ztw.all actF))) (λrec i hi=>?_) (λrec=>?_) (by omega)
   ·simp only [Int.natCast_zero] at this;rw [this];cases m.ztI.all (λs=>decide (s.length≤40)) <;> rfl
   ·simp only [zw.l1,zB hi,if_true,zb hi,ya,zd (i:=i) (by omega)];by_cases h:m.ztI[i].length≤40
    ·rw [if_neg (by simp;omega),if_pos (by simp [h])]
    ·rw [if_pos (by simp;omega),if_neg (by simp [h])]
   ·simp only [zw.l1,zaw,ye,if_false,h2]
theorem zgL {m} (h:zgt m=true):zt9 m:=by
 simp only [zgt,zx6,tabF,opF,actF,yd,yC,ud,yL,yp,yf] at h;obtain ⟨⟨⟨⟨⟨⟨⟨j,k⟩,l⟩,n⟩,g⟩,b6⟩,i⟩,c,d,b,e,o⟩:=h;exact ⟨by omega,by omega,c,by omega,d,by omega,b,by omega,e,by omega,λa f=>by
  grind,by omega⟩
def zxl:Int→List Range→Bool
 | _,[]=>true
 | p,r::l=>!decide (4096<ztG p (ztu (ztH r.hi r.lo) 1))&&zxl (ztG p (ztu (ztH r.hi r.lo) 1)) l
def zdA (m:Model):List Range:=if zbm m.ztB m.tables=true then zW m.ztB true m.tables else []
def fewP (m:Model):Bool:=((zgt m&&decide (m.ztw.length≤12))&&decide (m.constraints.length≤40))&&(m.ztw.all (λa=>decide (a.effect.hold.length≤4))&&(decide ((zdA m).length≤12)&&zxl 1 (zdA m)))
theorem zkg {n} {m} (hn:1000000≤n) (hS:zt9 m):zcm n m=some (zdA m):=by
 have b:=hS.ztB;have a:=hS.tables;unfold zcm;rw [zey hn (by omega) (by omega) (λt h=>by have:=hS.tab t h;omega)];rfl
theorem zmQ {n} {m} (hn:1000000≤n):zbO n m=some (fewP m):=by
 unfold zbO fewP;rw [zjf hn,ya];have f:decide (12<(m.ztw.length:Int)) = !decide (m.ztw.length≤12):=zmI (a:=12);have j:decide (40<(m.constraints.length:Int)) = !decide (m.constraints.length≤40):=zmI (a:=40);rw [f,j,← Bool.not_and,← Bool.not_and];cases d:(zgt m&&decide (m.ztw.length≤12)&&decide (m.constraints.length≤40)) with
 | false=>simp
 | true=>
  simp only [yd,yf] at d;have e:=zgL d.1.1;have T:(if (decide (12<((zdA m).length:Int)))=true then some false else ztz (zbO.l2 n (zdA m)) n (1,0))=some (decide ((zdA m).length≤12)&&zxl 1 (zdA m)):=by
   by_cases h:(zdA m).length≤12
   ·rw [if_neg (by grind),decide_eq_true h,yD];refine zbd (body:=zbO.l2 n (zdA m)) (len:=(zdA m).length) (st:=λp i=>(p,i)) (g:=λi p=>some (zxl p ((zdA m).drop i))) (λ_ _=>True) (λb i p c _ k=>?_) (λb p _=>?_) n 0 1 (yo _) (by omega) trivial
    ·simp only [zbO.l2,zb c,zd (i:=i) (by omega)]
     grind [zm,zxl]
    ·simp [zbO.l2,zxl]
   grind
  have:=zat (body:=zbO.l1 n m) (l:=m.ztw) (n:=n) (st:=λi=>i) (λa=>decide (a.effect.hold.length≤4)) (some false) (some (decide ((zdA m).length≤12)&&zxl 1 (zdA m))) (λb i c=>?_) (λb=>?_) (by omega)
  ·grind
  ·simp only [zbO.l1,zb c,zd (i:=i) (by omega)]
   grind
  ·simp only [zbO.l1,zaw,ye,if_false,zkg hn e,ya,T]
theorem zkW {m} (h:fewP m=true):zt9 m:=by
 simp only [fewP] at h
 grind [zgL]
structure zvh (m:Model):Prop where
 lay:zbm m.ztB m.tables=true
 fams:m.ztI.length≤24∧zvw [] m.ztI=true
 cons:zw1 m (zW m.ztB true m.tables)=true
 ops:opsP m=true
 acts:zxb m (zW m.ztB true m.tables).length=true
 hid:zkY m=true
theorem zfp {m}:zfo m=true↔zvh m:=by
 simp only [zfo,yd,yf];exact ⟨λ⟨⟨a,b,c⟩,d,e,f,g⟩=>⟨a,⟨b,c⟩,d,e,f,g⟩,λ⟨a,⟨b,c⟩,d,e,f,g⟩=>⟨⟨a,b,c⟩,d,e,f,g⟩⟩
def stepT (s:Nat) (L:List (List Int)):List (List Int):=L.flatMap λl=>(List.range s).map λe:Nat=>l++[(e:Int)]
def ze7 (sizes:List Int):List Int→List (List Int)→List (List Int)
 | [],L=>L
 | c::cols,L=>ze7 sizes cols (stepT (zcX sizes c).toNat L)
def zd9 (sizes cols:List Int):List (List Int):=ze7 sizes cols [[]]
theorem zgZ (sizes):∀ (a b) (L),ze7 sizes (a++b) L=ze7 sizes b (ze7 sizes a L)
 | [],_,_=>rfl
 | _::a,b,L=>by exact zgZ sizes a b _
theorem znc {s L}:(stepT s L).length=L.length*s:=by
 induction L with
 | nil=>simp [stepT]
 | cons l L ih=>
  grind [stepT]
theorem zqF {s L k} (h:∀ l∈L,l.length=k):∀ l∈stepT s L,l.length=k+1:=λl a=>by
 simp only [stepT] at a
 grind
theorem zpr {s} {L:List (List Int)} {i} (hi):stepT s (L.take (i+1))=stepT s (L.take i)++(List.range s).map λe:Nat=>L[i]++[(e:Int)]:=by
 grind [List.take_succ_eq_append_getElem,stepT]
def zd0 (i:Nat) (L:List (List Int)):List Place:=L.map λl=>⟨(i:Int),l⟩
def zcM (sizes:List Int) (s:Bool):List Table→Nat→List Place
 | [],_=>[]
 | t::l,i=>(if decide (t.kind≤1)=s then zd0 i (zd9 sizes t.ztv) else [])++zcM sizes s l (i+1)
theorem zgR (sizes s):∀ (a b) (i),zcM sizes s (a++b) i=zcM sizes s a i++zcM sizes s b (i+a.length)
 | [],b,i=>by simp [zcM]
 | t::a,b,i=>by
  simp only [uu,zcM,zgR sizes s a b]
  grind
theorem zi4 {sizes} {s} {l:List Table} {i} (hi):zcM sizes s (l.take (i+1)) 0=zcM sizes s (l.take i) 0++(if decide (l[i].kind≤1)=s then zd0 i (zd9 sizes l[i].ztv) else []):=by
 rw [yv hi,zgR];simp only [zcM]
 grind
theorem zsp {n} {x40} {rec} {l} {s:Nat} {b} {k:Nat} (hk:ztu x40 1=(k:Int)) (hs:s≤6) (hl:l.length≤100) (hb:b.length≤100000) (hn:1000000≤n) :
  ztz (zp.l4 n x40 rec l (s:Int)) n (b,0)=rec (b++(List.range s).map λe:Nat=>l++[(e:Int)],(k:Int)):=by
 have:=zM (body:=zp.l4 n x40 rec l s) (len:=s) (st:=λi=>(b++(List.range i).map λe:Nat=>l++[(e:Int)],i)) (g:=λ_=>rec (b++(List.range s).map λe:Nat=>l++[(e:Int)],k)) (λa i d c=>?_) (λa=>?_) n 0 (yo _) (by omega)
 ·grind
 ·rw [ux,ul,← yJ] at c;simp only [zp.l4,zd (i:=i) (by omega)]
  grind [zl]
 ·simp only [zp.l4,zhC (ym s),ye,if_false,hk]
theorem zso {n} {m} {L} {x34 x36} {rec} {s k:Nat} (hk:ztu x34 1=(k:Int)) (hx:idx m.ztB x36=some (s:Int)) (hs:s≤6) (hl:∀ l∈L,l.length≤100) (hL:L.length≤1000) (hn:1000000≤n) :
  ztz (zp.l3 n m L x34 rec x36) n ([],0)=rec (stepT s L,(k:Int)):=by
 have:=zM (body:=zp.l3 n m L x34 rec x36) (len:=L.length) (st:=λi=>(stepT s (L.take i),i)) (g:=λ_=>rec (stepT s L,k)) (λb i c d=>?_) (λb=>?_) n 0 (yo _) (by omega)
 ·grind [stepT]
 ·rw [zpr c] at d;simp only [zp.l3,zB c,zb c,ya,hx];have a:(stepT s (L.take i)).length≤100000:=by
   rw [znc,ug];have:min i L.length*s≤1000*6:=ub (by omega) hs;omega
  rw [zsp (k:=i+1) (zd (by omega)) hs (hl _ (yi c)) a hn];exact d
 ·simp only [zp.l3,zaw,ye,if_false,hk,List.take_length]
theorem zsq {n} {i:Nat} {rec} {t} {L} {b1 b2} (hi:i<1000000) (hL:L.length≤1000) (h1:b1.length≤100000) (h2:b2.length≤100000) (hn:1000000≤n) :
  ztz (zp.l5 n (i:Int) rec t L) n (b1,b2,0)=rec (b1++(if decide (t.kind≤1)=true then zd0 i L else []),b2++(if decide (t.kind≤1)=false then zd0 i L else []),((i+1:Nat):Int)):=by
 cases hk:decide (t.kind≤1) with
 | true=>
  have:=zM (body:=zp.l5 n (i:Int) rec t L) (len:=L.length) (st:=λk=>(b1++zd0 i (L.take k),b2,(k:Int))) (g:=λ_=>rec (b1++zd0 i L,b2,((i+1:Nat):Int))) (λrec' k hk' hr=>?_) (λrec'=>?_) n 0 (yo _) (by omega)
  ·grind [zd0]
  ·simp only [zd0] at hr ⊢;rw [← zed hk',← yJ] at hr;simp only [zp.l5,jn,zb hk',zd (i:=k) (by omega)]
   grind [zl]
  ·simp only [zp.l5,zaw,ye,if_false,List.take_length,zd (i:=i) (by omega)]
 | false=>
  have:=zM (body:=zp.l5 n (i:Int) rec t L) (len:=L.length) (st:=λk=>(b1,b2++zd0 i (L.take k),(k:Int))) (g:=λ_=>rec (b1,b2++zd0 i L,((i+1:Nat):Int))) (λrec' k hk' hr=>?_) (λrec'=>?_) n 0 (yo _) (by omega)
  ·grind [zd0]
  ·simp only [zd0] at hr ⊢;rw [← zed hk',← yJ] at hr;simp only [zp.l5,jn,zB hk',if_true,zb hk',ya,hk,ye,if_false,zd (i:=k) (by omega)]
   grind [zl]
  ·simp only [zp.l5,zaw,ye,if_false,List.take_length,zd (i:=i) (by omega)]
theorem zic {sizes} (hs:sizes.all zcw=true):∀ (cols) (L) (A k),cols.all (zum sizes)=true→L.length≤A→(∀ l∈L,l.length=k)→(ze7 sizes cols L).length≤A*6 ^ cols.length∧∀ l∈ze7 sizes cols L,l.length=k+cols.length
 | [],L,A,k,_,h1,h2=>by grind [ze7]
 | c::cols,L,A,k,hc,h1,h2=>by
  simp only [um,yd] at hc;have hz:=zh7 hs hc.1;have hlen:(stepT (zcX sizes c).toNat L).length≤A*6:=by
   rw [znc];exact ub h1 (by omega)
  obtain ⟨p1,p2⟩:=zic hs cols (stepT (zcX sizes c).toNat L) (A*6) (k+1) hc.2 hlen (zqF h2)
  grind [ze7,List.length_cons,Nat.pow_succ,Nat.mul_comm,Nat.mul_assoc]
theorem zfJ {sizes cols} (hs:sizes.all zcw=true) (hc:cols.all (zum sizes)=true) (h3:cols.length≤3):(zd9 sizes cols).length≤216∧∀ l∈zd9 sizes cols,l.length=cols.length:=by
 obtain ⟨b,c⟩:=zic hs cols [[]] 1 0 hc (by simp) (by simp);refine ⟨yH b ?_,λl a=>by simpa using c l a⟩;have:6 ^ cols.length≤6 ^ 3:=uq (by decide) h3;omega
theorem zsn {n} {m} {b1 b2} {i:Nat} {rec} {t} (hs:m.ztB.all zcw=true) (hc:t.ztv.all (zum m.ztB)=true) (h3:t.ztv.length≤3) (hi:i<1000000) (h1:b1.length≤100000) (h2:b2.length≤100000) (hn:1000000≤n) :
  ztz (zp.l2 n m b1 b2 (i:Int) rec t) n ([[]],0)=rec (b1++(if decide (t.kind≤1)=true then zd0 i (zd9 m.ztB t.ztv) else []),b2++(if decide (t.kind≤1)=false then zd0 i (zd9 m.ztB t.ztv) else []),((i+1:Nat):Int)):=by
 have hpre:∀ k,(t.ztv.take k).all (zum m.ztB)=true:=λk=>yp.2 λc hm=>yp.1 hc c (List.mem_of_mem_take hm)
 have:=zM (body:=zp.l2 n m b1 b2 (i:Int) rec t) (len:=t.ztv.length) (st:=λk=>(zd9 m.ztB (t.ztv.take k),(k:Int))) (g:=λ_=>rec (b1++(if decide (t.kind≤1)=true then zd0 i (zd9 m.ztB t.ztv) else []),b2++(if decide (t.kind≤1)=false then zd0 i (zd9 m.ztB t.ztv) else []),((i+1:Nat):Int))) (λrec' k hk hr=>?_) (λrec'=>?_) n 0 (yo _) (by omega)
 ·grind [zd9,ze7]
 ·have hcol:=yp.1 hc _ (yi hk);have hz:=zh7 hs hcol;obtain ⟨p1,p2⟩:=zfJ hs (hpre k) (by grind);have hsz:idx m.ztB t.ztv[k]=some (((zcX m.ztB t.ztv[k]).toNat:Nat):Int):=by
   grind [zfx,zcX]
  simp only [zp.l2,zB hk,if_true,zb hk,ya];rw [zso (k:=k+1) (zd (by omega)) hsz (by omega) (λl hl=>by grind) (by omega) hn,← hr];unfold zd9;rw [yv hk,zgZ];rfl
 ·obtain ⟨p1,-⟩:=zfJ hs hc h3;simp only [zp.l2,zaw,ye,if_false,List.take_length];exact zsq hi (by omega) h1 h2 hn
theorem zhe {sizes s}:∀ {l} {i},(∀ t∈l,(zd9 sizes t.ztv).length≤216)→(zcM sizes s l i).length≤l.length*216
 | [],_,_=>by simp [zcM]
 | t::l,i,h=>by
  have b:=zhe (s:=s) (l:=l) (i:=i+1) λx a=>h x (by simp [a])
  grind [zcM,zd0]
def zlQ (m:Model):zu3:=⟨m,zcM m.ztB true m.tables 0,zcM m.ztB false m.tables 0⟩
theorem zjj {n} {m} (hF:Fuel n) (hS:zt9 m):zp n m=some (if zfo m=true then (some (zlQ m),true) else (none,false)):=by
 have v:=hF.big;unfold zp;rw [zgP hF hS,ya];cases p:zfo m with
 | false=>simp
 | true=>
  have q:=zfp.1 p;obtain ⟨w,x,h,e⟩:=zb5 q.lay;have f :=λt a=>(zfJ h (e t a).2.2.2.1 (e t a).2.2.1).1
  have:=zM (body:=zp.l1 n m) (len:=m.tables.length) (st:=λi=>(zcM m.ztB true (m.tables.take i) 0,zcM m.ztB false (m.tables.take i) 0,i)) (g:=λ_=>some (some (zlQ m),true)) (λd i b j=>?_) (λd=>?_) n 0 (yo _) (by omega)
  ·grind [zcM]
  ·have c:=yi b;obtain ⟨-,-,o,r,-⟩:=e _ c;have u:=zhe (s:=true) (l:=m.tables.take i) (i:=0) λt a=>f t (List.mem_of_mem_take a)
   have k:=zhe (s:=false) (l:=m.tables.take i) (i:=0) λt a=>f t (List.mem_of_mem_take a)
   simp only [ug] at u k;rw [zi4 b,zi4 b] at j;simp only [zp.l1,zB b,zb b,ya];rw [zsn h r o (by omega) (by omega) (by omega) (by omega)];exact j
  ·simp [zp.l1,zlQ]
def zfM (m:Model) (q:Question):Bool:=
 (((decide (0≤q.e)&&decide (q.e<(m.ztw.length:Int)))&&(decide (0≤q.f)&&decide (q.f<(m.ztw.length:Int))))&&decide (0≤q.target.index)) &&
 (if q.target.hold=true then decide (q.target.index<(((idx m.ztw q.e).getD default).effect.hold.length:Int)) else decide (q.e≤q.f)&&decide (q.target.index<(m.constraints.length:Int)))
theorem zwE {m q}:(if (((((decide (q.e<0))||(decide (q.f<0)))||(decide ((m.ztw.length:Int)≤q.e)))||(decide ((m.ztw.length:Int)≤q.f)))||(decide (q.target.index<0)))=true then some false
 else if q.target.hold=true then (idx m.ztw q.e).bind λx=>some (decide (q.target.index<(x.effect.hold.length:Int))) else some ((decide (q.e≤q.f))&&(decide (q.target.index<(m.constraints.length:Int)))))=some (zfM m q):=by
 unfold zfM;by_cases h:((0≤q.e∧q.e<m.ztw.length)∧(0≤q.f∧q.f<m.ztw.length))∧0≤q.target.index
 ·obtain ⟨a,b⟩:=za6 h.1.1.1 h.1.1.2
  grind
 grind
theorem zfn {n m q} (hF:Fuel n) (hS:zt9 m):zc6 n m q=some (zfo m&&zfM m q):=by
 unfold zc6;rw [zjj hF hS,ya];cases zfo m with
 | false=>simp [grd]
 | true=>
  have:zbu n (zlQ m) q=some (zfM m q):=zwE
  grind [grd]
theorem zgU {n m q} (hn:4294967296≤n) (hS:zt9 m):zhk n m q=some (zfo m&&zfM m q):=by
 unfold zhk;rw [zkF hn hS,ya];cases zfo m with
 | false=>simp
 | true=>
  exact zwE
theorem zo2:zg7 18446744073709551616=some true:=by decide +kernel
theorem zlN:(zbH 18446744073709551616).map (λm=>m.es.map (λe=>e.2))=some (kwL.map λk=>(k,true)):=by decide +kernel
theorem zta:Fuel 18446744073709551616:=by
 refine ⟨by decide,?_⟩;have h:=zlN;cases b:zbH 18446744073709551616 with
 | none=>simp_all
 | some m=>
  rw [b] at h;simp only [yR,yn] at h;refine ⟨m,rfl,λe c=>?_,λk=>?_⟩
  ·grind [List.mem_map_of_mem]
  ·have:m.es.map (λe=>e.2.1)=kwL:=by
    have a:m.es.map (λe=>e.2.1)=(m.es.map (λe=>e.2)).map (·.1):=by simp
    rw [a,h,List.map_map];exact List.map_id kwL
   grind
theorem zg5 {K}:∀ (l) (last),zgN K last l=true→(∀ d∈l,last<d.cell∧d.cell<(K:Int)∧d.add≠0∧-1000000000≤d.add∧d.add≤1000000000)∧(l.map (·.cell)).Nodup
 | [],_,_=>by simp
 | d::l,last,h=>by
  simp only [zgN,zaT,yd] at h;obtain ⟨⟨⟨⟨i,c⟩,e⟩,f,g⟩,a⟩:=h;obtain ⟨j,b⟩:=zg5 l d.cell a
  grind
theorem znf {m} (hV:zvh m) {a} (ha:a∈m.ztw):effP m (zW m.ztB true m.tables).length a.effect=true∧(0≤a.operation∧a.operation<(m.ztx.length:Int)):=by
 have h:=hV.acts;simp only [zxb,yd] at h;obtain ⟨i,b,rfl⟩:=List.mem_iff_getElem.1 ha;have:=ziO.1 h.2 i b;simp only [zb b,actP] at this;simp_all
theorem zks {m} (hV:zvh m) {c} (hc:c∈m.constraints):zeP (zW m.ztB true m.tables).length c=true∨acyP m c=true:=by
 have h:=hV.cons;simp only [zw1,yd] at h;obtain ⟨i,a,rfl⟩:=List.mem_iff_getElem.1 hc;have:=ziO.1 h.2 i a;simp only [zb a,conP] at this;simp_all
theorem zln {m} (hV:zvh m) {c} (h:acyP m c=true):c.kind=1∧1≤c.size∧c.size≤6:=by
 obtain ⟨p,j,i,f⟩:=zb5 hV.lay;simp only [acyP,zgO,yd,ut,beq_iff_eq] at h;obtain ⟨l,-,t,e,d⟩:=h;simp only [zhE,yd,beq_iff_eq] at d;obtain ⟨⟨k,g⟩,⟨n,o⟩,b⟩:=d;obtain ⟨⟨x,q⟩,-,z,a⟩:=zit (f t e).2.2.2.1 g;rw [a] at b;simp only [yj] at b;have:=yp.1 i z (zbb a);simp only [zcw,yd,yf] at this;omega
theorem zlH {n m} (hn:4294967296≤n) (hS:zt9 m) (hV:zvh m):Good n m:=by
 refine ⟨λa d=>?_,λc e=>?_⟩
 ·obtain ⟨i,l,p,j,k⟩:=hS.act a d;have f:=(znf hV d).1;simp only [effP] at f
  grind [zg5,zjB]
 ·have o:=hS.con c e;rcases zks hV e with h | h
  ·simp only [zeP,yd,beq_iff_eq] at h;refine ⟨.inl h.1.1.1,by omega,by omega,0,?_,by decide,by omega⟩;rw [h.1.2];rfl
  ·obtain ⟨g,q,b⟩:=zln hV h;refine ⟨.inr g,by omega,by omega,c.size.toNat*c.size.toNat,?_,?_,?_⟩
   ·have :=Int.mul_le_mul b b (by omega) (by omega)
    grind [ztG,zao]
   ·have:c.size.toNat*c.size.toNat≤6*6:=ub (by omega) (by omega);omega
   ·have:c.size.toNat*c.size.toNat≤6*6:=ub (by omega) (by omega);omega
theorem zkc {m q} (h:zfM m q=true):(0≤q.e∧q.e<(m.ztw.length:Int))∧(0≤q.f∧q.f<(m.ztw.length:Int))∧0≤q.target.index∧(q.target.hold=true→∀ a,idx m.ztw q.e=some a→q.target.index<(a.effect.hold.length:Int))∧(q.target.hold=false→q.e≤q.f∧q.target.index<(m.constraints.length:Int)):=by
 simp only [zfM] at h
 grind
def nextL:List Range→List Int→Option (List Int)
 | r::rs,x::xs=>match nextL rs xs with
  | some ys=>some (x::ys)
  | none=>if x<r.hi then some ((x+1)::rs.map (·.lo)) else none
 | _,_=>none
def zvV:List Range→List Int→Bool
 | r::rs,x::xs=>(decide (r.lo≤x)&&decide (x≤r.hi))&&zvV rs xs
 | [],[]=>true
 | _,_=>false
def zwM (box:List Range):Bool:=box.all λr=>decide (r.lo≤r.hi)&&(decide (-9999≤r.lo)&&decide (r.hi≤9999))
theorem zhH:∀ {box} {s},zvV box s=true→s.length=box.length
 | [],[],_=>rfl
 | [],_::_,h=>by grind [zvV]
 | _::_,[],h=>by grind [zvV]
 | _::b,_::a,h=>by
  simp only [zvV,yd] at h;simp [zhH h.2]
theorem zhG:∀ {box} {s} (h:zvV box s=true) (i) (hi) (hs:i<s.length),box[i].lo≤s[i]∧s[i]≤box[i].hi
 | [],_,_,i,hi,_=>by grind
 | _::_,[],h,_,_,_=>by grind
 | r::b,x::a,h,0,_,_=>by
  simp only [zvV] at h
  grind
 | r::b,x::a,h,i+1,hi,hs=>by
  simp only [zvV,yd] at h;simpa using zhG h.2 i (by simp_all) (by simp_all)
def sumP (s:List Int):List Term→Int
 | []=>0
 | t::l=>t.ztE*s.getD t.cell.toNat 0+sumP s l
def zgo (k:Nat) (t:Term):Prop:=0≤t.cell∧t.cell<(k:Int)∧-1000≤t.ztE∧t.ztE≤1000
def ztt (s:List Int):Prop:=∀ x∈s,-4000000000≤x∧x≤4000000000
theorem zi3 {f x B:Int} (h1 : -1000≤f) (h2:f≤1000) (h3 : -B≤x) (h4:x≤B) : -(1000*B)≤f*x∧f*x≤1000*B:=by
 have hB:0≤B:=by omega
 have a1:f.natAbs≤1000:=by omega
 have a2:x.natAbs≤B.toNat:=by omega
 have a3:(f*x).natAbs≤1000*B.toNat:=by rw [Int.natAbs_mul];exact ub a1 a2
 omega
theorem zod {s:List Int} {c:Int} (h0:0≤c) (h1:c<(s.length:Int)):idx s c=some (s.getD c.toNat 0):=by
 obtain ⟨k,rfl⟩:=y7 h0;have:k<s.length:=by omega
 rw [zb this];simp [List.getD,this]
def anyR (p:Nat→Bool) (i:Nat):Nat→Bool
 | 0=>false
 | k+1=>p i||anyR p (i+1) k
theorem zmn {p q}:∀ {k i},(∀ j,i≤j→j<i+k→p j=true→q j=true)→anyR p i k=true→anyR q i k=true
 | 0,_,_,h=>by grind [anyR]
 | k+1,i,a,h=>by
  simp only [anyR,yI] at h ⊢;rcases h with h | h
  ·simp_all
  ·exact .inr (zmn (λj c b=>a j (by omega) (by omega)) h)
def neP (E:Nat→Nat→Bool) (size:Nat):Nat→List Int→Nat→Nat→Bool
 | 0,_,first,last=>E last first
 | d+1,path,first,last=>anyR (λx=>!(decide ((x:Int)∈path)||!E last x)&&neP E size d (path++[(x:Int)]) first x) (first+1) (size - (first+1))
theorem zot {E F size} (h:∀ a b,a<size→b<size→E a b=true→F a b=true):∀ (d) (path) (first last),first<size→last<size→neP E size d path first last=true→neP F size d path first last=true
 | 0,_,first,last,e,f,g=>h _ _ f e g
 | d+1,path,first,last,e,f,g=>by
  refine zmn (λj i k c=>?_) g;simp only [yd,yC,ud,Bool.not_eq_false'] at c ⊢;exact ⟨⟨c.1.1,h _ _ f (by omega) c.1.2⟩,zot h d _ first j e (by omega) c.2⟩
def zvf (s:List Int) (c:Constraint) (a b:Nat):Bool:=decide (1≤s.getD (c.first+(a:Int)*c.size+(b:Int)).toNat 0)
structure zxa (c:Constraint) (s:List Int) (size:Nat):Prop where
 sz:c.size=(size:Int)
 pos:1≤size
 six:size≤6
 first:0≤c.first
 fits:c.first+(size*size:Nat)≤(s.length:Int)
 len:s.length≤1000
theorem zpO {n c s size a b} (h:zxa c s size) (ha:a<size) (hb:b<size):zem n c s a b=some (zvf s c a b):=by
 have e:a*size+b<size*size:=by
  have:=yN size (show a+1≤size by omega)
  grind
 have f:=h.fits;have g:=h.len;have i:=h.first
 have j:a*c.size=((a*size:Nat)):=by rw [h.sz,uF]
 unfold zem zvf;have k:ztG a c.size=((a*size)):=by grind [ztG,zao]
 have l:ztu c.first ((a*size))=c.first+((a*size)):=by grind [ztu,zao]
 have d:ztu (c.first+((a*size))) b=c.first+((a*size))+b:=by grind [ztu,zao]
 grind [zod]
theorem zmP {n l x} (hl:l.length<1000000) (hn:1000000≤n):zdy n l x=some (decide (x∈l)):=by
 have:=zM (body:=zdy.l1 n l x) (len:=l.length) (st:=λi=>i) (g:=λi=>some (decide (x∈l.drop i))) (λa i b c=>?_) (λa=>?_) n 0 (yo _) (by omega)
 ·grind [zdy]
 ·simp only [zdy.l1,zb b,zd (i:=i) (by omega)];rw [zm b]
  grind
 ·simp [zdy.l1]
theorem zrc {c s size} (hG:zxa c s size):∀ (d m:Nat) (path:List Int) (first last:Nat),d≤6→1000000+d<m→1≤path.length→path.length+d≤10→idx path 0=some (first:Int)→idx path ((path.length - 1:Nat):Int)=some (last:Int)→first<size→last<size →
  ∃ L,zbg m c s path ((path.length+d:Nat):Int)=some L∧(L≠[]↔neP (zvf s c) size d path first last=true)∧L.length≤6 ^ d∧∀ p∈L,p≠[]
 | d,0,_,_,_,_,h,_,_,_,_,_,_=>by omega
 | 0,m+1,path,first,last,_,hm,hp,hp2,h0,hl,hf,hla=>by
  simp only [zbg,zbg.body];rw [zeD (by omega) (by omega),hl,h0];simp only [ya,uy,beq_self_eq_true,if_true,zpO hG hla hf,neP];cases zvf s c last first with
  | true=>exact ⟨[path],rfl,by simp,by simp,λp hp'=>by simp only [yM] at hp';subst hp';intro e;rw [e] at hp;simp at hp⟩
  | false=>exact ⟨[],rfl,by simp,by simp,λp hp'=>by simp at hp'⟩
 | d+1,m+1,path,first,last,hd6,hm,hp,hp2,h0,hl,hf,hla=>by
  have h6:=hG.six;simp only [zbg,zbg.body];rw [zeD (by omega) (by omega),hl,h0];simp only [ya];rw [if_neg (by simp;omega),zd (by omega),neP];have hpow:1≤6 ^ d:=Nat.one_le_pow _ _ (by decide);have hpow2:6 ^ d≤46656:=yH (uq (by decide) (show d≤6 by omega)) (by decide);have main:=zde (body:=zbg.l1 m (zbg m) c s path ((path.length+(d+1):Nat):Int) (last:Int)) (λst=>size - st.2.toNat) (λst=>∃ i:Nat,st.2=(i:Int)∧i≤size∧st.1.length≤i*6 ^ d)
   (λst o=>∃ L,o=some (st.1++L)∧(L≠[]↔anyR (λx=>!(decide ((x:Int)∈path)||!zvf s c last x)&&neP (zvf s c) size d (path++[(x:Int)]) first x) st.2.toNat (size - st.2.toNat)=true)∧L.length≤(size - st.2.toNat)*6 ^ d∧∀ p∈L,p≠[]) (λrec st hI hr=>by
    obtain ⟨b,x⟩:=st;obtain ⟨i,rfl,hi,hb⟩:=hI;simp only [] at hb hr;simp only [zbg.l1,jn,yt];by_cases hlt:i<size
    ·have hsz:decide ((i:Int)<c.size)=true:=by rw [hG.sz];exact zj1 hlt
     have hb2:b.length≤300000:=by
      have:i*6 ^ d≤6*46656:=ub (by omega) hpow2;omega
     simp only [hsz,if_true,zmP (show path.length<1000000 by omega) (show 1000000≤m by omega),zpO hG hla hlt,ya,yr,yB,grd,yj,zd (i:=i) (by omega)];rw [show size - i=(size - (i+1))+1 by omega,anyR];have hnx:∀ b':List (List Int),b'.length≤(i+1)*6 ^ d→∃ L,rec (b',((i+1:Nat):Int))=some (b'++L)∧(L≠[]↔anyR (λx=>!(decide ((x:Int)∈path)||!zvf s c last x)&&neP (zvf s c) size d (path++[(x:Int)]) first x) (i+1) (size - (i+1))=true)∧L.length≤(size - (i+1))*6 ^ d∧∀ p∈L,p≠[]:=λb' hb'=>by
      have:=hr (b',((i+1:Nat):Int)) ⟨i+1,rfl,by omega,hb'⟩ (by simp only [yt];omega);simpa only [yt] using this
     by_cases hsk:(decide ((i:Int)∈path)||!zvf s c last i)=true
     ·rw [if_pos hsk,hsk];obtain ⟨L,l1,l2,l3,l4⟩:=hnx b (by rw [uw];omega);refine ⟨L,l1,by simpa using l2,by rw [uw];omega,l4⟩
     ·rw [if_neg hsk];simp only [yS] at hsk;rw [hsk,zl (by simp;omega),ya,zl (by simp;omega),ya];simp only [yO];obtain ⟨L',p1,p2,p3,p4⟩:=zrc hG d m (path++[(i:Int)]) first i (by omega) (by omega) (by simp) (by simp;omega) (by
       obtain ⟨y,hy⟩:∃ y,y=path:=⟨_,rfl⟩
       cases path with
       | nil=>simp at hp
       | cons z zs=>simpa [idx] using h0) (by
       have:(path++[(i:Int)]).length - 1=path.length:=by simp
       rw [this,zb (by simp)];simp) hf hlt
      have e:((path++[(i:Int)]).length+d:Nat)=path.length+(d+1):=by simp;omega
      rw [e] at p1;rw [p1,ya,zl (by omega),ya];obtain ⟨L,l1,l2,l3,l4⟩:=hnx (b++L') (by grind);refine ⟨L'++L,by rw [l1,yJ],?_,by rw [yQ,uw];omega,λp hp'=>?_⟩
      ·simp only [ur,yD,yI,← p2,← l2,ne_eq,List.append_eq_nil_iff];constructor
       ·intro h;by_cases hx:L'=[]
        ·exact .inr λhy=>h ⟨hx,hy⟩
        ·exact .inl hx
       ·rintro (h | h) ⟨h1,h2⟩
        ·exact h h1
        ·exact h h2
      ·rcases yu.1 hp' with h | h
       ·exact p4 p h
       ·exact l4 p h
    ·have hie:i=size:=by omega
     have hsz:decide ((i:Int)<c.size)=false:=by rw [hG.sz];simp_all
     simp only [hsz,ye,if_false];exact ⟨[],by simp,by simp [hie,anyR],by simp,λp hp'=>by simp at hp'⟩) m ([],((first+1:Nat):Int)) ⟨first+1,rfl,by omega,by simp⟩ (by grind)
  grind [Int.toNat_natCast,Nat.pow_succ,Nat.mul_comm,Nat.le_trans,Nat.mul_le_mul_right]
def zvU (E:Nat→Nat→Bool) (size:Nat):Bool:=allR (λlen=>allR (λa=>!neP E size (len - 1) [(a:Int)] a a) 0 size) 1 size
theorem zif {E F size} (h:∀ a b,a<size→b<size→E a b=true→F a b=true) (hF:zvU F size=true):zvU E size=true:=by
 unfold zvU at hF ⊢;rw [zjl] at hF ⊢;intro len h1 h2;have:=hF len h1 h2;rw [ziO] at this ⊢;intro a ha;have hn:=this a ha;cases hx:neP E size (len - 1) [(a:Int)] a a with
 | false=>rfl
 | true=>rw [zot h _ _ _ _ ha ha hx] at hn;exact hn
inductive ConIn (c:Constraint) (k:Nat):Prop
 | row:c.kind=0→(∀ t∈c.row.zty,zgo k t)→c.row.zty.length≤1000→(-4000000000≤c.row.bound∧c.row.bound≤4000000000)→ConIn c k
 | graph (size:Nat):c.kind=1→c.size=(size:Int)→1≤size→size≤6→0≤c.first→c.first+(size*size:Nat)≤(k:Int)→ConIn c k
def zav (c:Constraint) (s:List Int):Bool:=if c.kind=1 then zvU (zvf s c) c.size.toNat else decide (sumP s c.row.zty≤c.row.bound)
theorem ziB {β:Type} (g:Nat→List β) (k:Nat):(List.range (k+1)).flatMap g=(List.range k).flatMap g++g k:=by
 rw [ux,List.flatMap_append];simp
def boxM (m:Model):List Range:=zW m.ztB true m.tables
theorem zhg {sizes s}:∀ {l} {r},r∈zW sizes s l→∃ t∈l,r=t.range
 | [],r,h=>by grind [zW]
 | t::l,r,h=>by
  rw [zW] at h;split at h
  ·rcases yu.1 h with h | h
   ·simp_all
   ·obtain ⟨u,a,e⟩:=zhg h
    grind
  ·obtain ⟨u,a,e⟩:=zhg h
   grind
theorem zhu {m} (hL:zbm m.ztB m.tables=true):zwM (boxM m)=true:=by
 unfold zwM;rw [yp];intro r c;obtain ⟨t,d,rfl⟩:=zhg c;have a:=hL;simp only [zbm,yd] at a;have:=zhJ a.2 t d;simp only [tabP,yd] at this;have b:=this.2;unfold zgf at b;split at b
 ·simp_all
 simp_all
theorem znD {sizes} (hs:sizes.all zcw=true):∀ {l} {seen} {a b},layP sizes seen a b l=true→0≤a→a+216*(l.length:Int)≤1000000→∀ t∈l,zb9 t.kind=true→a≤t.first∧t.first+zas sizes t.ztv 1≤a+((zW sizes true l).length:Int)
 | [],_,_,_,_,_,_,t,e,_=>by grind
 | x::l,seen,a,b,h,n,o,t,e,g=>by
  have c:=zhJ h x (by simp);simp only [tabP,yd,yf] at c;have p:=zgq hs c.1.2.2 c.1.2.1;simp only [layP,yd] at h;have f:=h.2;simp only [yU] at o;have j :=by omega
  by_cases k:zb9 x.kind=true
  ·rw [if_pos k] at f;simp only [yd,beq_iff_eq] at f;have m:ztu a (zas sizes x.ztv 1)=a+zas sizes x.ztv 1:=by exact zao (by omega) (by omega)
   have d:((zW sizes true (x::l)).length)=zas sizes x.ztv 1+((zW sizes true l).length):=by
    rw [zW,k,if_pos (by rfl),yQ,uC];omega
   rcases yG.1 e with rfl | e
   ·omega
   ·have:=znD hs f.2 (by omega) (by omega) t e g;omega
  ·rw [if_neg k] at f;simp only [yd] at f;have i:zb9 x.kind=false:=by simp_all
   have d:(zW sizes true (x::l))=zW sizes true l:=by
    rw [zW,i,if_neg (by decide)]
   rw [d];rcases yG.1 e with rfl | e
   ·simp_all
   ·exact znD hs f.2 n (by omega) t e g
theorem ziD {K}:∀ {l} {last},rowP K last l=true→-1≤last→∀ t∈l,zgo K t
 | [],_,_,_,t,a=>by grind
 | x::l,last,h,b,t,a=>by
  simp only [rowP,zaT,yd,yf] at h;rcases yG.1 a with rfl | a
  ·exact ⟨by omega,h.1.1.1.2,by omega,by omega⟩
  ·exact ziD h.2 (by omega) t a
theorem zrz {m} (hS:zt9 m) (hV:zvh m) {c} (hc:c∈m.constraints):ConIn c (boxM m).length:=by
 have z:=hS.con c hc;rcases zks hV hc with h | h
 ·simp only [zeP,yd,beq_iff_eq] at h;have l:=h.2;simp only [zul,zaT,yd,yf] at l;exact .row h.1.1.1 (ziD l.1 (by decide)) (by omega) (by omega)
 ·obtain ⟨C,G,u,w⟩:=zb5 hV.lay;obtain ⟨y,F,o⟩:=zln hV h;have r:=hV.lay;simp only [zbm,yd] at r;simp only [acyP,zgO,yd,ut] at h;obtain ⟨-,-,t,s,n⟩:=h;simp only [zhE,yd,beq_iff_eq] at n;obtain ⟨⟨A,B⟩,⟨f,E⟩,d⟩:=n;have k:=znD u r.2 (Int.le_refl _) (by omega) t s (by grind [zb9]);have a:=(w t s).2.2.2.1;obtain ⟨p,q,b⟩:∃ p q,t.ztv=[p,q]:=by
   match v:t.ztv with
   | []=>simp_all
   | [_]=>simp_all
   | [p,q]=>simp_all
   | _::_::_::_=>grind
  have e:idx t.ztv 0=some p:=by rw [b];rfl
  have g:idx t.ztv 1=some q:=by rw [b];rfl
  rw [e,g] at f;rw [e] at d;simp only [yj] at f d;subst f;have j:=yp.1 a p (by simp_all);rw [zfx j] at d;simp only [yj] at d;have H:zas m.ztB t.ztv 1=c.size*c.size:=by
   rw [b];simp only [zas,d];have :=Int.mul_le_mul o o (by omega) (by omega);have I:0≤c.size*c.size:=Int.mul_nonneg (by omega) (by omega);unfold ztG;rw [Int.one_mul,zao (x:=c.size) (by omega) (by omega),zao (by omega) (by omega)]
  have i:c.size=(c.size.toNat):=by omega
  refine .graph c.size.toNat y i (by omega) (by omega) (by omega) ?_
  grind [boxM]
def zt0 (s:List Int) (d:List Change):List Int:=(List.range s.length).map λi=>s.getD i 0+zz d (i:Int)
theorem zjq (s d):(zt0 s d).length=s.length:=by simp [zt0]
theorem zgA {s d c} (h0:0≤c) (h1:c<(s.length:Int)):(zt0 s d).getD c.toNat 0=s.getD c.toNat 0+zz d c:=by
 grind [zt0]
def zfm (d:List Change):Prop:=∀ x∈d,-1000000000≤x.add∧x.add≤1000000000
theorem zcE {d} (h:zfm d) (c) : -1000000000≤zz d c∧zz d c≤1000000000:=by
 induction d with
 | nil=>simp [zz]
 | cons x l ih=>
  simp only [zz];split
  ·exact h x (by simp)
  ·exact ih λy a=>h y (by grind)
def chgP (d:List Change):List Term→Int
 | []=>0
 | t::l=>t.ztE*zz d t.cell+chgP d l
theorem zfI {s d}:∀ {l},(∀ t∈l,zgo s.length t)→sumP (zt0 s d) l=sumP s l+chgP d l
 | [],_=>rfl
 | t::l,h=>by
  obtain ⟨t1,t2,-⟩:=h t (by simp);have ih:=zfI (s:=s) (d:=d) (l:=l) λx hx=>h x (by grind)
  grind [sumP,chgP,zgA,Int.mul_add]
set_option maxRecDepth 20000 in
theorem ziU {d} (hd:zfm d):∀ {l} {s},(∀ t∈l,-1000≤t.ztE∧t.ztE≤1000)→(l.length:Int)≤1000→-(1000000000000*(1000 - (l.length:Int)))≤s∧s≤1000000000000*(1000 - (l.length:Int))→zcA (zz d) l s=s+chgP d l
 | [],s,_,_,_=>by simp [zcA,chgP]
 | t::l,s,c,e,g=>by
  have b:=c t (by simp);have a:=zcE hd t.cell;have j:=zi3 b.1 b.2 a.1 a.2;simp only [yU] at e g;have k :=by omega
  have f:ztG t.ztE (zz d t.cell)=t.ztE*zz d t.cell:=by grind [ztG,zao]
  have h:ztu s (t.ztE*zz d t.cell)=s+t.ztE*zz d t.cell:=by grind [ztu,zao]
  rw [zcA,f,h,ziU hd (λx i=>c x (by grind)) (by omega) (by omega),chgP];omega
theorem zjJ {d} (hd:zfm d) {l} (ht:∀ t∈l,-1000≤t.ztE∧t.ztE≤1000) (hl:l.length≤1000):zcA (zz d) l 0=chgP d l:=by
 grind [ziU]
theorem zkG {n m t} (hc:t.ztv.all (zum m.ztB)=true) (hl:t.ztv.length≤1000) (hn:1000000≤n):zct n m t=some (zas m.ztB t.ztv 1):=by
 have:=zM (body:=zct.l1 n m t) (len:=t.ztv.length) (st:=λi=>(zas m.ztB (t.ztv.take i) 1,i)) (g:=λ_=>some (zas m.ztB t.ztv 1)) (λc i a b=>?_) (λc=>?_) n 0 (yo _) (by omega)
 ·grind [zct,zas]
 ·rw [yv a,zdE] at b;simp only [zas] at b;simp only [zct.l1,zB a,if_true,zb a,ya,zfx (yp.1 hc _ (yi a)),zd (i:=i) (by omega),b]
 ·simp [zct.l1]
theorem zmS {n m} (hS:zt9 m) (hL:zbm m.ztB m.tables=true) (hn:1000000≤n):zci n m=some (boxM m):=by
 obtain ⟨l1,l2,l3,l4⟩:=zb5 hL;unfold zci;have:=zM (body:=zci.l1 n m) (len:=m.tables.length) (st:=λi=>(zW m.ztB true (m.tables.take i),(i:Int))) (g:=λ_=>some (boxM m)) (λrec i hi hr=>?_) (λrec=>?_) n 0 (yo _) (by omega)
 ·simpa [zW] using this
 ·obtain ⟨-,-,c1,c2,c3,c4⟩:=l4 _ (yi hi);have hlen:=zdL (sizes:=m.ztB) (s:=true) (l:=m.tables.take i) λx hx=>(l4 x (List.mem_of_mem_take hx)).2.2.2.2
  rw [zgg hi] at hr;obtain ⟨W,hW⟩:=y7 (show 0≤zas m.ztB m.tables[i].ztv 1 by omega);have hcell:=zkG (n:=n) (m:=m) (t:=m.tables[i]) c2 (by omega) hn;rw [hW] at hcell hr;simp only [zci.l1,jn,zB hi,zb hi,ya,zgi,zd (i:=i) (by omega)];by_cases hst:(m.tables[i].kind==0||m.tables[i].kind==1)=true
  ·have hst':(zb9 m.tables[i].kind==true)=true:=by grind [zb9]
   rw [if_pos hst];have inner:=zM (body:=zci.l2 n m (i:Int) (λv=>rec (v,((i+1:Nat):Int)))) (len:=W) (st:=λk=>(zW m.ztB true (m.tables.take i)++List.replicate k m.tables[i].range,(k:Int))) (g:=λ_=>some (boxM m)) (λrec' k hk hr'=>?_) (λrec'=>?_) n 0 (yo _) (by omega)
   ·simpa using inner
   ·simp only [zci.l2,zb hi,hcell,if_true,zd (i:=k) (by omega)]
    grind [zl,List.replicate_succ']
   ·simp only [zci.l2,zb hi];simp_all
  ·have hst':¬ (zb9 m.tables[i].kind==true)=true:=by grind [zb9]
   simp_all
 ·simp [zci.l1,boxM]
def zxJ (m:Model) (e:zt4) (s:List Int):Bool:=m.constraints.all (λc=>zav c s&&zav c (zt0 s e.delta))&&e.hold.all λr=>zav ⟨0,0,r,0,0⟩ s
structure zxQ (m:Model) (s:List Int):Prop where
 len:s.length=(boxM m).length
 small:∀ x∈s,-9999≤x∧x≤9999
theorem zrk {m} (hL:zbm m.ztB m.tables=true) {s} (h:zvV (boxM m) s=true):zxQ m s:=by
 have a:=zhH h;refine ⟨a,λx d=>?_⟩;obtain ⟨i,c,rfl⟩:=List.mem_iff_getElem.1 d;have b:i<(boxM m).length:=by omega
 have f:=zhG h i b c;have e:=yp.1 (zhu hL) _ (yi b)
 grind
theorem zml {m} (hV:zvh m) {a} (ha:a∈m.ztw):zfm a.effect.delta∧∀ r∈a.effect.hold,zul (boxM m).length r=true:=by
 have h:=(znf hV ha).1;simp only [effP,yd,yp] at h;obtain ⟨c,-⟩:=zg5 _ _ h.1;exact ⟨λx b=>by simp_all,h.2.2.2⟩
theorem znB {c s d size} (hk:c.kind=1) (hG:zxa c s size) (hch:∀ k ,k<size*size→zz d (c.first+(k:Int))≤0) (h:zav c s=true):zav c (zt0 s d)=true:=by
 unfold zav at h ⊢;rw [if_pos hk] at h ⊢;have f :=by have:=hG.sz;omega
 refine zif (λa b g i e=>?_) h;have l:a*size+b<size*size:=by
  have:=yN size (show a+1≤size by omega)
  grind
 have m:=hG.fits;have n:=hG.first
 have j:a*c.size=((a*size)):=by grind
 unfold zvf at e ⊢;rw [zgA (by omega) (by omega)] at e
 grind
theorem zk5 {p}:∀ {k i},¬ 0<(zb7 p i k).length→∀ j,i≤j→j<i+k→p (j:Int)=false
 | 0,i,_,j,b,c=>by omega
 | k+1,i,h,j,b,c=>by
  rw [zb7] at h;by_cases a:p i=true
  ·simp_all
  ·rw [if_neg a] at h;by_cases e:j=i
   ·simp_all
   ·exact zk5 h j (by omega) (by omega)

theorem zcg {γ S R:Type} {body} {k n} {st:List γ→Nat→S} (g) (fin:List γ→Option R) (B) (b0) (hB:∀ i,i<k→(g i).length≤B)
  (step:∀ rec (b) i,i<k→b.length≤b0.length+i*B→body rec (st b i)=rec (st (b++g i) (i+1))) (done:∀ rec (b),b.length≤b0.length+k*B→body rec (st b k)=fin b) (hn:k<n) :
  ztz body n (st b0 0)=fin (b0++(List.range k).flatMap g):=by
 have:=zbd (σ:=List γ) (body:=body) (len:=k) (st:=st) (g:=λi b=>fin (b++(List.range' i (k - i)).flatMap g)) (λi b=>b.length≤b0.length+i*B) (λrec i b d a c=>?_) (λrec b a=>?_) n 0 b0 (yo _) (by omega) (by simp)
 ·grind [List.range_eq_range']
 ·have:List.range' i (k - i)=i::List.range' (i+1) (k - (i+1)):=by rw [show k - i=(k - (i+1))+1 by omega,List.range'_succ]
  grind
 grind
theorem zdY {α γ S R:Type} {body} {l:List α} {n} {st:List γ→Nat→S} (h) (fin:List γ→Option R) (b0)
  (step:∀ rec (b) i (hi),b.length=b0.length+i→body rec (st b i)=rec (st (b++[h l[i]]) (i+1))) (done:∀ rec (b),b.length=b0.length+l.length→body rec (st b l.length)=fin b) (hn:l.length<n) :
  ztz body n (st b0 0)=fin (b0++l.map h):=by
 have:=zM (body:=body) (len:=l.length) (st:=λi=>st (b0++(l.take i).map h) i) (g:=λ_=>fin (b0++l.map h)) (λrec i hi a=>?_) (λrec=>?_) n 0 (yo _) (by omega)
 ·grind
 ·grind [List.take_succ_eq_append_getElem]
 grind
theorem zdt {σ S R:Type} {body} {k n} {st:σ→Nat→S} (I:Nat→σ→Prop) (Q:R→Prop) (hb:∀ rec i s,i<k→I i s→(∀ s',I (i+1) s'→∃ r,rec (st s' (i+1))=some r∧Q r)→∃ r,body rec (st s i)=some r∧Q r)
  (he:∀ rec s,I k s→∃ r,body rec (st s k)=some r∧Q r) (hn:k<n) (s0) (h0:I 0 s0):∃ r,ztz body n (st s0 0)=some r∧Q r:=by
 have b:∀ m i s,i≤k→k - i<m→I i s→∃ r,ztz body m (st s i)=some r∧Q r:=by
  intro m
  induction m with
  | zero=>grind
  | succ m ih=>
   intro i s d f c;simp only [ztz];by_cases e:i=k
   ·simp_all
   ·exact hb _ i s (by omega) c λs' a=>ih (i+1) s' (by omega) (by omega) a
 simp_all
theorem zll {n l x} (hl:l.length<1000000) (hn:1000000≤n):∃ k,zaq n l x=some k∧(decide (0≤k)=decide (x∈l)):=by
 have:=zM (body:=zaq.l1 n l x) (len:=l.length) (st:=λi=>i) (g:=λi=>some (ixP (λy=>decide (x=y)) (l.drop i) i)) (λa i b c=>?_) (λa=>?_) n 0 (yo _) (by omega)
 ·refine ⟨_,this,?_⟩;rw [List.drop_zero,zf2]
  grind
 ·simp only [zaq.l1,zb b]
  grind [zd,zm,ixP]
 ·simp only [zaq.l1];simp [ixP]
theorem zd5 {n l x} (hl:l.length<1000000) (hn:1000000≤n):zaF n l x=some (decide (x∈l)):=by
 obtain ⟨k,b,a⟩:=zll (x:=x) hl hn
 grind [zaF]
structure zuZ (g:zuy) (K:Nat):Prop where
 size:g.size=(K:Int)
 le:K≤6
 len:g.ztP.length=K*K
def hasP (g:zuy) (a b:Nat):Bool:=g.ztP.getD (a*g.size.toNat+b) false
theorem zex {K a b:Nat} (ha:a<K) (hb:b<K):a*K+b<K*K:=by
 have:(a+1)*K≤K*K:=yN _ ha
 grind
theorem zkX {n} {g} {K a b} (hg:zuZ g K) (ha:a<K) (hb:b<K):zaQ n g (a:Int) (b:Int)=some (hasP g a b):=by
 have d:=zex ha hb;have f :=ub hg.le hg.le;have e:ztu (ztG a g.size) b=((a*K+b:Nat)):=by
  rw [hg.size];have c:ztG a K=((a*K:Nat)):=by
   grind [ztG,zao]
  rw [c,zc2 (by omega)]
 unfold zaQ;rw [e,zb (by rw [hg.len];exact d),ya];simp only [hasP,hg.size]
 grind
def zvL (K:Nat) (l:List Int):Prop:=1≤l.length∧l.length≤K∧∀ x∈l,0≤x∧x<(K:Int)
theorem zvL.get {K l} (h:zvL K l) {i} (hi:i<l.length):∃ a:Nat,l[i]=(a:Int)∧a<K:=by
 obtain ⟨c,b⟩:=h.2.2 _ (yi hi);exact ⟨l[i].toNat,by omega,by omega⟩
theorem zhS:∀ {K:Nat} {l:List Int},l.Nodup→(∀ x∈l,0≤x∧x<(K:Int))→l.length≤K
 | 0,l,_,h=>by
  cases l with
  | nil=>simp
  | cons x l=>have:=h x (by simp);omega
 | K+1,l,a,h=>by
  by_cases c:(K:Int)∈l
  ·have d:=zhS (K:=K) (a.erase (K:Int)) λx b=>by
    grind
   grind
  ·have:=zhS (K:=K) a λx b=>by
    grind
   omega
theorem zqP {n} {g} {K} (hg:zuZ g K) (hn:1000000≤n):∀ (d k) (l) (out),l.Nodup→zvL K l→K - l.length=d→d<k→out.length≤1000000 - 7 ^ (d+1)→d≤5→(∀ c∈out,zvL K c) →
  ∃ r,zC n g k l out=some r∧r.length≤out.length+7 ^ (d+1)∧∀ c∈r,zvL K c:=by
 intro d
 induction d using Nat.strongRecOn with
 | ind d ih=>
  intro k l out hnd hv hd hk ho hd5 hc;obtain ⟨k,rfl⟩:∃ k',k=k'+1:=⟨k - 1,by omega⟩
  have hK:=hg.le;have hl1:=hv.1;have hl2:=hv.2.1;have hp:7≤7 ^ (d+1):=by grind
  have hp2:7 ^ (d+1)≤117649:=by
   have:7 ^ (d+1)≤7 ^ 6:=uq (by omega) (by omega)
   grind
  obtain ⟨last,hlast,hlK⟩:=hv.get (i:=l.length - 1) (by omega);obtain ⟨first,hfirst,hfK⟩:=hv.get (i:=0) (by omega);have e1:idx l (ztH (l.length:Int) 1)=some (last:Int):=by
   rw [zeD (by omega) (by omega),zb (by omega),hlast]
  have e2:idx l 0=some (first:Int):=by
   have:=zb (l:=l) (i:=0) (by omega)
   grind
  simp only [zC,e1,e2,ya,zkX hg hlK hfK];have loop:∀ out1:List (List Int),out1.length≤out.length+1→(∀ c∈out1,zvL K c)→∃ r,ztz (zC.l1 n g (zC n g k) l (last:Int)) n (ztu (first:Int) 1,out1)=some r∧r.length≤out.length+7 ^ (d+1)∧∀ c∈r,zvL K c:=by
   intro out1 ho1 hc1;rw [zd (by omega)];have:=zdt (body:=zC.l1 n g (zC n g k) l (last:Int)) (k:=K - (first+1)) (n:=n) (st:=λ(o:List (List Int)) i=>(((first+1+i:Nat):Int),o)) (λi o=>o.length≤out.length+1+i*7 ^ d∧∀ c∈o,zvL K c) (λr=>r.length≤out.length+7 ^ (d+1)∧∀ c∈r,zvL K c)
    (λrec i o hi hI hr=>?_) (λrec o hI=>?_) (by omega) out1 ⟨by simpa using ho1,hc1⟩
   ·simpa using this
   ·have hb:first+1+i<K:=by omega
    have hlt:decide (((first+1+i:Nat):Int)<g.size)=true:=by rw [hg.size];simp;omega
    have hnx:ztu ((first+1+i:Nat):Int) 1=((first+1+(i+1):Nat):Int):=by rw [zd (by omega)];rfl
    simp only [zC.l1,hlt,if_true,zkX hg hlK hb,ya,hnx];have keep:∃ r,rec (((first+1+(i+1):Nat):Int),o)=some r∧r.length≤out.length+7 ^ (d+1)∧∀ c∈r,zvL K c:=hr o ⟨by have:=hI.1;rw [uw];omega,hI.2⟩;by_cases hh:hasP g last (first+1+i)=true
    ·rw [if_pos hh,zd5 (by omega) hn,ya];by_cases hm:((first+1+i:Nat):Int)∈l
     ·rw [if_pos (by simpa using hm)];exact keep
     ·rw [if_neg (by simpa using hm),zl (by simp;omega),ya,yO,zl (by simp;omega),ya];have hnd2:(l++[((first+1+i:Nat):Int)]).Nodup:=by
       rw [uR];exact ⟨hnd,by simp,λa ha b hb e=>by simp at hb;subst hb;subst e;exact hm ha⟩
      have hall:∀ x∈l++[((first+1+i:Nat):Int)],0≤x∧x<(K:Int):=λx hx=>by
       rcases yu.1 hx with hx | hx
       ·exact hv.2.2 x hx
       ·simp at hx;subst hx;omega
      have hlen:=zhS hnd2 hall;simp only [yQ,yU,uj] at hlen;have hd1:1≤d:=by omega
      have hpow:7 ^ d≤7 ^ (d+1):=uq (by omega) (by omega);have h6:i*7 ^ d≤5*7 ^ d:=yN _ (by omega);have h7:7 ^ (d+1)=7*7 ^ d:=by rw [Nat.pow_succ];omega
      have hone:1≤7 ^ d:=Nat.one_le_pow _ _ (by omega);obtain ⟨r,hr1,hr2,hr3⟩:=ih (d - 1) (by omega) k (l++[((first+1+i:Nat):Int)]) o hnd2 ⟨by simp,by simpa using hlen,hall⟩ (by simp;omega) (by omega) (by rw [show d - 1+1=d by omega];have:=hI.1;omega) (by omega) hI.2;rw [show d - 1+1=d by omega] at hr2;rw [hr1,ya];exact hr r ⟨by have:=hI.1;rw [uw];omega,hr3⟩
    ·rw [if_neg hh];exact keep
   ·have hge:decide (((first+1+(K - (first+1)):Nat):Int)<g.size)=false:=by rw [hg.size];simp;omega
    simp only [zC.l1,hge,ye,if_false];have hone:1≤7 ^ d:=Nat.one_le_pow _ _ (by omega);have h7:7 ^ (d+1)=7*7 ^ d:=by rw [Nat.pow_succ];omega
    have h5:(K - (first+1))*7 ^ d≤5*7 ^ d:=yN _ (by omega);exact ⟨o,rfl,by have:=hI.1;omega,hI.2⟩
  by_cases hh:hasP g last first=true
  ·rw [if_pos hh,zl (by simp;omega),ya,yO,zl (by simp;omega),ya];exact loop _ (by simp) λc hc'=>by
    rcases yu.1 hc' with h | h
    ·exact hc c h
    ·simp at h;subst h;exact hv
  grind
theorem zo8 {n} {g} {K} (hg:zuZ g K) (hn:1000000≤n):∃ r,ztz (ztZ.l1 n g) n (0,[])=some r∧r.length≤900000∧∀ c∈r,zvL K c:=by
 have p:=hg.le;have:=zdt (body:=ztZ.l1 n g) (k:=K) (n:=n) (st:=λo i=>(i,o)) (λi o=>o.length≤i*117649∧∀ c∈o,zvL K c) (λr=>r.length≤900000∧∀ c∈r,zvL K c)
  (λa i o l b m=>?_) (λa o b=>?_) (by omega) [] ⟨by simp,by simp⟩
 ·grind
 ·have f:decide (i<g.size)=true:=by rw [hg.size];grind
  have q:7 ^ (K - 1+1)≤117649:=by
   have:7 ^ (K - 1+1)≤7 ^ 6:=uq (by omega) (by omega)
   grind
  obtain ⟨r,h,e,j⟩:=zqP hg hn (K - 1) n [i] o (by simp) ⟨by simp,by grind,by grind⟩ (by simp) (by omega) (by grind) (by omega) b.2;simp only [ztZ.l1];rw [zd (by omega)]
  grind
 ·have d:decide (K<g.size)=false:=by rw [hg.size];simp
  simp only [ztZ.l1]
  grind
def lexP:List Int→List Int→Int
 | [],[]=>0
 | [],_::_=>-1
 | _::_,[]=>1
 | a::l,b::m=>if a<b then -1 else if b<a then 1 else lexP l m
theorem zp9:∀ (a b:List Int),lexP b a = -lexP a b
 | [],[]=>rfl
 | [],_::_=>rfl
 | _::_,[]=>rfl
 | a::l,b::m=>by
  have:=zp9 l m;simp only [lexP];split <;> split <;> omega
theorem zoq:∀ {a b:List Int},lexP a b=0→a=b
 | [],[],_=>rfl
 | [],_::_,h=>by simp [lexP] at h
 | _::_,[],h=>by simp [lexP] at h
 | a::l,b::m,h=>by
  simp only [lexP] at h;split at h
  ·omega
  ·split at h
   ·omega
   ·rw [zoq h,show a=b by omega]
theorem zmD:∀ {a b c:List Int},lexP a b<0→lexP b c<0→lexP a c<0
 | [],[],c,h,_=>by simp [lexP] at h
 | [],_::_,[],_,h=>by simp [lexP] at h
 | [],_::_,_::_,_,_=>by simp [lexP]
 | _::_,[],_,h,_=>by simp [lexP] at h
 | _::_,_::_,[],_,h=>by simp [lexP] at h
 | a::l,b::m,c::k,h1,h2=>by
  simp only [lexP] at *;have ih:=@zmD l m k;by_cases e1:a<b
  ·by_cases e2:b<c
   ·rw [if_pos (by omega)];omega
   ·by_cases e3:c<b
    ·rw [if_neg e2,if_pos e3] at h2;omega
    ·rw [if_pos (by omega)];omega
  ·by_cases e1':b<a
   ·rw [if_neg e1,if_pos e1'] at h1;omega
   ·rw [if_neg e1,if_neg e1'] at h1;by_cases e2:b<c
    ·rw [if_pos (by omega)];omega
    ·by_cases e3:c<b
     ·rw [if_neg e2,if_pos e3] at h2;omega
     ·rw [if_neg e2,if_neg e3] at h2;rw [if_neg (by omega),if_neg (by omega)];exact ih h1 h2
def cmpI (a b:Int):Int:=if a<b then -1 else if b<a then 1 else 0
def cmpC (a b:List Int):Int:=if cmpI a.length b.length≠0 then cmpI a.length b.length else lexP a b
theorem zfu (a b):cmpC b a = -cmpC a b:=by
 have:=zp9 a b;unfold cmpC cmpI;split <;> split <;> (try split) <;> (try split) <;> simp_all <;> omega
theorem zjL {a b} (h:cmpC a b=0):a=b:=by
 unfold cmpC at h;split at h
 ·rename_i hne;exact absurd h hne
 ·exact zoq h
theorem zii {a b c} (h1:cmpC a b<0) (h2:cmpC b c<0):cmpC a c<0:=by
 have k:∀ (x y:List Int),cmpC x y<0↔(x.length<y.length∨(x.length=y.length∧lexP x y<0)):=by
  intro x y;unfold cmpC cmpI;by_cases e:(x.length:Int)<y.length
  ·simp [e];omega
  ·by_cases e2:(y.length:Int)<x.length
   ·simp [e,e2];omega
   ·simp [e,e2];omega
 rw [k] at *;rcases h1 with h1 | ⟨h1,h1'⟩ <;> rcases h2 with h2 | ⟨h2,h2'⟩
 ·left;omega
 ·left;omega
 ·left;omega
 ·exact .inr ⟨by omega,zmD h1' h2'⟩
theorem zjK {a b c} (h1:¬ cmpC a b<0) (h2:¬ cmpC b c<0):¬ cmpC a c<0:=by
 intro h;have n1:=zfu a b;have n2:=zfu b c;by_cases e1:cmpC a b=0
 ·rw [zjL e1] at h;exact h2 h
 ·by_cases e2:cmpC b c=0
  ·rw [← zjL e2] at h;exact h1 h
  ·have:=zii (a:=c) (b:=b) (c:=a) (by omega) (by omega);have n3:=zfu a c;omega
theorem zgJ {n} (a b):zcd n a b=some (cmpI a b):=by
 unfold zcd zdp cmpI;simp;split <;> (try split) <;> rfl
theorem zme {n a b} (ha:a.length<1000000) (hn:1000000≤n):zq n a b=some (lexP a b):=by
 unfold zq;have:=zbd (σ:=Unit) (body:=zq.l1 n a b) (len:=a.length) (st:=λ_ i=>(i:Int)) (g:=λi _=>some (lexP (a.drop i) (b.drop i))) (λi _=>i≤b.length) (λrec i s hi hI hr=>?_) (λrec s hI=>?_) n 0 () (yo _) (by omega) (yo _)
 ·simpa using this
 ·simp only [zq.l1,zB hi,if_true,zb hi,ya];by_cases hb:b.length≤i
  ·have e:b.drop i=[]:=List.drop_eq_nil_of_le hb;rw [if_pos (by simp;omega),e,zm hi];rfl
  ·rw [if_neg (by simp;omega),zb (show i<b.length by omega),ya,zgJ,ya,zd (by omega),hr () (by omega),zm hi,zm (show i<b.length by omega)];simp only [lexP,cmpI];split
   ·simp
   ·split
    ·simp
    ·simp
 ·simp only [zq.l1,zaw,ye,if_false];rw [List.drop_length];by_cases hb:a.length<b.length
  ·rw [if_pos (by simp;omega),zm hb];rfl
  ·rw [if_neg (by simp;omega),List.drop_eq_nil_of_le (by omega)];rfl
theorem Or_eq {n} (x y) (hn:1000000≤n):zcR n [x,y]=some (if x≠0 then x else y):=by
 unfold zcR;rw [zeZ (by omega)];have e0:idx [x,y] 0=some x:=rfl;have e1:idx [x,y] 1=some y:=rfl;simp only [zcR.l1,e0,ya,yU,uj];rw [if_pos (by simp)];by_cases hx:x=0
 ·rw [if_neg (by simp [hx]),show ztu 0 1=1 from rfl,zeZ (by omega)];simp only [zcR.l1,e1,ya,yU,uj];rw [if_pos (by simp)];by_cases hy:y=0
  ·rw [if_neg (by simp [hy]),show ztu 1 1=2 from rfl,zeZ (by omega)];simp [zcR.l1,hx,hy]
  ·rw [if_pos (by simp [hy])];simp [hx]
 ·rw [if_pos (by simp [hx])];simp [hx]
theorem zij {n a b} (ha:a.length<1000000) (hn:1000000≤n):zce n a b=some (cmpC a b):=by
 unfold zce;rw [zgJ,ya,zme ha hn,ya,Or_eq _ _ hn];rfl
theorem zoK {α:Type} {f:α→α→Option Int} {c:α→α→Int} {l:List α} (h1:∀ x∈l,∀ y∈l,f x y=some (c x y)) (irr:∀ x,¬ c x x<0) (tr:∀ x y z,c x y<0→c y z<0→c x z<0) (nt:∀ x y z,¬ c x y<0→¬ c y z<0→¬ c x z<0) (hl:l.length<4611686018427387904) :
  zxq f l=some (zwt (λx y=>(f x y).getD 0) l)∧swoB (λx y=>(f x y).getD 0) l=true:=by
 have hs:swoB (λx y=>(f x y).getD 0) l=true:=by
  unfold swoB;rw [yp];intro x hx;rw [yd,yp];refine ⟨by simpa [h1 x hx x hx] using irr x,λy hy=>?_⟩;rw [yp];intro z hz;simp only [h1 x hx y hy,h1 y hy z hz,h1 x hx z hz,yj,yd,yI,yC,uB,yf,yL];have a1:=tr x y z;have a2:=nt x y z;constructor
  ·by_cases p:c x y<0
   ·by_cases q:c y z<0
    ·exact .inr (a1 p q)
    ·exact .inl (.inr q)
   ·exact .inl (.inl p)
  ·by_cases p:c x y<0
   ·exact .inl (.inl p)
   ·by_cases q:c y z<0
    ·exact .inl (.inr q)
    ·exact .inr (a2 p q)
 refine ⟨?_,hs⟩;unfold zxq;rw [if_pos];simp only [yd,yp,yf];exact ⟨⟨λx hx y hy=>by rw [h1 x hx y hy];rfl,hs⟩,hl⟩
theorem zkL {n:Nat} {size:Int} {ztP:List Bool} {K:Nat} (hs:size=(K:Int)) (h1:1≤K) (h6:K≤6) (hl:ztP.length=K*K) (hn:1000000≤n):∃ r,zbp n size ztP=some r∧r.length≤900000∧∀ c∈r,zvL K c:=by
 have hg:zuZ ⟨size,ztP⟩ K:=⟨hs,h6,hl⟩
 obtain ⟨out,ho,hol,hov⟩:=zo8 hg hn;have h4:K*K≤36:=ub h6 h6;have e:ztG size size=((K*K:Nat):Int):=by
  rw [hs];unfold ztG;rw [zao (by rw [← uF];omega) (by rw [← uF];omega)];simp
 have hopen:zbV n size ztP=some (⟨size,ztP⟩,true):=by
  unfold zbV;rw [e,hl];simp [hs];omega
 unfold zbp;rw [hopen,ya,if_neg (by simp),ho,ya];obtain ⟨s1,s2⟩:=zoK (f:=zce n) (c:=cmpC) (l:=out) (λx hx y _=>zij (by have:=(hov x hx).2.1;omega) hn) (λx=>by have:=zfu x x;omega) (λ_ _ _=>zii) (λ_ _ _=>zjK) (by omega);have hp:=ziE s2;exact ⟨_,s1,by rw [hp.length_eq];exact hol,λc hc=>hov c (hp.mem_iff.1 hc)⟩
theorem zcp {x y} (h1 : -9223372036854775808≤x+y) (h2:x+y≤9223372036854775807):ztu x y=x+y:=zao h1 h2
theorem zgx {x y} (h1 : -9223372036854775808≤x*y) (h2:x*y≤9223372036854775807):ztG x y=x*y:=zao h1 h2
theorem zjy {x y} (h1 : -9223372036854775808≤x - y) (h2:x - y≤9223372036854775807):ztH x y=x - y:=zao h1 h2
def zfQ (r:List (List Row)):Prop:=r.length≤900000∧∀ rows∈r,rows.length≤6∧∀ row∈rows,row.zty.length≤1
theorem zjG {n c e f} (k) (he:e.effect.delta.length≤20) (hf:f.effect.delta.length≤20) (hn:1000000≤n):∃ r,zaO n k e c f=some r:=by
 unfold zaO;rw [zag _ (by omega) (by omega),ya,zag _ (by omega) (by omega),ya];simp_all
theorem zo3 {n c e f K cyc b1 k} {Q:List (List Row)→Prop} (hv:zvL K cyc) (h6:K≤6) (he:e.effect.delta.length≤20) (hf:f.effect.delta.length≤20) (hn:1000000≤n) (hb:b1.length≤900000)
  (hk:∀ b ,b.length≤b1.length+1→(∀ rows∈b,rows∈b1∨(rows.length≤6∧∀ row∈rows,row.zty.length≤1))→∃ r,k b=some r∧Q r):∃ r,ztz (zk.l3 n c e f b1 k cyc) n (([]:List Row),false,false,0)=some r∧Q r:=by
 have u:=hv.2.1;have:=zdt (body:=zk.l3 n c e f b1 k cyc) (k:=cyc.length) (n:=n) (st:=λs i=>(s.1,s.2.1,s.2.2,i)) (λi s=>s.1.length≤i∧∀ row∈s.1,row.zty.length≤1) Q
  (λg i s l t p=>?_) (λg s t=>?_) (by omega) ([],false,false) ⟨by simp,by simp⟩
 ·simp_all
 ·obtain ⟨o,x,y⟩:=s;have a:∃ r:Nat,zuV (ztu i 1) cyc.length=some (r:Int)∧r<cyc.length:=by
   rw [zd (by omega)];refine ⟨(i+1) % cyc.length,?_,Nat.mod_lt _ (by omega)⟩;unfold zuV
   grind
  obtain ⟨r,h,j⟩:=a;simp only [zk.l3,zB l,zb l,ya,h,zb j];rw [zag _ (by omega) (by omega),zag _ (by omega) (by omega)];simp only [yr,yB];obtain ⟨z,q⟩:=zjG (n:=n) (c:=c) (e:=e) (f:=f) (ztu (ztG cyc[i] c.size) cyc[r]) he hf hn;rw [q,ya,zl (by grind),ya,zd (by omega)];exact p (_,_,_) ⟨by simp_all,λrow m=>by
   grind⟩
 ·obtain ⟨o,x,y⟩:=s;simp only [zk.l3,zaw,ye,if_false];split
  ·rw [zl (by grind),ya];exact hk _ (by simp) λrows d=>by
    grind
  simp_all
theorem zsB {α} {l} {i:Nat} {x:α} (h:i<l.length):∃ r,sto l (i:Int) x=some r∧r.length=l.length:=by
 grind [sto]
theorem zmp {n} {box} {c e f} {K:Nat} (hs:c.size=(K:Int)) (h1:1≤K) (h6:K≤6) (h0:0≤c.first) (hbx:c.first+((K*K:Nat):Int)≤(box.length:Int)) (hbl:box.length≤1000) (he:e.effect.delta.length≤20) (hf:f.effect.delta.length≤20) (hn:1000000≤n) :
  ∃ r,zk n box c e f=some r∧zfQ r:=by
 have em:ztG c.size c.size=((K*K:Nat)):=by
  grind [zgx]
 have hmk:mkl 1 (ztG c.size c.size) false=some (List.replicate (K*K) false):=by
  rw [em];unfold mkl;rw [if_pos (by omega),yt]
 unfold zk;have:=zdt (body:=zk.l1 n box c e f (List.replicate (K*K) false)) (k:=K*K) (n:=n) (st:=λs i=>(s,i)) (λi s=>s.length=K*K) zfQ
  (λrec i s hi hI hr=>?_) (λrec s hI=>?_) (by omega) (List.replicate (K*K) false) (by simp)
 ·simp_all
 ·have hlt:decide (i<((List.replicate (K*K) false).length))=true:=by grind
  obtain ⟨z,hz⟩:=zjG (n:=n) (c:=c) (e:=e) (f:=f) i he hf hn;obtain ⟨w,hw⟩:=za6 (l:=box) (i:=ztu c.first i) (by grind [zcp]) (by grind [zcp]);obtain ⟨s',hs1,hs2⟩:=zsB (l:=s) (i:=i) (x:=decide (1≤ztu w.hi z)) (by omega);simp only [zk.l1,zb (show i<s.length by omega)]
  grind [zd]
 ·have hge:decide (((K*K:Nat))<((List.replicate (K*K) false).length:Int))=false:=by simp
  simp only [zk.l1];obtain ⟨cyc,hc1,hc2,hc3⟩:=zkL (n:=n) (size:=c.size) (ztP:=s) hs h1 h6 hI hn;have:=zdt (body:=zk.l2 n c e f cyc) (k:=cyc.length) (n:=n) (st:=λ(s:List (List Row)) i=>(s,(i:Int))) (λi s=>s.length≤i∧∀ rows∈s,rows.length≤6∧∀ row∈rows,row.zty.length≤1) zfQ
   (λrec i s hi hI hr=>?_) (λrec s hI=>?_) (by omega) [] ⟨by simp,by simp⟩
  ·simp_all
  ·simp only [zk.l2,zB hi,zb hi];refine zo3 (K:=K) (hc3 _ (yi hi)) h6 he hf hn (by grind) λb hb hbr=>?_
   grind [zd]
  ·simp only [zk.l2,zaw];exact ⟨s,rfl,by grind,hI.2⟩
theorem zpR {n K:Nat} {r} (hl:r.zty.length<1000000) (hn:1000000≤n):zaD n (K:Int) r=some (zul K r):=by
 have:=zbd (body:=zaD.l1 n K r) (len:=r.zty.length) (st:=λs i=>(s,i)) (g:=λi s=>some (rowP K s (r.zty.drop i)&&zaT r.bound 1000000000)) (λ_ _=>True) (λb i s a _ c=>?_) (λb s _=>?_) n 0 (-1) (yo _) (by omega) trivial
 ·grind [zaD,zul]
 ·simp only [zaD.l1,zB a,if_true,zb a,ya,zd (i:=i) (by omega)];rw [zm a,rowP];by_cases h:(decide (s<r.zty[i].cell)&&decide (r.zty[i].cell<K)&&(r.zty[i].ztE != 0)&&zaT r.zty[i].ztE 1000)=true
  ·rw [h,yD];simp only [zaT] at h
   grind
  ·rw [if_pos (by
    simp only [zaT] at h
    grind)]
   grind
 ·simp [zaD.l1,zaT,rowP]
theorem zmR {n K:Nat} {r} (hl:r.zty.length<1000000) (hn:1000000≤n):zd3 n r (K:Int)=some (zul K r):=by
 have:=zbd (body:=zd3.l1 n r K) (len:=r.zty.length) (st:=λs i=>(s,i)) (g:=λi s=>some (rowP K s (r.zty.drop i)&&zaT r.bound 1000000000)) (λ_ _=>True) (λb i s a _ c=>?_) (λb s _=>?_) n 0 (-1) (yo _) (by omega) trivial
 ·grind [zd3,zul]
 ·simp only [zd3.l1,zB a,if_true,zb a,ya,zb0,yr,yB,grd,zd (i:=i) (by omega)];rw [zm a,rowP];by_cases h:(decide (s<r.zty[i].cell)&&decide (r.zty[i].cell<K)&&(r.zty[i].ztE != 0)&&zaT r.zty[i].ztE 1000)=true
  ·rw [h,yD];simp only [zaT] at h
   grind
  ·rw [if_pos (by
    simp only [zaT] at h
    grind)]
   grind
 ·simp [zd3.l1,zb0,zaT,rowP]
def zm9 (R:List Row):Prop:=R.length<1000000∧∀ r∈R,r.zty.length<1000000
theorem zgV {n} {box} {R} (hg:zwM box=true) (hl:box.length≤100) (hR:zm9 R) (hn:1000000≤n):zaL n box R=some (R.all (zul box.length)):=by
 unfold zaL;have:=zM (body:=zaL.l1 n box R) (len:=box.length) (st:=λi=>i) (g:=λ_=>some (R.all (zul box.length))) (λa i hi c=>?_) (λa=>?_) n 0 (yo _) (by omega)
 ·grind
 ·have:=yp.1 hg _ (yi hi);have d:(decide (-1000000≤box[i].lo)&&decide (box[i].lo≤1000000))=true:=by grind
  have e:(decide (-1000000≤box[i].hi)&&decide (box[i].hi≤1000000))=true:=by grind
  simp only [zaL.l1,zB hi,if_true,zb hi,ya,zb0,d,e,yr,yB,grd,yj,uo,Bool.or_self,ye,if_false,zd (i:=i) (by omega),c]
 ·simp only [zaL.l1];have b:=hR.1;have:=zat (body:=zaL.l2 n box R) (l:=R) (n:=n) (st:=λi=>i) (zul box.length) (some false) (some true) (λa i hi=>?_) (λa=>?_) (by omega)
  ·grind
  ·simp only [zaL.l2,zb hi,ya,zmR (hR.2 _ (yi hi)) hn,zd (i:=i) (by omega)]
   grind
  ·simp [zaL.l2]
theorem zkH {n box} (hg:zwM box=true) (hl:box.length≤100) (hn:1000000≤n):zcu n box=some false:=by
 unfold zcu;have:=zM (body:=zcu.l1 n box) (len:=box.length) (st:=λi=>i) (g:=λ_=>some false) (λb i a c=>?_) (λb=>?_) n 0 (yo _) (by omega)
 ·grind
 ·have:=yp.1 hg _ (yi a);simp only [zcu.l1,zB a,if_true,zb a,ya];rw [if_neg (by grind),zd (by omega),c]
 ·simp [zcu.l1]
theorem zg0 {n l f p} (hf:∀ x∈l,f x=some (p x)) (hl:l.length<1000000) (hn:1000000≤n):zan n l f=some (l.any p):=by
 unfold zan zi;have:=zM (body:=zi.l1 n l f) (len:=l.length) (st:=λi=>i) (g:=λi=>some (ixP p (l.drop i) i)) (λa i b c=>?_) (λa=>?_) n 0 (yo _) (by omega)
 ·rw [show ((0))=0 from rfl] at this
  grind [zf2]
 ·simp only [zi.l1,if_true,zb b,zd (i:=i) (by omega)]
  grind [zm,ixP]
 ·simp [zi.l1,ixP]
theorem zfR {n l f p} (hf:∀ x∈l,f x=some (p x)) (hl:l.length<1000000) (hn:1000000≤n):zaY n l f=some (l.any p):=by
 unfold zaY zX;have:=zM (body:=zX.l1 n l f) (len:=l.length) (st:=λi=>i) (g:=λi=>some (ixP p (l.drop i) i)) (λa i b c=>?_) (λa=>?_) n 0 (yo _) (by omega)
 ·grind [zf2]
 ·simp only [zX.l1,zb b,zd (i:=i) (by omega)]
  grind [zm,ixP]
 ·simp [zX.l1,ixP]
theorem zfe {n box R} (hg:zwM box=true) (hl:box.length≤100) (hR:zm9 R) (hn:1000000≤n):za8 n box R=some (R.all (zul box.length)):=by
 have f:zaG n box=some true:=by
  unfold zaG;have:=zM (body:=zaG.l1 n box) (len:=box.length) (st:=λi=>i) (g:=λ_=>some true) (λb i a e=>?_) (λb=>?_) n 0 (yo _) (by omega)
  ·grind
  ·have:=yp.1 hg _ (yi a);simp only [zaG.l1,zB a,if_true,zb a,ya];rw [if_neg (by grind),zd (by omega),e]
  grind [zaG.l1]
 have h:zo n R (λd=>zbz n d box)=some (R.any λr=>!zul box.length r):=zcC (λx c=>by
  unfold zbz;rw [zpR (hR.2 x c) hn];rfl) hR.1 hn
 grind [za8,grd]
theorem ziv {n box} (hg:zwM box=true) (hl:box.length≤100) (hn:1000000≤n):zb4 n box=some false:=by
 unfold zb4;rw [zg0 (f:=λb=>zc3 n b) (p:=λr=>decide (r.hi<r.lo)) (λx _=>rfl) (by omega) hn,ya];congr 1;rw [List.any_eq_false];intro r a;have:=yp.1 hg _ a
 grind
def zf3 (x:Int):Bool:=decide (x < -4000000)||decide (4000000<x)
def ziX (K:Nat) (g:ztR):Bool:=(((decide (g.size<1)||decide (6<g.size))||decide (g.first<0))||decide (ztH (K:Int) (ztG g.size g.size)<g.first))||((g.least.length:Int) != ztG g.size g.size)
def zeK (K:Nat) (g:ztR):Bool:=!ziX K g&&!g.least.any zf3
def zwI (K:Nat) (rows:List Row):Bool:=decide (rows.length≤64)&&rows.all (zul K)
def sysP (K:Nat) (R:List Row) (G:List ztR) (cs:List (List Row)):Bool:=(decide (R.length≤1024)&&R.all (zul K)&&decide (G.length≤64)&&decide (cs.length≤1024))&&(G.all (zeK K)&&cs.all (zwI K))
structure SysOK (R:List Row) (G:List ztR) (cs:List (List Row)):Prop where
 rows:zm9 R
 ztA:G.length<1000000∧∀ g∈G,g.least.length<1000000
 cases:cs.length<1000000∧∀ rows∈cs,zm9 rows
theorem zkq {n K:Nat} {g} (hl:g.least.length<1000000) (hn:1000000≤n):zeV n (K:Int) g=some (zeK K g):=by
 unfold zeV zeK;by_cases h:ziX K g=true
 ·grind [ziX]
 ·have a:=h;unfold ziX at a;rw [if_neg a,zbj (f:=λb=>ze6 n b) (p:=zf3) (λx _=>rfl) (by omega) (by omega),ya]
  grind
theorem zeE {n} {box} {R} {G} {cs} (hg:zwM box=true) (hl:box.length≤100) (hS:SysOK R G cs) (hn:1000000≤n):zaj n ⟨box,R,G,cs⟩=some (sysP box.length R G cs):=by
 unfold zaj;have hrows:∀ (rows:List Row) (k:Int),zm9 rows→zdM n ⟨box,R,G,cs⟩ rows k=some (decide (rows.length≤k)&&rows.all (zul box.length)):=λrows k hr=>by
  unfold zdM;simp only [zfe hg hl hr hn,yr,yB,grd,if_true,yj]
 have hbox:za8 n box []=some true:=by rw [zfe hg hl ⟨by simp,by simp⟩ hn];rfl
 simp only [ziv hg hl hn,hrows R 1024 hS.rows,grd];have hloop:ztz (zaj.l1 n ⟨box,R,G,cs⟩) n 0=some (G.all (zeK box.length)&&cs.all (zwI box.length)):=by
  have:=zat (body:=zaj.l1 n ⟨box,R,G,cs⟩) (l:=G) (n:=n) (st:=λi=>i) (zeK box.length) (some false) (some (cs.all (zwI box.length))) (λrec i hi=>?_) (λrec=>?_) (by have:=hS.ztA.1;omega)
  ·grind
  ·simp only [zaj.l1,zb hi,ya,zkq (hS.ztA.2 _ (yi hi)) hn,zd (show i<4611686018427387904 by have:=hS.ztA.1;omega)]
   grind
  ·simp only [zaj.l1];rw [zfR (p:=λrows=>!zwI box.length rows) (λx hx=>by
    unfold ze5;rw [hrows x 64 (hS.cases.2 x hx),ya];congr 2;unfold zwI
    grind) hS.cases.1 hn,ya]
   grind
 have e1:decide (R.length≤1024)=decide (R.length≤1024):=decide_eq_decide.2 (by omega);have e2:decide (64<(G.length:Int)) = !decide (G.length≤64):=by grind
 have e3:decide (1024<(cs.length:Int)) = !decide (cs.length≤1024):=by grind
 unfold sysP
 grind
theorem zgW {n box R G cs} (hg:zwM box=true) (hl:box.length≤100) (hS:SysOK R G cs) (hn:1000000≤n):zad n ⟨box,R,G,cs⟩=some (sysP box.length R G cs):=by
 unfold zad;simp only [zgV hg hl hS.rows hn,zkH hg hl hn,grd];have hgr:∀ i (rec:Int→Option Bool) (hi:i<G.length),zad.l2 n ⟨box,R,G,cs⟩ rec (i:Int)=if zeK box.length G[i]=true then rec ((i+1:Nat):Int) else some false:=λi rec hi=>by
  have hgl:=hS.ztA.2 _ (yi hi);have h3:=zat (body:=zad.l3 n (i:Int) rec G[i]) (l:=G[i].least) (n:=n) (st:=λj=>(j:Int)) (λx=>!zf3 x) (some false) (rec (ztu (i:Int) 1)) (λrec' j hj=>?_) (λrec'=>?_) (by omega)
  ·rw [show ((0:Nat):Int)=0 from rfl] at h3;simp only [zad.l2,zB hi,if_true,zb hi,ya,h3,zd (show i<4611686018427387904 by have:=hS.ztA.1;omega)];by_cases h:ziX box.length G[i]=true
   ·have h':=h;unfold ziX at h';rw [if_pos h',if_neg (by grind [zeK])]
   ·have h':=h;unfold ziX at h';rw [if_neg h'];have e:zeK box.length G[i]=G[i].least.all λx=>!zf3 x:=by
     unfold zeK
     grind
    rw [e]
  ·simp only [zad.l3,zb hj,grd,zd (i:=j) (by omega)];by_cases h:zf3 G[i].least[j]=true
   ·have h':=h;unfold zf3 at h';simp_all
   ·have h':=h;unfold zf3 at h'
    grind
  ·simp [zad.l3]
 have hloop:ztz (zad.l1 n ⟨box,R,G,cs⟩) n 0=some (G.all (zeK box.length)&&cs.all (zwI box.length)):=by
  have:=zat (body:=zad.l1 n ⟨box,R,G,cs⟩) (l:=cs) (n:=n) (st:=λi=>(i:Int)) (zwI box.length) (some false) (some (G.all (zeK box.length))) (λrec i hi=>?_) (λrec=>?_) (by have:=hS.cases.1;omega)
  ·grind
  ·simp only [zad.l1,zb hi,zgV hg hl (hS.cases.2 _ (yi hi)) hn,grd,yj,zd (show i<4611686018427387904 by have:=hS.cases.1;omega)];unfold zwI
   grind
  ·simp only [zad.l1,zaw,ye,if_false];have:=zat (body:=zad.l2 n ⟨box,R,G,cs⟩) (l:=G) (n:=n) (st:=λi=>(i:Int)) (zeK box.length) (some false) (some true) (λrec i hi=>hgr i rec hi) (λrec=>?_) (by have:=hS.ztA.1;omega)
   ·grind
   ·simp [zad.l2]
 grind [sysP,decide,zul]
theorem zej {n} {r} {f g} {fP:Int→Int} {B} (hf:∀ x,f x=some (fP x)) (hg:g r.bound=some B) (hl:r.zty.length≤1000) (hn:1000000≤n):zU n r f g=some ⟨r.zty.map λt=>⟨t.cell,fP t.ztE⟩,B⟩:=by
 unfold zU;have:=zdY (body:=zU.l1 n r f B) (l:=r.zty) (n:=n) (st:=λb i=>(b,i)) (λt=>(⟨t.cell,fP t.ztE⟩)) (λb=>some (⟨b,B⟩)) [] (λa b i d c=>?_) (λa b c=>?_) (by omega)
 ·grind
 ·simp only [zU.l1,zb d]
  grind [zl,zd]
 ·simp [zU.l1]
theorem zqB {n} {r} (hl:r.zty.length≤1000) (hn:1000000≤n):zU n r (λq0=>zbo n q0) (λq0=>zbo n q0)=some r:=by
 rw [zej (f:=λq0=>zbo n q0) (g:=λq0=>zbo n q0) (fP:=id) (B:=r.bound) (λ_=>rfl) rfl hl hn];simp
theorem zp0 {n K:Nat} {c} {f} (hK:ztG c.size c.size=(K:Int)) (hK2:K≤36) (hf:∀ x,∃ y,f x=some y) (hn:1000000≤n):∃ g,zG n c f=some g∧g.least.length≤36:=by
 unfold zG;have:=zdt (body:=zG.l1 n c f) (k:=K) (n:=n) (st:=λb i=>(b,i)) (λi b=>b.length≤i) (λg =>g.least.length≤36) (λa i b h e j=>?_) (λa b e=>?_) (by omega) [] (by simp)
 ·grind
 ·obtain ⟨y,d⟩:=hf (ztu c.first i);simp only [zG.l1,d,ya];rw [zl (by grind),ya,zd (by omega)];simp_all
 ·simp only [zG.l1,hK]
  grind
structure zve (K:Nat) (c:Constraint):Prop where
 kind:c.kind=0∨c.kind=1
 len:c.row.zty.length≤1000
 sz:c.kind=1→∃ s:Nat,c.size=(s:Int)∧1≤s∧s≤6∧0≤c.first∧c.first+((s*s:Nat):Int)≤(K:Int)
theorem zve.mul {K c} (h:zve K c) (hk:c.kind=1):∃ k:Nat,ztG c.size c.size=(k:Int)∧k≤36:=by
 obtain ⟨s,d,e,a,-⟩:=h.sz hk;have b :=ub a a;refine ⟨s*s,?_,b⟩
 grind [zgx]
structure zuC (a:Action):Prop where
 delta:a.effect.delta.length≤20
 hold:a.effect.hold.length≤10
 zty:∀ r∈a.effect.hold,r.zty.length≤1000
theorem zgB {n K a c} (ha:zuC a) (hc:zve K c) (hk:c.kind=1) (hn:1000000≤n):∃ l,zA n a c=some l:=by
 obtain ⟨k,b,d⟩:=hc.mul hk;have:=ha.delta;exact ⟨_,zdd b (by omega) (by omega) (by omega) (by omega)⟩
theorem zgu {n a r} (ha:zuC a) (hr:r.zty.length≤1000) (hn:1000000≤n):∃ x,zH n a r=some x:=by
 have:=ha.delta;exact ⟨_,zcq (by omega) (by omega) (by omega) (by omega)⟩
noncomputable def gr (n:Nat) (c:Constraint) (f:Int→Option Int):ztR:=(zG n c f).getD default
noncomputable def gS (n:Nat) (ef:Bool) (a b:Action) (c:Constraint):List ztR:=
 if (c.kind != 1)=true then [] else
  [gr n c λq0=>zaV n q0]++((if (decide (0<(((zA n a c).getD []).length:Int)))=true then [gr n c λq0=>zQ n q0 a] else []) ++
   (if (ef&&decide (0<(((zA n b c).getD default).length:Int)))=true then [gr n c λq0=>zac n q0 b] else []))
noncomputable def finS (n:Nat) (box:List Range) (a b:Action) (R:List Row) (c:Constraint) (G:List ztR):Option (System×Int):=
  jn (λ(v:(List Row)×(List (List Row)))=>
   let b6_150:=v.1
   let c3_3_151:=v.2
   (zaj n (⟨box,b6_150,G,c3_3_151⟩:System)).bind λx267_155=>
   if (!x267_155)=true then
    some ((⟨[],[],[],[]⟩:System),8)
   else
    some ((⟨box,b6_150,G,c3_3_151⟩:System),0)) λk_152=>
  if (c.kind==1)=true then
   (zk n box c a b).bind λx254_153=>
   if ((x254_153.length:Int)==0)=true then
    (app 32 R [(⟨[],(-1)⟩:Row)]).bind λx264_154=>
    k_152 (x264_154,x254_153)
   else
    k_152 (R,x254_153)
  else
   k_152 (R,[])
theorem zdV {n K} {c} {f} (hc:zve K c) (hk:c.kind=1) (hf:∀ x,∃ y,f x=some y) (hn:1000000≤n):zG n c f=some (gr n c f)∧(gr n c f).least.length≤36:=by
 obtain ⟨k,b,a⟩:=hc.mul hk;obtain ⟨g,e,d⟩:=zp0 b a hf hn;unfold gr
 grind
theorem zoc {n K ef a b c} (ha:zuC a) (hb:zuC b) (hc:zve K c) (hn:1000000≤n):(gS n ef a b c).length≤3∧∀ g∈gS n ef a b c,g.least.length≤36:=by
 unfold gS;split
 ·simp
 ·rename_i hk;have hk:c.kind=1:=by simpa using hk
  have f3:∀ x,∃ y,zQ n x a=some y:=λx=>by
   unfold zQ;have:=ha.delta;rw [zag _ (by omega) (by omega)];exact ⟨_,rfl⟩
  have f4:∀ x,∃ y,zac n x b=some y:=λx=>by
   unfold zac;have:=hb.delta;rw [zag _ (by omega) (by omega)];exact ⟨_,rfl⟩
  have g2:=(zdV (f:=λq0=>zaV n q0) hc hk (λx=>⟨_,rfl⟩) hn).2;have g3:=(zdV (f:=λq0=>zQ n q0 a) hc hk f3 hn).2;have g4:=(zdV (f:=λq0=>zac n q0 b) hc hk f4 hn).2;constructor
  ·split <;> split <;> simp
  grind [List.mem_singleton]
theorem zjp {n K m q a b box R c} (ha:zuC a) (hb:zuC b) (hc:∀ c∈m.constraints,zve K c) (hl:m.constraints.length≤1000) (hn:1000000≤n) :
  ztz (zf.l4 n m q a b box R c.kind c.family c.row.zty c.row.bound c.first c.size) n ([],0)=finS n box a b R c ((List.range m.constraints.length).flatMap λi=>gS n (q.e != q.f) a b (m.constraints.getD i default)):=by
 have:=zcg (body:=zf.l4 n m q a b box R c.kind c.family c.row.zty c.row.bound c.first c.size) (k:=m.constraints.length) (n:=n) (st:=λb i=>(b,(i:Int))) (λi=>gS n (q.e != q.f) a b (m.constraints.getD i default)) (finS n box a b R c) 3 []
  (λi hi=>?_) (λrec b7 i hi hI=>?_) (λrec b7 hI=>?_) (by omega)
 ·grind
 ·grind [default,List.getD,zoc,List.getElem_mem]
 ·have e:m.constraints.getD i default=m.constraints[i]:=by grind
  have hci:=hc _ (yi hi);have hI':b7.length≤3000:=by grind
  simp only [zf.l4,zB hi,if_true,jn,zb hi,ya,e,zd (i:=i) (by omega)];unfold gS;by_cases hk:(m.constraints[i].kind != 1)=true
  ·grind
  ·rw [if_neg hk,if_neg hk];have hk:m.constraints[i].kind=1:=by grind
   have f3:∀ x,∃ y,zQ n x a=some y:=λx=>by
    unfold zQ;have:=ha.delta;rw [zag _ (by omega) (by omega)];exact ⟨_,rfl⟩
   have f4:∀ x,∃ y,zac n x b=some y:=λx=>by
    unfold zac;have:=hb.delta;rw [zag _ (by omega) (by omega)];exact ⟨_,rfl⟩
   obtain ⟨ra,hra⟩:=zgB ha hci hk hn;obtain ⟨rb,hrb⟩:=zgB hb hci hk hn;rw [(zdV (f:=λq0=>zaV n q0) hci hk (λx=>⟨_,rfl⟩) hn).1,(zdV (f:=λq0=>zQ n q0 a) hci hk f3 hn).1,(zdV (f:=λq0=>zac n q0 b) hci hk f4 hn).1,hra,hrb];simp only [ya,yj,yr,yB,grd,if_true];rw [zl (by simp;omega),ya];by_cases h3:(decide (0<(ra.length:Int)))=true
   ·rw [if_pos h3,if_pos h3,zl (by simp;omega),ya];by_cases h4:((q.e != q.f)&&decide (0<(rb.length:Int)))=true
    ·rw [if_pos h4,if_pos h4,zl (by simp;omega),ya];simp only [yJ]
    ·rw [if_neg h4,if_neg h4];simp only [yJ,ue]
   ·rw [if_neg h3,if_neg h3];by_cases h4:((q.e != q.f)&&decide (0<(rb.length:Int)))=true
    ·rw [if_pos h4,if_pos h4,zl (by simp;omega),ya];simp only [yJ,yO]
    ·rw [if_neg h4,if_neg h4];simp only [ue]
 ·simp only [zf.l4,zaw,ye,if_false];rfl
noncomputable def zdo (n:Nat) (m:Model) (q:Question) (a b:Action) (box:List Range) (R:List Row):Option (System×Int):=
  jn (λ(v:(List Row)×Int×Int×(List Term)×Int×Int×Int)=>
   let b6_84:=v.1
   let c9_0_85:=v.2.1
   let c9_1_86:=v.2.2.1
   let c9_2_87:=v.2.2.2.1
   let c9_3_88:=v.2.2.2.2.1
   let c9_4_89:=v.2.2.2.2.2.1
   let c9_5_90:=v.2.2.2.2.2.2
   ztz (zf.l4 n m q a b box b6_84 c9_0_85 c9_1_86 c9_2_87 c9_3_88 c9_4_89 c9_5_90) n (([]:List ztR),0)) λk_91=>
  if q.target.hold=true then
   (idx a.effect.hold q.target.index).bind λx164_92=>
   (zH n b x164_92).bind λx170_93=>
   (zU n x164_92 (λq0=>zaP n q0) (λq0=>zal n q0 x170_93)).bind λx9_94=>
   (app 32 R [x9_94]).bind λx11_95=>
   k_91 (x11_95,0,0,[],0,0,0)
  else
   (idx m.constraints q.target.index).bind λx177_96=>
   if (x177_96.kind==0)=true then
    (zH n a x177_96.row).bind λx188_97=>
    (zH n b x177_96.row).bind λx192_98=>
    (zU n x177_96.row (λq0=>zaP n q0) (λq0=>zal n q0 (ztu x188_97 x192_98))).bind λx9_99=>
    (app 32 R [x9_99]).bind λx11_100=>
    k_91 (x11_100,x177_96.kind,x177_96.family,x177_96.row.zty,x177_96.row.bound,x177_96.first,x177_96.size)
   else
    k_91 (R,x177_96.kind,x177_96.family,x177_96.row.zty,x177_96.row.bound,x177_96.first,x177_96.size)
noncomputable def zwA (n:Nat) (m:Model) (q:Question) (a b:Action) (box:List Range) (R:List Row):Option (System×Int):=
  (app 32 [] a.effect.hold).bind λx128_64=>
  jn (λ(v:(List Row))=>
   let b8_65:=v
   ztz (zf.l3 n m q a b box b8_65) n (R,0)) λk_66=>
  if (q.e != q.f)=true then
   (app 32 x128_64 b.effect.hold).bind λx138_67=>
   k_66 x138_67
  else
   k_66 x128_64
def endS (n:Nat) (S:System) (v:Option Bool):Option (System×Int):=v.bind λv=>if (!v)=true then some ((⟨[],[],[],[]⟩:System),8) else some (S,0)
noncomputable def chgN (n:Nat) (a:Action) (r:Row):Int:=(zH n a r).getD 0
noncomputable def kS (n:Nat) (q:Question) (rows:List Int) (a b:Action) (i:Nat) (c:Constraint):Int:=
 if (decide ((i:Int)∈rows)&&(q.target.hold||(q.target.index != (i:Int))))=true then gmax (gmax (gmax 0 (chgN n a c.row)) (chgN n b c.row)) (ztu (chgN n a c.row) (chgN n b c.row)) else gmax (gmax 0 (chgN n a c.row)) (chgN n b c.row)
noncomputable def rowS (n:Nat) (q:Question) (rows:List Int) (a b:Action) (i:Nat) (c:Constraint):List Row:=if (c.kind != 0)=true then [] else [⟨c.row.zty,ztH c.row.bound (kS n q rows a b i c)⟩]
noncomputable def zvr (n:Nat) (m:Model) (q:Question) (rows:List Int) (a b:Action):List Row:=(List.range m.constraints.length).flatMap λi=>rowS n q rows a b i (m.constraints.getD i default)
theorem zei {n a r} (ha:zuC a) (hr:r.zty.length≤1000) (hn:1000000≤n):zH n a r=some (chgN n a r):=by
 grind [zgu,chgN]
theorem zqv {n m q rows a b box} (ha:zuC a) (hb:zuC b) (hc:∀ c∈m.constraints,zve box.length c) (hl:m.constraints.length≤1000) (hr:rows.length≤1000) (hn:1000000≤n) :
  ztz (zf.l2 n m q rows a b box) n ([],0)=zwA n m q a b box (zvr n m q rows a b):=by
 have:=zcg (body:=zf.l2 n m q rows a b box) (k:=m.constraints.length) (n:=n) (st:=λb i=>(b,i)) (λi=>rowS n q rows a b i (m.constraints.getD i default)) (zwA n m q a b box) 1 []
  (λi j=>?_) (λo b6 i j u=>?_) (λo b6 u=>?_) (by omega)
 ·grind [zvr]
 ·grind [rowS]
 ·have e:m.constraints.getD i default=m.constraints[i]:=by simp_all
  have d:=hc _ (yi j);rw [e];simp only [zf.l2,zB j,if_true,jn,zb j,ya,zei ha d.len hn,zei hb d.len hn,zd5 (show rows.length<1000000 by omega) hn];unfold rowS;by_cases l:(m.constraints[i].kind != 0)=true
  ·rw [if_pos l,if_pos l,ue,zd (by omega)]
  ·rw [if_neg l,if_neg l];have h:=λk =>zej (n:=n) (r:=m.constraints[i].row) (f:=λs=>zbo n s) (g:=λs=>zd7 n s k) (fP:=id) (B:=ztH m.constraints[i].row.bound k) (λ_=>rfl) rfl d.len hn
   have p:(m.constraints[i].row.zty.map λt=>(⟨t.cell,id t.ztE⟩))=m.constraints[i].row.zty:=by simp
   simp only [p] at h;unfold kS;split <;> (rw [h,ya,zl (by grind),ya,zd (by omega)])
 ·simp only [zf.l2,zaw];rfl
def badR (m:Model) (x:Int):Bool:=(decide (x<0)||decide ((m.constraints.length:Int)≤x))||(((idx m.constraints x).getD default).kind != 0)
theorem zlm {n m q rows a b} (hF:Fuel n) (hS:zt9 m) (hV:zvh m) (hq:zfM m q=true) (ha:idx m.ztw q.e=some a) (hb:idx m.ztw q.f=some b) (hA:zuC a) (hB:zuC b) (hc:∀ c∈m.constraints,zve (boxM m).length c) (hr:rows.length≤1000) :
  zf n m q rows=if (rows.all λx=>!badR m x)=true then zwA n m q a b (boxM m) (zvr n m q rows a b) else some (⟨[],[],[],[]⟩,2):=by
 have r:=hF.big;have k:=hS.constraints;have o:zeM n m=some (boxM m):=by
  unfold zeM zgb;rw [zgP hF hS,zfp.2 hV,ya,if_neg (by simp),zfS hF (by have:=hS.ztB;omega) (by have:=hS.tables;omega) (λt p=>by have:=(hS.tab t p).2;omega),if_pos hV.lay];rfl
 unfold zf;rw [zfn hF hS,zfp.2 hV,hq,ya,if_neg (by simp)];have:=zat (body:=zf.l1 n m q rows) (l:=rows) (n:=n) (st:=λi=>i) (λx=>!badR m x) (some (⟨[],[],[],[]⟩,2)) (zwA n m q a b (boxM m) (zvr n m q rows a b)) (λg i h=>?_) (λg=>?_) (by omega)
 ·simp_all
 ·simp only [zf.l1,zB h,zb h,ya];by_cases e:(decide (rows[i]<0)||decide (m.constraints.length≤rows[i]))=true
  ·have d:badR m rows[i]=true:=by grind [badR]
   rw [d];simp only [e,uA,grd,if_true,uo,ye,if_false]
  ·have f:=e;simp only [yI,yf,not_or,Int.not_le,Int.not_lt] at f;obtain ⟨c,j⟩:=za6 f.1 f.2;unfold badR;simp only [e,grd,zd (i:=i) (by omega)];simp_all
 ·simp only [zf.l1]
  grind [zqv]
def zxc (x:Int):Prop:=-4611686018427387904≤x∧x≤4611686018427387904
theorem zqL {a b:Int} (ha:zxc a):zxc (a.tdiv b):=by
 have c:=Int.natAbs_tdiv_le_natAbs a b
 grind [zxc]
theorem zsv {a b} (hb:0<b) (ha:zxc a):zuU a b=some (a.tdiv b):=by
 have h:=zqL (b:=b) ha
 unfold zuU
 rw [if_neg (by omega),zao (by have:=h.1;omega) (by have:=h.2;omega)]
theorem zsx {a b} (hb:0<b):zuV a b=some (a.tmod b):=by
 unfold zuV
 grind
theorem zpP {a b:Int} (hb:0<b):a / b=if a.tmod b<0 then a.tdiv b - 1 else a.tdiv b:=by
 have d:=Int.mul_tdiv_add_tmod a b
 have e:=Int.tmod_lt_of_pos a hb
 have c :=Int.lt_tmod_of_pos a hb
 generalize a.tdiv b=q at *
 generalize a.tmod b=r at *
 split
 ·exact ((Int.ediv_emod_unique hb (r:=r+b) (q:=q - 1)).2 ⟨by grind,by omega,by omega⟩).1
 grind [Int.ediv_emod_unique]
theorem zlE {n} {a b} (hb:0<b) (ha:zxc a):zcy n a b=some (a / b):=by
 have h:=zqL (b:=b) ha
 unfold zcy
 rw [zsv hb ha,ya,zsx hb]
 simp only [jn]
 rw [zpP hb]
 have f:ztH (a.tdiv b) 1=a.tdiv b - 1:=zao (by have:=h.1;omega) (by have:=h.2;omega)
 have g:(a.tmod b != 0&&(decide (a<0) != decide (b<0)))=decide (a.tmod b<0):=by
  have d:decide (b<0)=false:=by grind
  by_cases c:a<0
  ·have e:a.tmod b≤0:=by
    have:=Int.tmod_nonneg (a:=-a) b (by omega)
    simp_all
   grind
  grind [Int.tmod_nonneg]
 grind
def boxS (b:List Range):Prop:=∀ r∈b,-1000000≤r.lo∧r.lo≤1000000∧-1000000≤r.hi∧r.hi≤1000000
def rgP (b:List Range) (c:Int):Range:=b.getD c.toNat default
def endP (b:List Range) (t:Term):Int:=if 0<t.ztE then t.ztE*(rgP b t.cell).lo else t.ztE*(rgP b t.cell).hi
def zvl (b:List Range) (c:Int):List Term→Int
 | []=>0
 | t::l=>(if t.cell=c then 0 else endP b t)+zvl b c l
theorem zi8 (b c):∀ l m ,zvl b c (l++m)=zvl b c l+zvl b c m
 | [],m=>by simp [zvl]
 | t::l,m=>by simp only [uu,zvl,zi8 b c l m];omega
theorem zhF {b} {c} (h0:0≤c) (h1:c<(b.length:Int)):idx b c=some (rgP b c):=by
 unfold idx rgP
 simp_all
theorem zh3 {b} {c} (h0:0≤c) (h1:c<(b.length:Int)):rgP b c∈b:=by
 grind [rgP]
theorem zr9 {b} {t} (hb:boxS b) (ht:zgo b.length t) : -1000000000≤endP b t∧endP b t≤1000000000:=by
 obtain ⟨f,e,a,c⟩:=ht
 obtain ⟨g,h,i,d⟩:=hb _ (zh3 f e)
 unfold endP
 split
 ·exact zi3 a c g h
 ·exact zi3 a c i d
theorem zl6 {b} {c} (hb:boxS b):∀ {l},(∀ t∈l,zgo b.length t)→-(1000000000*(l.length:Int))≤zvl b c l∧zvl b c l≤1000000000*(l.length:Int)
 | [],_=>by simp [zvl]
 | t::l,a=>by
  have e:=zr9 hb (a t (by simp))
  have f:=zl6 (c:=c) hb λx d=>a x (yW _ d)
  grind [zvl]
theorem zqU {n} {r} {b} {c} (hb:boxS b) (ht:∀ t∈r.zty,zgo b.length t) (hl:r.zty.length≤1000) (hn:1000000≤n):zbq n r b c 1=some (zvl b c r.zty):=by
 have:=zM (body:=zbq.l1 n r b c 1) (len:=r.zty.length) (st:=λi=>(zvl b c (r.zty.take i),i)) (g:=λ_=>some (zvl b c r.zty)) (λd i hi a=>?_) (λd=>?_) n 0 (yo _) (by omega)
 ·grind [zbq,zvl]
 ·rw [yv hi,zi8] at a
  obtain ⟨f,e,j,k⟩:=ht _ (yi hi)
  obtain ⟨o,q,m,p⟩:=hb _ (zh3 f e)
  have u:=zl6 (c:=c) hb (l:=r.zty.take i) λt h=>ht t (List.mem_of_mem_take h)
  have v:=zi3 j k o q
  have w:=zi3 j k m p
  have x:ztG r.zty[i].ztE 1=r.zty[i].ztE:=by grind [ztG,zao]
  have y:ztG r.zty[i].ztE (rgP b r.zty[i].cell).lo=r.zty[i].ztE*(rgP b r.zty[i].cell).lo:=zao (by omega) (by omega)
  have z:ztG r.zty[i].ztE (rgP b r.zty[i].cell).hi=r.zty[i].ztE*(rgP b r.zty[i].cell).hi:=zao (by omega) (by omega)
  simp only [zvl,endP] at a
  simp only [zbq.l1,zb hi,zhF f e,ya,jn,zd (i:=i) (by omega)]
  split at a <;> rename_i h
  ·simp_all
  ·split at a <;> rename_i s
   ·grind [ztu,zao]
   ·grind [ztu,zao]
 ·simp [zbq.l1]
def facP (c:Int):List Term→Int→Int
 | [],f=>f
 | t::l,f=>facP c l (if t.cell=c then t.ztE else f)
def zgY (o:Range) (rest f:Int):Range:=
 if f=0 then o else
  let lo:=if f<0 then max o.lo (-(rest / (-f))) else o.lo
  let hi:=if 0<f then min o.hi (rest / f) else o.hi
  if hi<lo then ⟨1,0⟩ else ⟨lo,hi⟩
def zca (r:Row) (b:List Range) (c:Int):Range:=zgY (rgP b c) (r.bound - zvl b c r.zty) (facP c r.zty 0)
theorem zsc (x y):gmin x y=min x y:=by grind [gmin]
theorem zsb (x y):gmax x y=max x y:=by grind [gmax]
theorem zfZ {c}:∀ {l} {f},(∀ t∈l,t.cell≠c)→facP c l f=f
 | [],_,_=>rfl
 | t::l,f,h=>by
  simp only [facP]
  rw [if_neg (h t (by simp))]
  exact zfZ λx a=>h x (yW _ a)
theorem zlB {c}:∀ {l} {f} {t},(l.map (·.cell)).Nodup→t∈l→t.cell=c→facP c l f=t.ztE
 | [],_,_,_,h,_=>by grind
 | x::l,f,t,a,h,b=>by
  simp only [yY,List.nodup_cons] at a
  simp only [facP]
  rcases yG.1 h with rfl | h
  ·rw [if_pos b]
   exact zfZ λy d e=>a.1 (by simp_all)
  ·exact zlB a.2 h b
def ixT (c:Int):List Term→Nat→Int
 | [],_=>-1
 | t::l,i=>if t.cell=c then (i:Int) else ixT c l (i+1)
theorem zmh {n} {l} {c} (hl:l.length≤1000) (hn:1000000≤n):zF n l (λq0=>zbX n q0 c)=some (ixT c l 0):=by
 have:=zM (body:=zF.l1 n l (λq0=>zbX n q0 c)) (len:=l.length) (st:=λi=>i) (g:=λi=>some (ixT c (l.drop i) i)) (λa i b d=>?_) (λa=>?_) n 0 (yo _) (by omega)
 ·grind [zF]
 ·rw [zm b]
  simp only [zF.l1,zb b,zbX,zd (i:=i) (by omega),ixT]
  grind
 ·simp [zF.l1,ixT]
theorem zmA {c}:∀ (l) (k),((∀ t∈l,t.cell≠c)∧ixT c l k = -1)∨∃ i,∃ hi:i<l.length,l[i].cell=c∧ixT c l k=((k+i:Nat):Int)
 | [],k=>.inl ⟨by simp,rfl⟩
 | t::l,k=>by
  simp only [ixT]
  by_cases h:t.cell=c
  ·grind
  ·rcases zmA (c:=c) l (k+1) with ⟨b,a⟩ | ⟨i,hi,b,a⟩
   ·simp_all
   ·exact .inr ⟨i+1,by simp_all,by simp_all,by grind⟩
theorem zpv {n} {r} {b} {c} (hb:boxS b) (ht:∀ t∈r.zty,zgo b.length t) (hf0:∀ t∈r.zty,t.ztE≠0) (hnd:(r.zty.map (·.cell)).Nodup) (hl:r.zty.length≤1000) (hB : -1000000000≤r.bound∧r.bound≤1000000000) (h0:0≤c) (h1:c<(b.length:Int)) (hn:1000000≤n) :
  zc8 n r b c=some (zca r b c):=by
 unfold zc8
 rw [zhF h0 h1,ya,zmh hl hn,ya]
 rcases zmA (c:=c) r.zty 0 with ⟨k,m⟩ | ⟨i,j,k,m⟩
 ·grind [zca,zfZ,zgY]
 ·rw [m]
  have e :=yi j
  have g:=zlB (f:=0) hnd e k
  have v:=zl6 (c:=c) hb ht
  obtain ⟨-,-,w,x⟩:=ht _ e
  have s:=hf0 _ e
  simp only [uh]
  rw [if_neg (by simp),zb j,ya,zqU hb ht hl hn,ya]
  unfold zca zgY
  generalize r.zty[i].ztE=f at *
  generalize zvl b c r.zty=R at *
  have d:zxc (r.bound - R):=⟨by omega,by omega⟩
  have u:ztH r.bound R=r.bound - R:=zao (by omega) (by omega)
  simp only [jn,zc3,zsc,zsb]
  by_cases h:0<f
  ·have q:=zlE (n:=n) (a:=r.bound - R) (b:=f) h d
   grind
  ·have l:zuj f = -f:=zao (by omega) (by omega)
   have q:=zlE (n:=n) (a:=r.bound - R) (b:=-f) (by omega) d
   have o:zxc ((r.bound - R) / (-f)):=⟨Int.le_trans (by omega) ((Int.le_ediv_iff_mul_le (by omega)).2 (show -4611686018427387904*(-f)≤r.bound - R by omega)),Int.ediv_le_of_le_mul (by omega) (by omega)⟩
   have p:zuj ((r.bound - R) / (-f)) = -((r.bound - R) / (-f)):=zao (by have:=o.2;omega) (by have:=o.1;omega)
   grind
def zxg (k last:Int):List Term→Bool
 | []=>true
 | t::l=>!(decide (t.cell≤last)||decide (k≤t.cell)||t.ztE==0||decide (t.ztE < -1000)||decide (1000<t.ztE))&&zxg k t.cell l
def zwo (k:Int) (r:Row):Bool:=zxg k (-1) r.zty&&(decide (-1000000000≤r.bound)&&decide (r.bound≤1000000000))
def zx5 (l:List Term) (i:Nat):Int:=match i with
 | 0=>-1
 | i+1=>(l.getD i default).cell
theorem zpe {l} {i} (h):zx5 l (i+1)=l[i].cell:=by
 simp [zx5,h]
theorem zoa {n} {k} {r} (hl:r.zty.length≤1000) (hn:1000000≤n):zaD n k r=some (zwo k r):=by
 have:=zM (body:=zaD.l1 n k r) (len:=r.zty.length) (st:=λi=>(zx5 r.zty i,i)) (g:=λi=>some (zxg k (zx5 r.zty i) (r.zty.drop i)&&(decide (-1000000000≤r.bound)&&decide (r.bound≤1000000000)))) (λb i a c=>?_) (λb=>?_) n 0 (yo _) (by omega)
 ·grind [zaD,zx5,zwo]
 ·rw [zm a]
  rw [zpe a] at c
  simp only [zaD.l1,zb a,zd (i:=i) (by omega),zxg]
  grind
 ·simp [zaD.l1,zxg]
def boxP (b:List Range):Bool:=b.all (λr=>!(decide (r.lo < -1000000)||decide (1000000<r.lo)||decide (r.hi < -1000000)||decide (1000000<r.hi)))&&decide ((b.length:Int)≤128)
theorem zpD {b} (h:boxP b=true):boxS b:=λr a=>by
 simp only [boxP] at h
 simp_all
theorem zry {n} {b} (hl:b.length≤1000) (hn:1000000≤n):zaG n b=some (boxP b):=by
 have:=zM (body:=zaG.l1 n b) (len:=b.length) (st:=λi=>i) (g:=λi=>some ((b.drop i).all (λr=>!(decide (r.lo < -1000000)||decide (1000000<r.lo)||decide (r.hi < -1000000)||decide (1000000<r.hi)))&&decide ((b.length:Int)≤128))) (λa i c d=>?_) (λa=>?_) n 0 (yo _) (by omega)
 ·grind [zaG,boxP]
 ·rw [zm c]
  simp only [zaG.l1,zb c,zd (i:=i) (by omega)]
  grind
 ·simp [zaG.l1]
def ixA {α:Type} (p:α→Bool):List α→Nat→Int
 | [],_=>-1
 | t::l,i=>if p t=true then (i:Int) else ixA p l (i+1)
theorem zp3 {α} (p):∀ (l:List α) (k),0≤ixA p l k↔l.any p=true
 | [],k=>by simp [ixA]
 | t::l,k=>by
  simp only [ixA]
  by_cases h:p t=true
  ·simp_all
  ·rw [if_neg h,zp3 p l (k+1)];grind
theorem zgK {n} {l} {f} {p} (hp:∀ x∈l,f x=some (p x)) (hl:l.length≤100000) (hn:1000000≤n):zo n l f=some (l.any p):=by
 have:=zM (body:=zn.l1 n l f) (len:=l.length) (st:=λi=>i) (g:=λi=>some (ixA p (l.drop i) i)) (λa i b d=>?_) (λa=>?_) n 0 (yo _) (by omega)
 ·unfold zo zn
  have c:ztz (zn.l1 n l f) n 0=some (ixA p l 0):=by simp_all
  rw [c,ya]
  congr 1
  grind [zp3]
 ·rw [zm b]
  simp only [zn.l1,zb b,zd (i:=i) (by omega),ixA]
  grind
 ·simp [zn.l1,ixA]
theorem zo0 {n} {b} {rows} (hb:b.length≤1000) (hr:∀ r∈rows,r.zty.length≤1000) (hl:rows.length≤100000) (hn:1000000≤n):za8 n b rows=some (boxP b&&rows.all (zwo (b.length:Int))):=by
 unfold za8
 rw [zry hb hn,ya]
 have d:=zgK (n:=n) (l:=rows) (f:=λa=>zbz n a b) (p:=λr=>!zwo b.length r) (λx c=>by grind [zbz,zoa]) hl hn
 grind [grd]
theorem zdH {k}:∀ {l} {last},-1≤last→zxg k last l=true→(∀ t∈l,last<t.cell∧0≤t.cell∧t.cell<k∧t.ztE≠0∧-1000≤t.ztE∧t.ztE≤1000)∧(l.map (·.cell)).Nodup
 | [],_,_,_=>by simp
 | t::l,last,a,h=>by
  simp only [zxg,yd] at h
  obtain ⟨c,b⟩:=h
  simp at c
  obtain ⟨e,d⟩:=zdH (l:=l) (last:=t.cell) (by omega) b
  grind
theorem zoZ {n} {r} {b} {c} (hb:boxP b=true) (hf:zwo (b.length:Int) r=true) (hl:r.zty.length≤1000) (h0:0≤c) (h1:c<(b.length:Int)) (hn:1000000≤n):zcv n r b c=some (zca r b c):=by
 have d :=by
  simp only [boxP,yd,yf] at hb
  omega
 unfold zcv
 rw [zo0 (by omega) (λx i=>by simp_all) (by simp) hn,ya]
 rw [if_neg (by simp_all)]
 simp only [zwo,yd,yf] at hf
 obtain ⟨f,g⟩:=hf
 obtain ⟨a,e⟩:=zdH (by omega) f
 rw [zpv (zpD hb) (λt h=>⟨(a t h).2.1,(a t h).2.2.1,(a t h).2.2.2.2.1,(a t h).2.2.2.2.2⟩) (λt h=>(a t h).2.2.2.1) e hl g h0 h1 hn]
 rfl

def midP (r:Range):Int:=(r.lo+r.hi) / 2
theorem box1 {b} {r} (hb:boxP b=true) (hr:r∈b):boxP [r]=true:=by
 grind [boxP]
theorem zpz {n} {r} (hr:boxP [r]=true) (hn:1000000≤n):zcI n r=some (midP r):=by
 have h:=zpD hr r (by simp)
 unfold zcI
 rw [zry (by simp) hn,ya,hr]
 have a:ztu r.lo r.hi=r.lo+r.hi:=zao (by omega) (by omega)
 simp only [a]
 rw [zlE (by omega) ⟨by omega,by omega⟩,ya]
 rfl
theorem app1 {α} {k} {l} {x:α} (h:(l.length+1)*k≤140737488355328):Go.Proofs.YtipkniadbkndfaaGreatDoor.app k l [x]=some (l++[x]):=by
 unfold Go.Proofs.YtipkniadbkndfaaGreatDoor.app
 simp_all
def zuH (b:List Range) (c:Int) (r:Range):List Range:=if 0≤c then b.set c.toNat r else b
theorem zck (b c r):(zuH b c r).length=b.length:=by
 grind [zuH]
inductive zxS:List Row→List Row→Prop
 | nil:zxS [] []
 | cons {r s:Row} {R S:List Row}:r.zty=s.zty→r.bound≤s.bound→zxS R S→zxS (r::R) (s::S)
theorem zpH {d} (hd:zfm d):∀ {l},(∀ t∈l,-1000≤t.ztE∧t.ztE≤1000)→-(1000000000000*(l.length:Int))≤chgP d l∧chgP d l≤1000000000000*(l.length:Int)
 | [],_=>by simp [chgP]
 | t::l,h=>by
  have f:=zpH hd (l:=l) λt g=>h t (by grind)
  obtain ⟨b,e⟩:=h t (by simp);obtain ⟨c,a⟩:=zcE hd t.cell;have:=zi3 b e c a
  grind [chgP]
theorem znu {n a r} (ha:zuC a) (hd:zfm a.effect.delta) (ht:∀ t∈r.zty,-1000≤t.ztE∧t.ztE≤1000) (hl:r.zty.length≤1000) (hn:1000000≤n) : -1000000000000000≤chgN n a r∧chgN n a r≤1000000000000000:=by
 have b:=ha.delta;unfold chgN;rw [zcq (by omega) (by omega) (by omega) (by omega),zjJ hd ht hl];have:=zpH hd ht
 grind
theorem zlF (x y):x≤gmax x y∧y≤gmax x y:=by grind [gmax]
theorem zlG {x y B} (h1:x≤B) (h2:y≤B):gmax x y≤B:=by grind [gmax]
theorem zq5 {n} {q} {rows less} {a b} {i:Nat} {c} (hx : -1000000000000000≤chgN n a c.row∧chgN n a c.row≤1000000000000000) (hy : -1000000000000000≤chgN n b c.row∧chgN n b c.row≤1000000000000000) (hsub:(i:Int)∈less→(i:Int)∈rows) :
  0≤kS n q less a b i c∧kS n q less a b i c≤kS n q rows a b i c∧kS n q rows a b i c≤2000000000000000:=by
 have j:ztu (chgN n a c.row) (chgN n b c.row)=chgN n a c.row+chgN n b c.row:=zcp (by omega) (by omega);unfold kS;generalize chgN n a c.row=x at *;generalize chgN n b c.row=y at *;have f:=zlF 0 x;have g:=zlF (gmax 0 x) y;have h:=zlF (gmax (gmax 0 x) y) (x+y);have d:gmax 0 x≤1000000000000000:=zlG (by omega) (by omega);have k:gmax (gmax 0 x) y≤1000000000000000:=zlG d (by omega);have e:gmax (gmax (gmax 0 x) y) (x+y)≤2000000000000000:=zlG (by omega) (by omega)
 grind
theorem znR {n m q rows a b} (hl:m.constraints.length≤60) (hc:∀ c∈m.constraints,c.row.zty.length≤1000):(zvr n m q rows a b).length≤60∧∀ r∈zvr n m q rows a b,r.zty.length≤1000:=by
 unfold zvr;constructor
 ·have:∀ k,((List.range k).flatMap λi=>rowS n q rows a b i (m.constraints.getD i default)).length≤k:=by
   intro k
   induction k with
   | zero=>simp
   | succ k ih=>
    rw [ziB,yQ]
    grind [rowS]
  grind
 grind [rowS]
theorem zkO {m} (hS:zt9 m) {a} (ha:a∈m.ztw):zuC a:=by
 obtain ⟨-,c,b,-,e⟩:=hS.act a ha;exact ⟨c,b,λr d=>by grind⟩
theorem zrA {m} (hS:zt9 m) (hV:zvh m) {c} (hc:c∈m.constraints):zve (boxM m).length c:=by
 have i:=hS.con c hc;rcases zrz hS hV hc with ⟨a,-,-,-⟩ | ⟨s,a,e,d,f,g,b⟩
 ·exact ⟨.inl a,by omega,λh=>by omega⟩
 ·exact ⟨.inr a,by omega,λ_=>⟨s,e,d,f,g,b⟩⟩
theorem zpK {m} (hV:zvh m) {c} (hc:c∈m.constraints) (hk:c.kind=0):zul (zW m.ztB true m.tables).length c.row=true:=by
 rcases zks hV hc with h | h
 ·simp only [zeP] at h
  grind
 grind [zln]
theorem zoM {R X G cs} (hR:R.length≤60∧∀ r∈R,r.zty.length≤1000) (hX:X.length≤30∧∀ r∈X,r.zty.length≤1000) (hG:G.length≤3000∧∀ g∈G,g.least.length≤36) (hc:zfQ cs):SysOK (R++X) G cs:=by
 refine ⟨⟨by grind,λr c=>?_⟩,⟨by omega,λg e=>by grind⟩,⟨by have:=hc.1;omega,λb a=>?_⟩⟩
 ·grind
 ·obtain ⟨f,d⟩:=hc.2 b a;exact ⟨by omega,λr c=>by grind⟩
end Go.Proofs.YtipkniadbkndfaaGreatDoor
