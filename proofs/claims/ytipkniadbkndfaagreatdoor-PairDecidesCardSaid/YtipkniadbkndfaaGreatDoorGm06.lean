/- Part of the proof of one law of the seat. -/
import Derived.Test.YtipkniadbkndfaaGreatDoorGm05
set_option linter.all false
set_option maxRecDepth 100000
set_option maxHeartbeats 40000000
namespace Go.Proofs.YtipkniadbkndfaaGreatDoor
open Go Go.RowKit
open Option renaming some->O,none->Y
open Bool renaming true->U,false->M
open Decidable renaming decide->Z
open Inhabited renaming default->J
open Tree renaming enc->xo
open Nat renaming blt->xz,ble->xP,beq->wR
open _root_.Go.Proofs.YtipkniadbkndfaaGreatDoor.Found renaming enc->xM
open GMap renaming blk->xQ,empty->wj
open Step renaming enc->wg
open Option.some renaming inj->vE
open Go.Proofs.Tryz renaming prog->xg
section
set_option maxRecDepth 100000
variable[Drw]
section
variable{p:Prop}{o:Oper}{e:Operand->Option V}{H:List Blk}{G:V->Prop}{q i z:Operand}{t u kk:Nat}{R:Type}{r:R}
def intOp (op:BinOp)(k:IntKind)(a b:Int):Option Int:=match op with|.add=>O (k.wrap (a+b))|.sub=>O (k.wrap (a-b))|.mul=>O (k.wrap (a*b))|.and=>O (band k a b)|.or=>O (bor k a b)|_=>Y
theorem wk.oin {op}{k}{a b c}(g:(o.op,e q,e z,intOp op k a b)=(.binOp op t q z u,O (.d (.val (.int k a))),O (.d (.val (.int k b))),O c))(hk:p->G (.d (.val (.int k c)))):p->OpP o e H G:=λl=>by
 simp only[yf]at g;obtain⟨f,h,i,j⟩:=g;refine⟨_,?_,hk l⟩;unfold intOp at j;split at j<;>cases j;·exact .add f h i
 ·exact .sub f h i
 ·exact .mul f h i
 ·exact .band f h i
 ·exact .bor f h i
theorem wk.osh {k j}{a b}{f}(g:(o.op,e q,e z)=(.binOp .shr t q z u,O (.d (.val (.int k a))),O (.d (.val (.int j b)))))(hk:∀v,f v=O r->G (.d (.val (.int k v)))):(shrO k a b).bind f=O r->OpP o e H G:=λh=>by simp only[yf]at g;obtain⟨v,i,c⟩:=ztO h;exact⟨_,.shr g.1 g.2.1 g.2.2 i,hk v c⟩
theorem wk.oqug {a b}(g:(o.op,e q,e z)=(.binOp .quo t q z u,O (.d (.int a)),O (.d (.int b))))(hv:p->(zul a b).isSome=U)(k:p->G (.d (.int ((zul a b).getD J)))):p->OpP o e H G:=λc=>by simp only[yf]at g;exact⟨_,.quo6 g.1 g.2.1 g.2.2 (zt2 (hv c)),k c⟩
class UI (t:TypeId)(k:outParam IntKind):Prop where ok:xg.underlying t=O (.int k)
theorem wk.om3 {k}{a b c}{tys}(g:(o.op,e q,e i,e z)=(.call {callee:=.builtin .max,args:=#[q,i,z],argTypes:=tys},O (.d (.val (.int k a))),O (.d (.val (.int k b))),O (.d (.val (.int k c)))))(hk:p->G (.d (.val (.int k (gmax (gmax a b) c))))):p->OpP o e H G:=λf=>by simp only[yf]at g;exact⟨_,.max3 g.1 g.2.1 g.2.2.1 g.2.2.2,hk f⟩
theorem wk.ocb {l}{a b}{f}(g:(o.op,e q,e i,e z,tSt t)=(.slice t q (O i) (O z) Y,O (.d (.str l)),O (.d (.int a)),O (.d (.int b)),U))(k:∀v,f v=O r->G (.d (.str v))):(cut l a b).bind f=O r->OpP o e H G:=λh=>by simp only[yf]at g;obtain⟨v,j,c⟩:=ztO h;exact⟨_,.zwq g.1 g.2.1 g.2.2.1 g.2.2.2.1 (zkG g.2.2.2.2) j,k v c⟩
theorem wk.ocbg {l}{a b}(g:(o.op,e q,e i,e z,tSt t)=(.slice t q (O i) (O z) Y,O (.d (.str l)),O (.d (.int a)),O (.d (.int b)),U))(hv:p->(cut l a b).isSome=U)(k:p->G (.d (.str ((cut l a b).getD J)))):p->OpP o e H G:=λc=>by simp only[yf]at g;exact⟨_,.zwq g.1 g.2.1 g.2.2.1 g.2.2.2.1 (zkG g.2.2.2.2) (zt2 (hv c)),k c⟩
variable{α:Type}{enc:α->D}{l:List α}
theorem wk.olhg {a}(g:(o.op,e q,e i,tX t)=(.slice t q Y (O i) Y,O (.d (.sl kk (l.map enc))),O (.d (.int a)),O kk))(hv:p->(cut l 0 a).isSome=U)(k:p->G (.d (.sl kk (((cut l 0 a).getD J).map enc)))):p->OpP o e H G:=λb=>by simp only[yf]at g;obtain⟨h,f,c⟩:=zvU g.2.2.2;exact⟨_,.cutSlH g.1 g.2.1 g.2.2.1 f c (zt2 (hv b)),k b⟩
end
def nilK (kk:Nat):D->D|.val (.slice Y 0 0)=>.sl kk []|d=>d
section
variable{p:Prop}{o:Oper}{e:Operand->Option V}{H:List Blk}{G:V->Prop}
end
class HM (t:TypeId){κ β:outParam Type}[dk:outParam (DecidableEq κ)](ke:outParam (κ->Value))(ve:outParam (β->D))(z:outParam β):Prop where ok:∃kt et,xg.underlying t=O (.map kt et)/\KeyT xg kt ke/\zu2 xg et (ve z)
section
variable{p:Prop}{C:Ctx}{ops:Array Oper}{Q:Exit->St->Prop}{o:Oper}{rest:List Oper}{T:List (Nat×V)}{H:List Blk}{e:Operand->Option V}{G:V->Prop}{q z y:Operand}{t:Nat}
variable{κ β:Type}[dk:DecidableEq κ]{ke:κ->Value}{ve:β->D}{z0:β}
theorem wk.mkm {d}[HM t ke ve z0](g:(o.guard,o.op,o.dst,xz d C.n)=(Y,.makeMap t Y,O d,U))(k:p->TriL xg C ops rest Q ⟨(d,.mp H.length)::T,H++[xQ ke ve wj]⟩):p->TriL xg C ops (o::rest) Q ⟨T,H⟩:=λa=>by simp only[yf]at g;exact .makeMap ke ve g.1 g.2.1 g.2.2.1 g.2.2.2 (k a)
def isPut:Op->Option (TypeId×Operand×Operand×Operand)|.mapUpdate t x y z=>O (t,x,y,z)|.insert t x y z=>O (t,x,y,z)|_=>Y
theorem wk.mput {i}{m}{k}{v}[hM:HM t ke ve z0](g:(o.guard,isPut o.op,o.dst,ev T q,H[i]?,ev T y,ev T z)=(Y,O (t,q,y,z),Y,O (.mp i),O (xQ ke ve m),O (.d (.val (ke k))),O (.d (ve v))))(kk:p->TriL xg C ops rest Q ⟨T,H.set i (xQ ke ve (m.put k v))⟩):p->TriL xg C ops (o::rest) Q ⟨T,H⟩:=λe=>by
 simp only[yf]at g;obtain⟨c,a,f,h,j,l,r⟩:=g;obtain⟨s,u,n,b,_⟩:=hM.ok;unfold isPut at a;split at a<;>cases a;·exact .mapPut c ‹o.op=_› f n b h j l r (kk e)
 ·exact .zxa c ‹o.op=_› f n b h j l r (kk e)
theorem wk.mget {i}{m}{k}[hM:HM t ke ve z0](g:(o.op,e q,H[i]?,e y)=(.lookup t q y M,O (.mp i),O (xQ ke ve m),O (.d (.val (ke k)))))(kk:p->G (.d (ve ((m.get? k).getD z0)))):p->OpP o e H G:=λb=>by simp only[yf]at g;obtain⟨j,h,f,c,a⟩:=hM.ok;exact⟨_,.zw9 g.1 f c g.2.1 g.2.2.1 g.2.2.2 a,kk b⟩
theorem wk.mgetD {m}{k}[hM:HM t ke ve z0](g:(o.op,e q,e y)=(.lookup t q y M,O (.d (GMap.dat ke ve m)),O (.d (.val (ke k)))))(kk:p->G (.d (ve ((m.get? k).getD z0)))):p->OpP o e H G:=λb=>by simp only[yf]at g;obtain⟨i,h,f,c,a⟩:=hM.ok;exact⟨_,.zxN g.1 f c g.2.1 g.2.2 a,kk b⟩
end
class HR (i:Nat)(n:outParam Nat)(F:outParam (List Nat)):Prop where mk::
section
variable{p:Prop}{C:Ctx}{ops:Array Oper}{Q:Exit->St->Prop}{rest:List Oper}{T:List (Nat×V)}{H:List Blk}{c:Code}{ids ts:List Nat}
class HF (i:Nat)(ids ts:outParam (List Nat)):Prop where mk::
class HG (i:Nat)(ids ts:outParam (List Nat)):Prop where mk::
structure FrzG (T:List (Nat×V))(H:List Blk)(ids ts:List Nat)(K:List (Nat×D)->Prop):Prop where out:∃ds,zwO T H ids ds/\K ds
theorem FrzG.nil {K}(k:p->K []):p->FrzG T H ids [] K:=λa=>⟨[],.nil,k a⟩
theorem FrzG.cons {t}{v}{d}{K}(ht:look t T=O v)(hf:FrzI H ids v d)(k:p->FrzG T H ids ts λds=>K ((t,d)::ds)):p->FrzG T H ids (t::ts) K:=λb=>by obtain⟨ds,c,a⟩:=(k b).out;exact⟨_,.cons ht hf c,a⟩
def live (H:List Blk):List Nat->Bool
 |i::l=>match nthD H i with
  |some .dead=>M|some _=>live H l|none=>M
 |[]=>U
def dst1:List Oper->Option Nat
 |o::l=>match o.dst with
  |some d=>O d|none=>dst1 l
 |[]=>Y
def noDst:List Oper->Nat->Bool
 |o::l,n+1=>match o.dst with
  |some _=>M|none=>noDst l n
 |[],0=>U|_,_=>M
def zxI:List Oper->Option Nat->Option Nat
 |o::l,r=>match o.dst with
  |some d=>zxI l (O d)|none=>zxI l r
 |[],r=>r
class HZ (i:Nat)(m:outParam Nat)(ids ts:outParam (List Nat)):Prop where mk::
theorem wk.frz {i}(hi:hid c=O i)[HF i ids ts](g:live H ids=U)(k:p->FrzG T H ids ts λds=>Tri xg C c Q ⟨frzT ds T,zt7 ids H⟩):p->Tri xg C c Q ⟨T,H⟩:=λb=>by obtain⟨ds,d,a⟩:=(k b).out;exact .ztY ids d a
theorem wk.frzL {i}(hi:dst1 rest=O i)[HG i ids ts](g:live H ids=U)(k:p->FrzG T H ids ts λds=>TriL xg C ops rest Q ⟨frzT ds T,zt7 ids H⟩):p->TriL xg C ops rest Q ⟨T,H⟩:=λb=>by obtain⟨ds,c,a⟩:=(k b).out;exact .ztY ids c a
theorem wk.frzZ {i m}(hi:zxI ops.toList Y=O i)[HZ i m ids ts](g:(noDst rest m,live H ids)=(U,U))(kk:p->FrzG T H ids ts λds=>TriL xg C ops rest Q ⟨frzT ds T,zt7 ids H⟩):p->TriL xg C ops rest Q ⟨T,H⟩:=λb=>by obtain⟨ds,c,a⟩:=(kk b).out;exact .ztY ids c a
end
section
variable{p:Prop}{C:Ctx}{ops:Array Oper}{Q:Exit->St->Prop}{o:Oper}{rest:List Oper}{T:List (Nat×V)}{H:List Blk}
class HA (r:Nat):Prop where mk::
theorem wk.alA {t j}{d}[HA j](g:(o.guard,o.op,o.dst,xz j C.n,tZd t,d.ones)=(Y,.alloc t,O j,U,O d,U))(k:p->TriL xg C ops rest Q ⟨(j,.loc H.length 0)::T,H++[.box t (V.ztF (.d d))]⟩):p->TriL xg C ops (o::rest) Q ⟨T,H⟩:=wk.alo g k
theorem wk.sv {t i off n}{q z}{bt}{cs}{v}(g:(o.guard,o.op,o.dst,ev T q,nthD H i,ev T z,tC t,v.ztF.length,xP (off+n) cs.length)=(Y,.store t q z,Y,O (.loc i off),O (.box bt cs),O v,O n,n,U))(h1:zu7 H v.ztF)(k:p->TriL xg C ops rest Q ⟨T,H.set i (.box bt (cs.take off++v.ztF++cs.drop (off+n)))⟩):p->TriL xg C ops (o::rest) Q ⟨T,H⟩:=λb=>by simp only[yf]at g;obtain⟨c,d,e,f,h,j,l,m,a⟩:=g;exact .store c d e f (zeS h) j h1 (znq l) m (yr a) (k b)
end
section
variable{p:Prop}{C:Ctx}{ops:Array Oper}{Q:Exit->St->Prop}{rest:List Oper}{T:List (Nat×V)}{H:List Blk}{N:Nat}{al:List Ev}{K:List Ev->List (Nat×V)->Prop}
class HE (n:Nat)(t:outParam Nat):Prop where mk::
class EqD (d:D)(d':outParam D):Prop where eq:d=d'
theorem wk.eqd (n){t}{d d'}[HE n t](hl:look t T=O (.d d))[h:EqD d d'](k:p->TriL xg C ops rest Q ⟨(t,.d d')::T,H⟩):p->TriL xg C ops rest Q ⟨T,H⟩:=λa=>.eqD t hl h.eq (k a)
end
class HTr:Prop where mk::
theorem gX2 [HTr]{g:Prop}(k:g):g:=k
instance eqT1 {l}:EqD (.sl 5 (Tree.encs l)) (.sl 5 (l.map xo)):=⟨by rw[Tree.zuT]⟩
instance eqT2 {a c d}{b}{k}:EqD (.agg [.int a,.sl 3 (b.map wg),.int c,.int d,.sl 5 (k.map xo)]) (xo ⟨a,b,c,d,k⟩):=⟨(Tree.zv4 ⟨a,b,c,d,k⟩).symm⟩
def opT (o:Op)(k:Nat):Option Nat:=match nthO' o.operands.toList k with|some (.tmp t)=>O t|_=>Y where nthO':List Operand->Nat->Option Operand|[],_=>Y|x::_,0=>O x|_::l,n+1=>nthO' l n
theorem wk.oeq {p:Prop}{o}{T}{H}{G}(k){t}{d d'}(g:opT o.op k=O t)(hl:look t T=O (.d d))[h:EqD d d'](kk:p->OpP o (ev ((t,.d d')::T)) H G):p->OpP o (ev T) H G:=λb=>by
 have e:ev ((t,.d d')::T)=ev T:=by funext x;cases x with
  |tmp u=>
   simp only[ev,look];split;·rename_i a;subst a;rw[hl,h.eq]
   ·rfl|_=>rfl
 simp_all
section
variable{α β δ ε ζ γ R:Type}{r:R}{xs:List D}{K:D->Prop}{G:Prop}{i:FuncId}
class Ks3 {α β δ γ:outParam Type}(i:FuncId)(f:outParam (α->β->δ->Option γ))(a:outParam (α->D))(b:outParam (β->D))(c:outParam (δ->D))(e:outParam (γ->D)):Prop where ok:∀t0 t1 t2 r,f t0 t1 t2=O r->Pure xg i [a t0,b t1,c t2] (e r)
class Ks5 {α β δ ε ζ γ:outParam Type}(i:FuncId)(f:outParam (α->β->δ->ε->ζ->Option γ))(a:outParam (α->D))(b:outParam (β->D))(c:outParam (δ->D))(d:outParam (ε->D))(q:outParam (ζ->D))(e:outParam (γ->D)):Prop where ok:∀t0 t1 t2 t3 t4 r,f t0 t1 t2 t3 t4=O r->Pure xg i [a t0,b t1,c t2,d t3,q t4] (e r)
theorem Ks5.c {f}{a b c d q e}[k:Ks5 i f a b c d q e]{x:α}{y:β}{z:δ}{u:ε}{v:ζ}{kk:γ->Option R}(hx:xs=[a x,b y,c z,d u,q v])(g:∀v,kk v=O r->K (e v)):(f x y z u v).bind kk=O r->ztT i xs K:=λh=>by obtain⟨v,l,j⟩:=ztO h;exact⟨_,hx▸k.ok _ _ _ _ _ _ l,g v j⟩
section
variable[Inhabited γ]
end
theorem Ks4.g [Inhabited γ]{f:α->β->δ->ε->Option γ}{a b c d e}[k:Ks4 i f a b c d e]{x}{y}{z}{u}(hv:G->(f x y z u).isSome=U)(hx:xs=[a x,b y,c z,d u])(g:G->K (e ((f x y z u).getD J))):G->ztT i xs K:=λh=>⟨_,hx▸k.ok _ _ _ _ _ (zt2 (hv h)),g h⟩
theorem Kd2.self {f:Nat->α->β->Option γ}{a b e}(h0:∀x y,f 0 x y=Y)(hs:∀n,Ks2 i (f n) a b e->∀x y r,f (n+1) x y=O r->Pure xg i [a x,b y] (e r)):Kd2 i f a b e:=⟨λn=>by induction n with|zero=>simp_all|succ n ih=>exact hs n ⟨ih⟩⟩
theorem Kd4.self {f:Nat->α->β->δ->ε->Option γ}{a b c d e}(h0:∀x y z u,f 0 x y z u=Y)(hs:∀n,Ks4 i (f n) a b c d e->∀x y z u r,f (n+1) x y z u=O r->Pure xg i [a x,b y,c z,d u] (e r)):Kd4 i f a b c d e:=⟨λn=>by induction n with|zero=>simp_all|succ n ih=>exact hs n ⟨ih⟩⟩
theorem Kd5.self {f:Nat->α->β->δ->ε->ζ->Option γ}{a b c d q e}(h0:∀x y z u v,f 0 x y z u v=Y)(hs:∀n,Ks5 i (f n) a b c d q e->∀x y z u v r,f (n+1) x y z u v=O r->Pure xg i [a x,b y,c z,d u,q v] (e r)):Kd5 i f a b c d q e:=⟨λn=>by induction n with|zero=>simp_all|succ n ih=>exact hs n ⟨ih⟩⟩
end
section
variable{p:Prop}{C:Ctx}{c:Code}{ops:Array Oper}{Q:Exit->St->Prop}{o:Oper}{rest l:List Oper}{s:St}{T:List (Nat×V)}{H:List Blk}{e:Operand->Option V}{G:V->Prop}{N:Nat}{al:List Ev}{K:List Ev->List (Nat×V)->Prop}{i:FuncId}{xs:List D}{R:D->Prop}
class HX:Prop where mk::
theorem gX [HX]{g:Prop}(k:g):g:=k
theorem gT (k:p->Tri xg C c Q s):p->Tri xg C c Q s:=k
theorem gL (k:p->TriL xg C ops l Q s):p->TriL xg C ops l Q s:=k
theorem gQ (k:p->TriQ xg N ops H l al T K):p->TriQ xg N ops H l al T K:=k
theorem gO (k:p->OpP o e H G):p->OpP o e H G:=k
theorem gC (k:p->ztT i xs R):p->ztT i xs R:=k
def ownR:Op->Bool
 |.alloc _=>U|.assign (.const (.slice Y 0 0))=>U|.buildSlice _ _ _=>U|.makeSlice _ _ _=>U|.makeMap _ _=>U|.build _ _=>U|.call c=>match c.callee with
  |.builtin .append=>U|_=>M
 |_=>M
theorem gP (h:ownR o.op=M)(k:p->TriL xg C ops (o::rest) Q s):p->TriL xg C ops (o::rest) Q s:=k
theorem gN (h:o.dst=Y)(k:p->TriL xg C ops (o::rest) Q s):p->TriL xg C ops (o::rest) Q s:=k
theorem gI {t}{x y}(h:o.op=.indexAddr t x y)(k:p->OpP o e H G):p->OpP o e H G:=k
theorem gV {q}{a}{b}(h:o.op=.call {callee:=.value q,args:=a,argTypes:=b})(k:p->OpP o e H G):p->OpP o e H G:=k
theorem gU {b}{x}{y}(h:o.op=.call {callee:=.builtin b,args:=x,argTypes:=y})(k:p->OpP o e H G):p->OpP o e H G:=k
theorem gB {b}{t u}{x y}(h:o.op=.binOp b t x y u)(k:p->OpP o e H G):p->OpP o e H G:=k
theorem g1 {a}(k:p->ztT i [a] R):p->ztT i [a] R:=k
theorem g2 {a b}(k:p->ztT i [a,b] R):p->ztT i [a,b] R:=k
theorem g3 {a b c}(k:p->ztT i [a,b,c] R):p->ztT i [a,b,c] R:=k
end
def nlK {β:Type}:List Operand->List TypeId->List D->(List D->β)->β
 |.const (.slice Y 0 0)::xs,t::ts,d::ds,k=>match d with
  |.val (.slice Y 0 0)=>match tX t with
   |some kk=>nlK xs ts ds λl=>k (.sl kk []::l)|none=>nlK xs ts ds λl=>k (d::l)
  |_=>nlK xs ts ds λl=>k (d::l)
 |_::xs,_::ts,d::ds,k=>nlK xs ts ds λl=>k (d::l)|_,_,ds,k=>k ds
theorem zsY {β}:∀(xs)(ts)(ds)(k:List D->β),nlK xs ts ds k=k (ze7 xs ts ds):=by
 intro xs ts ds k;induction xs,ts,ds,k using nlK.induct (β:=β)<;>simp_all[nlK,ze7]
theorem wk.oca {p:Prop}{o}{e}{H}{G}{f:FuncId}{args}{tys}{xs xs'}(g:(o.op,memN tCl f,evs e args.toList)=(.call {callee:=.value (.func f),args:=args,argTypes:=tys},U,O xs))(g2:nlK args.toList tys.toList xs O=O xs')(k:p->ztT f xs' λd=>G (.d d)):p->OpP o e H G:=wk.ocall g (vE ((zsY _ _ _ _).symm.trans g2)) k
instance eqT3 {a c d:Int}{b:List Step}{k:List Tree}:EqD (.sl 5 [.agg [.int a,.sl 3 (b.map wg),.int c,.int d,.sl 5 (k.map xo)]]) (.sl 5 [xo ⟨a,b,c,d,k⟩]):=⟨by rw[Tree.zv4]⟩
class Cln (f:FuncId)(t:TypeId):Prop where ok:∃fn,xg.funcs[f]?=O fn/\fn.body=O (zga t)/\fn.ntmps=8/\fn.results=#[.tmp 2]
section
variable{R:Type}{r:R}{C:Ctx}{ops:Array Oper}{o:Oper}{rest:List Oper}{Q:Exit->St->Prop}{T:List (Nat×V)}{H:List Blk}
theorem wk.cln {α}{f j el kk b t}{q}{enc:α->D}{xs:List α}{F:List α->Option R}[HS j][hc:Cln f t](g:(o.guard,o.op,o.dst,xz j C.n,memN tCl f,ev T q,tE t,xz 0 b,T.all λp=>p.2.under H.length,xP C.gn H.length)=(Y,.call {callee:=.value (.func f),args:=#[q],argTypes:=#[t]},O j,U,U,O (.d (.sl kk (xs.map enc))),O (el,kk,b),U,U,U))(k:∀zs,F zs=O r->TriL xg C ops rest Q ⟨(j,.vec H.length zs.length)::T,H++[.vec el kk (zs.map enc)]⟩)(ho:∀z,(enc z).ones=true:=by exactλ_=>rfl)(hk:∀z,(enc z).kOK kk=true:=by exactλ_=>rfl):(Go.Proofs.YtipkniadbkndfaaGreatDoor.app b [] xs).bind F=O r->TriL xg C ops (o::rest) Q ⟨T,H⟩:=λh=>by simp only[yf]at g;obtain⟨g1,g2,g3,g4,g5,g6,g7,g8,g9,ga⟩:=g;obtain⟨fn,h1,h2,h3,h4⟩:=hc.ok;obtain⟨v,y,a⟩:=ztO h;exact .clone g1 g2 g3 g4 (zt0 g5) h1 h2 h3 h4 g6 (zxq g7) g8 ho hk y g9 ga (k v a)
end
section
variable{p:Prop}{C:Ctx}{ops:Array Oper}{o:Oper}{rest:List Oper}{Q:Exit->St->Prop}{T:List (Nat×V)}{H:List Blk}
end
section
class Kf3 {α β δ γ:outParam Type}(i:FuncId)(f:outParam (Nat->α->(β->Option δ)->(β->Option δ)->Option γ))(a:outParam (α->D))(b:outParam (β->D))(d:outParam (δ->D))(e:outParam (γ->D)):Prop where ok:∀n t0 t1 F,Fn1 b d t1 F->∀t2 G,Fn1 b d t2 G->∀r,f n t0 t1 t2=O r->Pure xg i [a t0,F,G] (e r)
variable{α β δ ε γ R:Type}{i:FuncId}{n:Nat}{xs:List D}{r:R}{K:D->Prop}{G:Prop}
theorem Kf3.cf {f}{a b d e}[k:Kf3 i f a b d e]{x:α}{y z:β->Option δ}{j l}{cs es}{kk:γ->Option R}(hx:xs=[a x,.fn (.func j) [] cs,.fn (.func l) [] es])(hc:(memN tCl j&&memN tCl l)=U)(hf:∀q v,y q=O v->ztT j (b q::cs) λw=>w=d v)(hg:∀q v,z q=O v->ztT l (b q::es) λw=>w=d v)(c:∀v,kk v=O r->K (e v)):(f n x y z).bind kk=O r->ztT i xs K:=λh=>by obtain⟨v,j,g⟩:=ztO h;simp only[yd]at hc;exact⟨_,hx▸k.ok _ _ _ _ (fn1 hc.1 hf) _ _ (fn1 hc.2 hg) _ j,c v g⟩
end
section
class HI (f:FuncId)(fn:outParam Func)(N:outParam Nat)(rs:outParam (List ResultVar)):Prop where ok:xg.funcs[f]?=O fn/\fn.ntmps=N/\fn.results=rs.toArray
variable{p:Prop}{C:Ctx}{ops:Array Oper}{o:Oper}{rest:List Oper}{Q:Exit->St->Prop}{T:List (Nat×V)}{H:List Blk}
theorem wk.inl {f fn N rs}{args:Array Operand}{tys:Array TypeId}{xs:List V}{c:Code}(g0:o.op=.call {callee:=.value (.func f),args:=args,argTypes:=tys})[hI:HI f fn N rs](g:(o.guard,ztK o.dst C.n,memN tCl f,evsV (ev T) args.toList,xP xs.length N,T.all λp=>p.2.under H.length,xP C.gn H.length)=(Y,U,U,O xs,U,U,U))(hb:fn.body=O c)(k:∀(own0:Nat->Prop)(w:World)(gh:List (V×Value)),p->Tri xg ⟨C.A0,own0,w,N,λ_ _=>False,gh,H.length,[]⟩ c (zww xg rs (λv H'=>TriL xg C ops rest Q ⟨putT T o.dst v,H'⟩) λch H'=>Q (.panic ch) ⟨T,H'⟩) ⟨zbk 0 xs,H⟩):p->TriL xg C ops (o::rest) Q ⟨T,H⟩:=λhp=>by simp only[yf]at g;obtain⟨g1,g3,g4,g5,g6,g7,g8⟩:=g;exact .zwT g1 g3 (.stat g0 (zt0 g4) g5) hI.ok.1 hb hI.ok.2.1 hI.ok.2.2 g6 g7 g8 λa b d=>k a b d hp
def zxo (T:List (Nat×V)):List ResultVar->Option (List V)
 |[]=>O []|.tmp t::rs=>match look t T,zxo T rs with
  |some v,O vs=>O (v::vs)|_,_=>Y
 |_=>Y
theorem zoL {s:St}:∀{rs vs},zxo s.T rs=O vs->ResV s rs vs
 |[],vs,h=>by cases h;rfl|.tmp t::rs,vs,h=>by
  simp only[zxo]at h;split at h<;>cases h;rename_i h1 h2;exact⟨_,_,rfl,h1,zoL h2⟩|.cell _ _::_,_,h=>by cases h
theorem zqp {P:Program}{s:St}{rs vs}(h:zxo s.T rs=O vs):ResC P s rs (zdy vs):=by
 unfold ResC;split;·cases h
 ·exact⟨_,zoL h,rfl⟩
variable{s:St}{P:Program}{rs:List ResultVar}{K:V->List Blk->Prop}{Kp:List PanicEntry->List Blk->Prop}{vs:List V}
theorem wk.vR (g:zxo s.T rs=O vs)(k:p->K (zdy vs) s.H):p->zww P rs K Kp .ret s:=λhp=>.inl ⟨.inl rfl,_,zqp g,k hp⟩
theorem wk.vN (g:zxo s.T rs=O vs)(k:p->K (zdy vs) s.H):p->zww P rs K Kp .normal s:=λhp=>.inl ⟨.inr rfl,_,zqp g,k hp⟩
theorem wk.vC {tt ty i T0:Nat}{cs:List V}(g:(look tt s.T,s.H[i]?,tS ty)=(O (.loc i 0),O (.box T0 cs),O (O cs.length)))(k:p->K (zxl cs) s.H):p->zww xg [.cell tt ty] K Kp .ret s:=λhp=>by simp only[yf]at g;exact .inl ⟨.inl rfl,_,⟨i,T0,cs,g.1,g.2.1,Tab.sh _ _ g.2.2,rfl⟩,k hp⟩
end
section
variable{p:Prop}{C:Ctx}{ops:Array Oper}{o:Oper}{rest:List Oper}{Q:Exit->St->Prop}{T:List (Nat×V)}{H:List Blk}
theorem wk.bxv {j t}{q}{v:V}[HS j](g:(o.guard,o.op,o.dst,xz j C.n,ev T q)=(Y,.box t q,O j,U,O v))(h:zu7 H v.ztF)(k:p->TriL xg C ops rest Q ⟨(j,.loc H.length 0)::T,H++[.box t v.ztF]⟩):p->TriL xg C ops (o::rest) Q ⟨T,H⟩:=λhp=>by simp only[yf]at g;obtain⟨g1,g2,g3,g4,g5⟩:=g;exact .box g1 g2 g3 g4 g5 h (k hp)
end
section
variable{p:Prop}{C:Ctx}{ops:Array Oper}{o:Oper}{rest:List Oper}{Q:Exit->St->Prop}{T:List (Nat×V)}{H:List Blk}{e:Operand->Option V}{G:V->Prop}
theorem wk.mkv {g:FuncId}{cs:Array Operand}{vs:List V}(h:(o.op,evsV e cs.toList)=(.makeFunc (.func g) #[] cs,O vs))(k:p->G (.fn (.func g) [] vs)):p->OpP o e H G:=λhp=>by simp only[yf]at h;exact⟨_,.zu1 h.1 h.2,k hp⟩
class Kr1 {α:outParam Type}(i:FuncId)(a:outParam (α->D))(F:outParam (α->D)):Prop where ok:∀x,Pure xg i [a x] (F x)
theorem Kr1.c {α:Type}{i}{a F:α->D}[k:Kr1 i a F]{x}{xs:List D}{K:D->Prop}(hx:xs=[a x])(c:p->K (F x)):p->ztT i xs K:=λh=>⟨_,hx▸k.ok x,c h⟩
theorem wk.inlc {f fn N rs}{x:Operand}{args:Array Operand}{tys:Array TypeId}{xs caps:List V}{c:Code}(g0:(o.op,ev T x)=(.call {callee:=.value x,args:=args,argTypes:=tys},O (.fn (.func f) [] caps)))[hI:HI f fn N rs](g:(o.guard,ztK o.dst C.n,memN tCl f,evsV (ev T) args.toList,xP (xs++caps).length N,T.all λp=>p.2.under H.length,xP C.gn H.length)=(Y,U,U,O xs,U,U,U))(hb:fn.body=O c)(k:∀(own0:Nat->Prop)(w:World)(gh:List (V×Value)),p->Tri xg ⟨C.A0,own0,w,N,λ_ _=>False,gh,H.length,[]⟩ c (zww xg rs (λv H'=>TriL xg C ops rest Q ⟨putT T o.dst v,H'⟩) λch H'=>Q (.panic ch) ⟨T,H'⟩) ⟨zbk 0 (xs++caps),H⟩):p->TriL xg C ops (o::rest) Q ⟨T,H⟩:=λhp=>by simp only[yf]at g g0;obtain⟨g1,g3,g4,g5,g6,g7,g8⟩:=g;exact .zwT g1 g3 (.clos g0.1 g0.2 (zt0 g4) g5) hI.ok.1 hb hI.ok.2.1 hI.ok.2.2 g6 g7 g8 λa b d=>k a b d hp
end
section
variable{p:Prop}{o:Oper}{H:List Blk}{e:Operand->Option V}{G:V->Prop}
theorem wk.ofe {t f o1 i n j off el kk:Nat}{q:Operand}{xs:List D}(g:(o.op,e q,H[i]?,tF t f)=(Op.fieldAddr t q f,O (V.el i n j off),O (Blk.vec el kk xs),O o1))(hn:n=xs.length)(k:p->G (.el i n j (off+o1))):p->OpP o e H G:=λhp=>by simp only[yf]at g;obtain⟨g1,g2,g3,g4⟩:=g;exact⟨_,.fieldEl g1 g2 g3 hn (Tab.fl _ _ _ g4),k hp⟩
theorem wk.olf {α:Type}{t b n el kk off:Nat}{q:Operand}{xs:List α}{enc:α->D}{a:Int}{v:α}{s:Option Nat}{cs:List D}{y:D}(g:(o.op,e q,H[b]?,tS t)=(.load t q,O (.el b n a.toNat off),O (.vec el kk (xs.map enc)),O s))(hv:idx xs a=O v)(hc:(enc v,zlk cs off s,y.shape)=(.agg cs,O y,s))(k:p->G (.d y))(hn:n=xs.length:=by exact lnS):p->OpP o e H G:=λhp=>by simp only[yf]at g hc;exact⟨_,.loadElF g.1 g.2.1 g.2.2.1 hn hv (Tab.sh _ _ g.2.2.2) hc.1 hc.2.1 hc.2.2,k hp⟩
end
def relL (i m:Nat):List V->List V|.vec j n::l=>.vec j (match wR i j with|true=>m|false=>n)::relL i m l|v::l=>v::relL i m l|[]=>[]
def relB (i m:Nat):List Blk->List Blk|.box t cs::l=>.box t (relL i m cs)::relB i m l|b::l=>b::relB i m l|[]=>[]
theorem zmi {i m el kk:Nat}{xs:List D}:∀{H:List Blk}{j},relB i m (H.set j (.vec el kk xs))=(relB i m H).set j (.vec el kk xs)|[],_=>rfl|b::l,0=>by cases b<;>rfl|b::l,j+1=>by cases b<;>simp only[List.set_cons_succ,relB,zmi (H:=l)]
section
variable{R:Type}{r:R}{C:Ctx}{ops:Array Oper}{o:Oper}{rest:List Oper}{Q:Exit->St->Prop}{T:List (Nat×V)}{H:List Blk}
theorem wk.tsf {t i n kk el off:Nat}{q z:Operand}{α:Type}{enc:α->D}{xs:List α}{a:Int}{x0 y:α}{ds:List D}{dy:D}{f:List α->Option R}(g:(o.guard,o.op,o.dst,ev T q,H[i]?,ev T z,tC t)=(Y,.store t q z,Y,O (.el i n a.toNat off),O (.vec el kk (xs.map enc)),O (.d dy),O 1))(h0:idx xs a=O x0)(g2:(dy.shape,dy.ones,xz off kk,enc x0,D.agg (ds.set off dy))=(Y,U,U,.agg ds,enc y))(k:∀v,f v=O r->TriL xg C ops rest Q ⟨relT i v.length (dedT [] T),relB i v.length (H.set i (.vec el kk (v.map enc)))⟩)(hn:n=xs.length:=by exact rfl)(he:(relT i xs.length (dedT [] T),relB i xs.length H)=(dedT [] T,H):=by exact rfl):(sto xs a y).bind f=O r->TriL xg C ops (o::rest) Q ⟨T,H⟩:=λh=>by simp only[yf]at g g2 he;obtain⟨e,u,j,l,m,p,s⟩:=g;obtain⟨v,c,b⟩:=ztO h;have:=k v b;rw[zmi,(zcd c).symm,he.1,he.2]at this;exact .storeElF e u j l m hn p g2.1 g2.2.1 (znq s) h0 g2.2.2.2.1 g2.2.2.2.2 g2.2.2.1 c (.ded this)
theorem wk.tsb {t i n kk el:Nat}{q z:Operand}{α:Type}{enc:α->D}{xs:List α}{a:Int}{y:α}{f:List α->Option R}(g:(o.guard,o.op,o.dst,ev T q,H[i]?,ev T z,tC t)=(Y,.store t q z,Y,O (.el i n a.toNat 0),O (.vec el kk (xs.map enc)),O (.d (enc y)),O kk))(g2:((enc y).kOK kk,(enc y).ones)=(U,U))(k:∀v,f v=O r->TriL xg C ops rest Q ⟨relT i v.length (dedT [] T),relB i v.length (H.set i (.vec el kk (v.map enc)))⟩)(hn:n=xs.length:=by exact rfl)(he:(relT i xs.length (dedT [] T),relB i xs.length H)=(dedT [] T,H):=by exact rfl):(sto xs a y).bind f=O r->TriL xg C ops (o::rest) Q ⟨T,H⟩:=λh=>by simp only[yf]at g g2 he;obtain⟨e,u,j,l,m,p,s⟩:=g;obtain⟨v,c,b⟩:=ztO h;have:=k v b;rw[zmi,(zcd c).symm,he.1,he.2]at this;exact .zuD e u j l m hn p g2.1 g2.2 (znq s) c (.ded this)
end
section
variable{p:Prop}{C:Ctx}{ops:Array Oper}{Q:Exit->St->Prop}{c:Code}{rest:List Oper}{T:List (Nat×V)}{H:List Blk}{ids ts:List Nat}
theorem wk.frz' {i:Nat}(hi:hid c=O i)[HF i ids ts](g:live H ids=U)(g0:C.own0=ze)(k:p->FrzG T H ids ts λds=>Tri xg C c Q ⟨frzT ds T,zt7 ids H⟩):p->Tri xg C c Q ⟨T,H⟩:=wk.frz hi g k
end
section
variable{p:Prop}{C:Ctx}{Q:Exit->St->Prop}{l l1 l2:List Oper}{T:List (Nat×V)}{H:List Blk}
class HD (i:Nat)(n:outParam Nat):Prop where mk::
theorem wk.regH {id n}[HD id n](h:cutN n l (λa b=>O (a,b))=O (l1,l2))(k:p->TriQ xg C.n l.toArray H l1 [] T λal T=>TriL xg C l.toArray l2 Q (zk7 xg H al T))(h1:regOK l n=true:=by kernel_rfl)(h2:(zfC (l.take n)&&zei (l.take n))=true:=by kernel_rfl):p->Tri xg C (.region id l.toArray U) Q ⟨T,H⟩:=λc=>by simp only[zir]at h;cases h;exact .draw n Hm h1 h2 (k c)
end
def hidN (n:Nat)(c:Code):Option Nat:=match hid c with|some i=>O (i+1000*n)|none=>Y
section
variable{p:Prop}{C:Ctx}{Q:Exit->St->Prop}{s:St}{x y c:Code}{R:Type}{r:R}{i:Nat}{ks:List Nat}{K:List (Nat×V)}{σ:Type}
theorem zl2 {n}(h:hidN n c=O i):∃j,hid c=O j:=by
 unfold hidN at h;split at h;·exact⟨_,‹_›⟩
 ·cases h
theorem wk.Li {body}{n}{init:σ}{u}{f}{T:σ->List (Nat×V)}{xf:σ->List Blk}{X}(hi:hidN C.n c=O i)[HL i ks u f](g1:zvT ks s.T []=O K)(g2:(λv=>nfH (over s.H (f s.H v)) O)=λv=>O (xf v))(g3:(λv=>appK (u v) K O)=λv=>O (T v))(g:(s.H,(xf init).all (Blk.under (xf init).length),(T init).all λp=>p.2.under (xf init).length,lks (T init) s.T,xP C.gn s.H.length)=(xf init++X,U,U,vls (T init),U))(hb:∀(rec)(v),body rec v=O r->Tri xg C c (zvz rec r (λv=>⟨T v,xf v⟩) Q) ⟨T v,xf v⟩):ztg body n init=O r->Tri xg C (.loop c) Q s:=by
 obtain⟨j,hj⟩:=zl2 hi;have:HL j ks u f:=⟨⟩;exact wk.L hj g1 g2 g3 g hb
theorem wk.Ji {k:σ->Option R}{m}{u}{f}{T:σ->List (Nat×V)}{xf:σ->List Blk}(hi:hidN C.n y=O i)[HJ i ks u f](g1:zvT ks s.T []=O K)(g2:(λv=>nfH (over s.H (f s.H v)) O)=λv=>O (xf v))(g3:(λv=>appK (u v) K O)=λv=>O (T v))(g:xP C.gn s.H.length=U)(hm:∀k',m k'=O r->Tri xg C x (zvz k' r (λv=>⟨T v,xf v⟩) Q) s)(hk:∀v,k v=O r->Tri xg C y Q ⟨T v,xf v⟩):jn k m=O r->Tri xg C (.seq x y) Q s:=by
 obtain⟨j,hj⟩:=zl2 hi;have:HJ j ks u f:=⟨⟩;exact wk.xf hj g1 g2 g3 g hm hk
end
def zxF (T:List (Nat×V))(ids:List Nat):List Nat->Bool
 |t::ts=>match look t T with
  |some (.vec j _)=>match memN ids j with
   |true=>zxF T ids ts|false=>M
  |some (.loc j _)=>match memN ids j with|true=>zxF T ids ts|false=>M
  |some _=>zxF T ids ts|none=>M
 |[]=>U
def tagN (n:Nat):Option Nat->Option Nat|some i=>O (i+1000*n)|none=>Y
theorem zsq {n i}{o:Option Nat}(h:tagN n o=O i):∃j,o=O j:=by cases o with|none=>cases h|some j=>exact⟨j,rfl⟩
section
variable{p:Prop}{C:Ctx}{ops:Array Oper}{Q:Exit->St->Prop}{c:Code}{rest:List Oper}{T:List (Nat×V)}{H:List Blk}{ids ts:List Nat}{i:Nat}
theorem wk.frzi (hi:hidN C.n c=O i)[HF i ids ts](g:(live H ids,zxF T ids ts)=(U,U))(k:p->FrzG T H ids ts λds=>Tri xg C c Q ⟨frzT ds T,zt7 ids H⟩):p->Tri xg C c Q ⟨T,H⟩:=by
 obtain⟨j,hj⟩:=zl2 hi;have:HF j ids ts:=⟨⟩;simp only[yf]at g;exact wk.frz hj g.1 k
class HF2 (i:Nat)(ids ts:outParam (List Nat)):Prop where mk::
theorem wk.frzj {p:Prop}{C:Ctx}{c:Code}{Q:Exit->St->Prop}{T:List (Nat×V)}{H:List Blk}{ids ts:List Nat}{i:Nat}(hi:hidN C.n c=O i)[HF2 i ids ts](g:(live H ids,zxF T ids ts)=(U,U))(k:p->FrzG T H ids ts λds=>Tri xg C c Q ⟨frzT ds T,zt7 ids H⟩):p->Tri xg C c Q ⟨T,H⟩:=by
 obtain⟨j,hj⟩:=zl2 hi;have:HF j ids ts:=⟨⟩;simp only[yf]at g;exact wk.frz hj g.1 k
theorem wk.frzL' (hi:dst1 rest=O i)[HG i ids ts](g:live H ids=U)(g0:C.own0=ze)(k:p->FrzG T H ids ts λds=>TriL xg C ops rest Q ⟨frzT ds T,zt7 ids H⟩):p->TriL xg C ops rest Q ⟨T,H⟩:=wk.frzL hi g k
theorem wk.frzZ' {m}(hi:zxI ops.toList Y=O i)[HZ i m ids ts](g:(noDst rest m,live H ids)=(U,U))(g0:C.own0=ze)(kk:p->FrzG T H ids ts λds=>TriL xg C ops rest Q ⟨frzT ds T,zt7 ids H⟩):p->TriL xg C ops rest Q ⟨T,H⟩:=wk.frzZ hi g kk
theorem wk.frzZi {m}(hi:tagN C.n (zxI ops.toList Y)=O i)[HZ i m ids ts](g:(noDst rest m,live H ids)=(U,U))(kk:p->FrzG T H ids ts λds=>TriL xg C ops rest Q ⟨frzT ds T,zt7 ids H⟩):p->TriL xg C ops rest Q ⟨T,H⟩:=by
 obtain⟨j,hj⟩:=zsq hi;have:HZ j m ids ts:=⟨⟩;exact wk.frzZ hj g kk
end
section
variable{p:Prop}{o:Oper}{H:List Blk}{e:Operand->Option V}{G:V->Prop}
theorem wk.onS {α}{enc}{de}{q z}{t u:Nat}{a b:α}[hE:EqS t enc de](g:(o.op,e z,e q)=(.binOp .neq t q z u,O (.d (enc b)),O (.d (enc a))))(k:p->G (.d (.bool (!@Z (a=b) (de a b))))):p->OpP o e H G:=by simp only[yf]at g;exact wk.osn (by simp only[yf];exact⟨g.1,g.2.2,g.2.1⟩) k
end
section
variable{R:Type}{r:R}{p:Prop}{C:Ctx}{ops:Array Oper}{Q:Exit->St->Prop}{o:Oper}{rest:List Oper}{T:List (Nat×V)}{H:List Blk}{i:Nat}
theorem wk.tnvi {j el kk b}(g:(o.guard,o.op,o.dst,xz j C.n,tE o.type)=(Y,.assign (.const (.slice Y 0 0)),O j,U,O (el,kk,b)))(hj:tagN C.n (O j)=O i)[HS i](k:p->TriL xg C ops rest Q ⟨(j,.vec H.length 0)::(j,.d (.val (.slice Y 0 0)))::T,H++[.vec el kk []]⟩):p->TriL xg C ops (o::rest) Q ⟨T,H⟩:=have:HS j:=⟨⟩;wk.tnv g k
theorem wk.clnb {α}{f j el kk b t i0 n el':Nat}{q}{enc:α->D}{xs:List α}{F:List α->Option R}(g:(o.guard,o.op,o.dst,xz j C.n,memN tCl f,ev T q,H[i0]?,tE t,xz 0 b)=(Y,.call {callee:=.value (.func f),args:=#[q],argTypes:=#[t]},O j,U,U,O (.vec i0 n),O (.vec el' kk (xs.map enc)),O (el,kk,b),U))[hc:Cln f t](hj:tagN C.n (O j)=O i)[HS i](k:∀zs,F zs=O r->TriL xg C ops rest Q ⟨(j,.vec H.length zs.length)::T,H++[.vec el kk (zs.map enc)]⟩)(hn:n=xs.length:=by exact lnS)(ho:∀z,(enc z).ones=true:=by exactλ_=>rfl)(hk:∀z,(enc z).kOK kk=true:=by exactλ_=>rfl)(hs:∀z,(enc z).scal=true:=by exactλ_=>rfl):(Go.Proofs.YtipkniadbkndfaaGreatDoor.app b [] xs).bind F=O r->TriL xg C ops (o::rest) Q ⟨T,H⟩:=λh=>by simp only[yf]at g;obtain⟨g1,g2,g3,g4,g5,g6,g7,g8,g9⟩:=g;obtain⟨fn,h1,h2,h3,h4⟩:=hc.ok;obtain⟨v,y,a⟩:=ztO h;exact .cloneB g1 g2 g3 g4 (zt0 g5) h1 h2 h3 h4 g6 g7 hn (zxq g8) g9 ho hk hs y (k v a)
inductive AllE (m:Nat):List Nat->Prop|nil:AllE m []|cons{n l}:n=m->AllE m l->AllE m (n::l)
theorem AllE.ok {m}:∀{l},AllE m l->l=l.map λ_=>m|_,.nil=>rfl|_,.cons e h=>by rw[yW,<-h.ok,e]
def relK {β:Type}(i m:Nat):List (Nat×V)->(List (Nat×V)->β)->β
 |[],k=>k []|(t,.vec j n)::T,k=>relK i m T λT=>match wR i j with
  |true=>k ((t,.vec j m)::T)|false=>k ((t,.vec j n)::T)
 |q::T,k=>relK i m T λT=>k (q::T)
theorem zqm {β:Type}{i m}:∀(T)(k:List (Nat×V)->β),relK i m T k=k (relT i m T)
 |[],k=>rfl|(t,v)::T,k=>by
  cases v<;>simp only[relK,relT,zqm T];split<;>simp_all
theorem wk.rt {α:Type}{p:Prop}(j){c:Code}{t k:Nat}{enc:α->D}{l:List α}{L:List Nat}{T'}(g:H[j]?=O (.vec t k (l.map enc)))(hT:lens j T=L)(h':relK j l.length T O=O T')(a:AllE l.length L)(kk:p->Tri xg C c Q ⟨T',H⟩):p->Tri xg C c Q ⟨T,H⟩:=λh=>by have b:=kk h;rw[zqm,yn]at h';rw[<-h',zmj (zka (hT▸a.ok))]at b;exact b
class HOs (t:outParam Nat):Prop where mk::
theorem wk.gto {α:Type}{t k:Nat}{enc:α->D}{l:List α}{m:Option R}[HOs t](hl:look t T=O (.d (.sl k (l.map enc))))(kk:m=O r->TriL xg C ops rest Q ⟨(t,.d (.osl k (l.map enc)))::T,H⟩):grd (!l.isEmpty) m=O r->TriL xg C ops rest Q ⟨T,H⟩:=λh=>.toOsl (l:=l) (enc:=enc) t hl (by simpa using(grdS h).1) (kk (grdS h).2)
theorem wk.onz {p:Prop}{e:Operand->Option V}{G:V->Prop}{q:Operand}{t u k kk:Nat}{α:Type}{enc:α->D}{l:List α}(g:(o.op,e q,tX t)=(.binOp .neq t q (.const (.slice Y 0 0)) u,O (.d (.osl k (l.map enc))),O kk))(h:p->G (.d (.bool (!l.isEmpty)))):p->OpP o e H G:=λhp=>by simp only[yf]at g;obtain⟨el,a,_⟩:=zvU g.2.2;exact⟨_,.oslNeq g.1 a g.2.1,h hp⟩
theorem wk.alAi {t j}{d}(g:(o.guard,o.op,o.dst,xz j C.n,tZd t,d.ones)=(Y,.alloc t,O j,U,O d,U))(hj:tagN C.n (O j)=O i)[HA i](k:p->TriL xg C ops rest Q ⟨(j,.loc H.length 0)::T,H++[.box t (V.ztF (.d d))]⟩):p->TriL xg C ops (o::rest) Q ⟨T,H⟩:=wk.alo g k
theorem wk.bxvi {j t}{q}{v:V}(g:(o.guard,o.op,o.dst,xz j C.n,ev T q)=(Y,.box t q,O j,U,O v))(hj:tagN C.n (O j)=O i)[HS i](h:zu7 H v.ztF)(k:p->TriL xg C ops rest Q ⟨(j,.loc H.length 0)::T,H++[.box t v.ztF]⟩):p->TriL xg C ops (o::rest) Q ⟨T,H⟩:=have:HS j:=⟨⟩;wk.bxv g h k
end
section
variable{p:Prop}{C:Ctx}{ops:Array Oper}{o:Oper}{rest:List Oper}{Q:Exit->St->Prop}{T:List (Nat×V)}{H H':List Blk}{m:Nat}
theorem wk.in2 {f fn N rs}{args:Array Operand}{tys:Array TypeId}{xs ys:List V}{c:Code}(g0:o.op=.call {callee:=.value (.func f),args:=args,argTypes:=tys})[hI:HI f fn N rs](g2:(nfH H O,nfN H.length O)=(O H',O m))(g:(o.guard,ztK o.dst C.n,memN tCl f,evsV (ev T) args.toList,xP xs.length N,T.all λp=>p.2.under m,xP C.gn m)=(Y,U,U,O xs,U,U,U))(gx:nfVl xs O=O ys)(hb:fn.body=O c)(k:∀(own0:Nat->Prop)(w:World)(gh:List (V×Value)),p->Tri xg ⟨C.A0,own0,w,N,λ_ _=>False,gh,m,[]⟩ c (zww xg rs (λv H'=>TriL xg C ops rest Q ⟨putT T o.dst v,H'⟩) λch H'=>Q (.panic ch) ⟨T,H'⟩) ⟨zbk 0 ys,H'⟩):p->TriL xg C ops (o::rest) Q ⟨T,H⟩:=by simp only[yf,zkn,zoF,zmd,yn]at g2 gx;obtain⟨rfl,rfl⟩:=g2;subst gx;exact wk.inl g0 g hb k
theorem wk.ic2 {f fn N rs}{x:Operand}{args:Array Operand}{tys:Array TypeId}{xs ys caps:List V}{c:Code}(g0:(o.op,ev T x)=(.call {callee:=.value x,args:=args,argTypes:=tys},O (.fn (.func f) [] caps)))[hI:HI f fn N rs](g2:(nfH H O,nfN H.length O)=(O H',O m))(g:(o.guard,ztK o.dst C.n,memN tCl f,evsV (ev T) args.toList,xP (xs++caps).length N,T.all λp=>p.2.under m,xP C.gn m)=(Y,U,U,O xs,U,U,U))(gx:nfVl (xs++caps) O=O ys)(hb:fn.body=O c)(k:∀(own0:Nat->Prop)(w:World)(gh:List (V×Value)),p->Tri xg ⟨C.A0,own0,w,N,λ_ _=>False,gh,m,[]⟩ c (zww xg rs (λv H'=>TriL xg C ops rest Q ⟨putT T o.dst v,H'⟩) λch H'=>Q (.panic ch) ⟨T,H'⟩) ⟨zbk 0 ys,H'⟩):p->TriL xg C ops (o::rest) Q ⟨T,H⟩:=by simp only[yf,zkn,zoF,zmd,yn]at g2 gx;obtain⟨rfl,rfl⟩:=g2;subst gx;exact wk.inlc g0 g hb k
def nfT {β:Type}:List (Nat×V)->(List (Nat×V)->β)->β|[],k=>k []|(t,v)::T,k=>nfV v λv=>nfT T λT=>k ((t,v)::T)
theorem zrN {β:Type}:∀(T)(k:List (Nat×V)->β),nfT T k=k T|[],k=>rfl|(t,v)::T,k=>by rw[nfT,zqd,zrN T]
theorem wk.nf {T'}(g:(nfT T O,nfH H O)=(O T',O H'))(k:p->TriL xg C ops rest Q ⟨T',H'⟩):p->TriL xg C ops rest Q ⟨T,H⟩:=by simp only[yf,zkn,zrN,yn]at g;obtain⟨rfl,rfl⟩:=g;exact k
variable{s:St}{ch:List PanicEntry}{P:Program}
class HPn (t:TypeId):Prop where ok:zdf xg t=O []/\zuF xg t=O []/\∃fs,xg.underlying t=O (.struct fs)
instance:HPn 182:=⟨Pl182,Zc182,_,UE182⟩
theorem wk.pan {t:TypeId}{a b:Nat}{o1 o2 o3:Oper}(g:(o1.guard,o1.op,o1.dst,o2.guard,o2.op,o2.dst,o3.guard,o3.op,xz a C.n,xz b C.n)=(Y,.build t #[],O a,Y,.makeInterface t (.tmp a),O b,Y,.panic (.tmp b),U,U))[h1:HPn t](k:p->Q (.panic [{v:=.iface t (.agg #[]),recovered:=M}]) ⟨(b,.d (.val (.iface t (.agg #[]))))::(a,.d (.agg []))::T,H⟩):p->TriL xg C ops [o1,o2,o3] Q ⟨T,H⟩:=λhp=>by simp only[yf]at g;obtain⟨g1,g2,g3,g4,g5,g6,g7,g8,g9,ga⟩:=g;obtain⟨h2,h3,fs,h4⟩:=h1.ok;refine .op g1 (by rw[g3];exact g9) (.build (pl:=[]) g2 h2 (.agg h3 (ds':=[]) .nil) rfl rfl) ?_;rw[g3];refine .op g4 (by rw[g6];exact ga) (.mkIface g5 h4 (d:=.agg []) (by simp[ev,St.put,look]) (IsV.struct [])) ?_;rw[g6];exact .panic g7 g8 (by simp[ev,St.put,look]) (k hp)
theorem wk.pT {n:St->Prop}(k:p->Q (.panic ch) s):p->zvD n Q (.panic ch) s:=k
theorem wk.pB {i}(k:p->Q (.panic ch) s):p->zeQ i Q (.panic ch) s:=k
theorem wk.pJ {σ R:Type}{kk:σ->Option R}{r:R}{xf:σ->St}(k:p->Q (.panic ch) s):p->zvz kk r xf Q (.panic ch) s:=k
theorem wk.pV {rs K}{Kp:List PanicEntry->List Blk->Prop}(k:p->Kp ch s.H):p->zww P rs K Kp (.panic ch) s:=λhp=>.inr ⟨_,rfl,k hp⟩
def dsV:List V->Option (List D)
 |[]=>O []|.d x::l=>match dsV l with
  |some ds=>O (x::ds)|none=>Y
 |_::_=>Y
theorem zof:∀{cs ds},dsV cs=O ds->cs=ds.map V.d
 |[],_,h=>by cases h;rfl|.d x::l,ds,h=>by
  simp only[dsV]at h;split at h;·cases h;have:=zof (cs:=l) ‹_›;rw[this];rfl
  ·cases h
theorem wk.t2P {A β:Type}{F:A->D×List D}{tt:Tmp}{ty t t1:TypeId}{m k1:Nat}{pv:Value}{cs:List V}{cs':List D}{xs:List β}{enc:β->D}{r:Option A}(g:(s.H[0]?,dsV cs,s.H[1]?)=(O (.box t cs),O cs',O (.vec t1 k1 (xs.map enc))))(hl:Z (xs.length=m)=U):O Y=O r->zxc tt ty P pv t m (Option.map F r) (.panic [{v:=pv,recovered:=M}]) s:=λh=>by simp only[yf]at g;obtain⟨g1,g2,g3⟩:=g;have e:=zof g2;subst e;cases h;exact .inr ⟨cs',rfl,rfl,g1,_,_,_,g3,by simpa using hl⟩
theorem wk.t2R {A β:Type}{F:A->D×List D}{tt:Tmp}{ty t t1 T0:TypeId}{m k1 i:Nat}{pv:Value}{bs cs:List V}{ds cs':List D}{xs:List β}{enc:β->D}{r:Option A}{x:A}(g:(look tt s.T,s.H[i]?,dsV bs,tS ty,s.H[0]?,dsV cs,s.H[1]?)=(O (.loc i 0),O (.box T0 bs),O ds,O (O ds.length),O (.box t cs),O cs',O (.vec t1 k1 (xs.map enc))))(hl:Z (xs.length=m)=U)(e:F x=(.agg ds,cs')):O (O x)=O r->zxc tt ty xg pv t m (Option.map F r) .ret s:=λh=>by simp only[yf]at g;obtain⟨g1,g2,g3,g4,g5,g6,g7⟩:=g;have e3:=zof g3;have e6:=zof g6;subst e3 e6;cases h;exact .inl ⟨_,_,ds,cs',by simp only[Option.map,e],rfl,g1,g2,Tab.sh _ _ g4,g5,_,_,_,g7,by simpa using hl⟩
end
theorem walk {R:Type}{m}{r:R}{g:Prop}(h:m=O r)(k:m=O r->g:=by repeat' first|exact I|(refine gL ?_;first|(refine gX ?_;first|refine wk.tnc 0 I ?_|refine wk.tnc 1 I ?_|refine wk.tnc 2 I ?_|refine wk.tnc 3 I ?_|refine wk.tnc 4 I ?_|refine wk.tnc 5 I ?_|apply wk.frzL' I I I|apply wk.frzZ' I I I|apply wk.frzZi I I|refine wk.eqd 0 I ?_|refine wk.eqd 1 I ?_|refine wk.eqd 2 I ?_|refine wk.gto I ?_|refine wk.pan I ?_|(refine wk.self I I I ?_ ?_<;>intro _)|(refine wk.in2 I I I I I ?_;intro _ _ _)|(refine wk.ic2 I I I I I ?_;intro _ _ _))|refine wk.aq ?_|refine wk.bxv I ?_ ?_|(refine gX ?_;first|(refine wk.alAi I I ?_;refine wk.nf I ?_)|refine wk.bxvi I I ?_ ?_|(refine wk.tnvi I I ?_;refine wk.nf I ?_)|(refine wk.clnb I I ?_;intro _;refine wk.nf I ?_))|refine wk.W I ?_|refine wk.nil ?_|(refine wk.gK ?_;intro _)|(refine wk.cln I ?_;intro _)|(refine gP I ?_;refine wk.oL I ?_)|(refine gN I ?_;first|refine wk.so I ?_|(refine gX ?_;refine wk.tsb I I ?_)|refine wk.tst I I I I ?_|(refine wk.tsf (x0:=?_) (ds:=?_) I ?_ ?_ ?_;rotate_left 2;assumption;exact I)|apply wk.sv I|refine wk.mput I ?_)|(refine wk.alN I ?_;refine wk.nf I ?_)|(refine wk.alA I ?_;refine wk.nf I ?_)|refine wk.aS I ?_|(refine wk.alo I ?_;refine wk.nf I ?_)|refine wk.blN I ?_|(refine wk.tnv I ?_;refine wk.nf I ?_)|(refine wk.tbv I ?_;refine wk.nf I ?_)|(refine wk.app I ?_;intro _)|(refine wk.mkm I ?_;refine wk.nf I ?_)|(refine wk.tmk I ?_ I;intro _)|refine wk.oL I ?_)|(refine gT ?_;first|(refine gX ?_;first|(refine wk.Ji I I I I I ?_ ?_<;>intro _)|(refine wk.Li I I I I I ?_;intro _ _)|apply wk.frz' I I I|apply wk.frzi I I|apply wk.frzj I I|(refine wk.gk I ?_;refine wk.kids Tryz.func128 I I ?_;intro _)|refine wk.regH I ?_)|(refine wk.xf I I I I I ?_ ?_<;>intro _)|refine wk.seq ?_|refine wk.reg I ?_|refine wk.regP I I ?_|refine wk.regD I ?_|refine wk.cond I ?_ ?_|refine wk.zxy I ?_|refine wk.zxx I ?_|refine wk.block ?_|refine wk.skip ?_|refine wk.exit ?_|refine wk.ret ?_|(refine wk.L I I I I I ?_;intro _ _)|exact wk.no|(refine wk.gK ?_;intro _;try(refine gX ?_;refine wk.rt 1 I I I (by first|exact .cons lnS .nil|exact .cons lnS (.cons lnS .nil)|exact .cons lnS (.cons lnS (.cons lnS .nil))|exact .cons lnS (.cons lnS (.cons lnS (.cons lnS .nil)))) ?_)))|(refine gO ?_;first|(refine gX2 ?_;first|refine wk.oeq 0 I I ?_|refine wk.oeq 1 I I ?_|refine wk.oeq 2 I I ?_)|(refine gV I ?_;first|refine wk.oca I I ?_|refine wk.odyn I ?_|apply wk.ocallB I)|(refine gI I ?_;first|(refine wk.ox I ?_;intro _)|refine wk.oxg I isS ?_|(refine wk.oxv I ?_;intro _ _))|(refine gU I ?_;first|refine wk.oe I ?_|refine wk.oev I ?_|refine wk.om3 I ?_)|(refine gB I ?_;first|(refine wk.oqu I ?_;intro _)|(refine wk.ore I ?_;intro _)|refine wk.oqug I isS ?_|refine wk.osq I ?_|refine wk.osn I ?_|refine wk.osq (b:=⟨_,_⟩) I ?_|refine wk.osn (b:=⟨_,_⟩) I ?_|refine wk.onS I ?_|refine wk.onS (a:=⟨_,_⟩) I ?_|refine wk.onz I ?_|refine wk.oin I ?_|(refine wk.osh I ?_;intro _))|refine wk.ons I ?_|refine wk.obl I ?_|refine wk.ole I (by assumption) I ?_|refine wk.ofe I lnS ?_|refine wk.olf I (by assumption) I ?_|(refine wk.osi I ?_;intro _)|refine wk.osig I isS ?_|(refine wk.ocl I ?_;intro _)|refine wk.ochg I isS ?_|(refine wk.ocb I ?_;intro _)|refine wk.ocbg I isS ?_|refine wk.olhg I isS ?_|refine wk.mget I ?_|refine wk.mgetD I ?_|refine wk.mkv I ?_|exact wk.no|(refine wk.gK ?_;intro _))|(refine gC ?_;first|(refine g1 ?_;first|(refine Kd1.c I ?_;intro _)|refine Kr1.c I ?_|(apply Kd1.p (n:=0);exact I;exact I)|(apply Kd1.gx;exact I;exact isS)|refine Kd1.g isS ?_ ?_)|(refine g2 ?_;first|(refine Kd2.c I ?_;intro _)|(refine Ks2.c I ?_;intro _)|(refine Kf2.cf I I ?_ ?_)|(apply Kd2.p (n:=0);exact I;exact I)|(apply Kd2.gx;exact I;exact isS)|refine Kd2.g isS ?_ ?_|refine Kf2.c I (by assumption) ?_|(apply Kf2.gf;exact I;exact I;exact isS))|(refine g3 ?_;first|(refine Kd3.c I ?_;intro _)|(refine Kf3.cf I I ?_ ?_ ?_)|(apply Kd3.p (n:=0);exact I;exact I)|(apply Kd3.gx;exact I;exact isS)|refine Kd3.g isS ?_ ?_)|(refine Kd4.c I ?_;intro _)|(refine Kd5.c I ?_;intro _)|(refine Kd0.c I ?_;intro _)|(refine Ks5.c I ?_;intro _)|refine Kd4.g isS ?_ ?_|refine Ks4.g isS ?_ ?_)|(refine gQ ?_;first|refine wk.QW I ?_|refine wk.Qn ?_|(refine wk.gK ?_;intro _)|refine wk.Qal I ?_|refine wk.Qst I ?_|refine wk.oQ I ?_|apply wk.jA I I|apply wk.jO I I)|(refine wk.und ?_;intro _)|refine wk.nB ?_|refine wk.xT ?_|refine wk.xB ?_|refine wk.xJ ?_|refine wk.rT ?_|refine wk.rB ?_|refine wk.rJ ?_|refine wk.vR I ?_|refine wk.vN I ?_|refine wk.vC I ?_|refine wk.pT ?_|refine wk.pB ?_|refine wk.pJ ?_|refine wk.pV ?_|exact wk.t2P I (by assumption)|exact wk.t2M I (by assumption)|exact wk.t2R I (by assumption) (by first|rfl|(simp only[xM,Tree.zuT,xo]<;>rfl))|exact wk.nd I|exact wk.rO I|exact wk.fin I|refine FrzG.nil ?_|apply FrzG.cons I|(refine wk.gK ?_;intro _)|refine Fn1.c (by assumption) ?_ ?_|refine Fn1.g (by assumption) isS ?_ ?_|refine dynF I ?_|(intro _ _;first|exact Kd1.d I|exact Kd2.d I|exact Kd3.d I|exact Kd5.d I)|refine wk.sc I ?_|exact Frz.d _|exact Frzs.nil|apply Frzs.cons|exact Frz.vec I lnS|apply Frz.agg|exact FrzI.d _|exact FrzI.vec (zuY I) I lnS|apply FrzI.loc (zuY I) I|(refine FrzI.loc1 (zuY I) I ?_ I)|exact zu8.nil|apply zu8.cons|exact zu7.nil|apply zu7.cons|exact OneV.d I|exact OneV.vec I lnS|exact OneV.mp I|exact OneV.loc I|exact OneV.fn|exact Lent.nil|apply Lent.cons I|refine all1 λ_=>?_|(intro h;cases h;first|exact zf2 I (.vec I lnS)|exact zf2 I (.d _)|exact zf2 I (.mp I (GMap.wfm _))|refine zrO I I ?_ ?_|refine zjB I I I ?_ ?_ ?_|refine wk.rC I ?_|refine wk.rCT I ?_ ?_)|fail):g:=k h
end
