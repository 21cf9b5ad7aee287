/- Part of the proof of one law of the seat. -/
import Derived.Test.YtipkniadbkndfaaGreatDoorDc03
import Derived.RangeFuncRecord
import Derived.RangeFuncCalls
import Derived.RangeFuncLeaves
import Derived.WalkKit
import Derived.TacticsIn
import Derived.TacticsInMore
import Derived.BigFrameIn
import Derived.OwnWalkIn
import Derived.Shelf.SlGeneric
import Derived.Ground.SlsfProg
set_option linter.unusedVariables false
set_option linter.unusedSectionVars false
set_option linter.unusedSimpArgs false
set_option maxRecDepth 100000
set_option maxHeartbeats 40000000
namespace Go.Proofs.YtipkniadbkndfaaGreatDoor
open Go Go.RowKit
noncomputable section
def ziK (n:Nat):Option Model:=
 some ⟨[],[⟨[99],1,[],⟨0,3⟩,0⟩],[[99]],[⟨0,0,⟨[⟨0,(-1)⟩],0⟩,0,0⟩,⟨0,0,⟨[⟨0,1⟩],3⟩,0,0⟩],[⟨[116,119,111],false,[]⟩],[⟨0,[],⟨[⟨0,2⟩],[],[]⟩⟩],[]⟩
def zO.l1 (n:Nat) (t0:List Int) (t1:Int→Option Bool) (b:Int→Option Int) (a:Int) :=
 if (decide (a<t0.length)) then
 (idx t0 a).bind λc=>
 (t1 c).bind λd=>
 if d then
 some a
 else
 b (ztJ a 1)
 else
 some (-1)
def zO (n:Nat) (t0:List Int) (t1:Int→Option Bool) :=
 ztO (zO.l1 n t0 t1) n 0
def zj (n:Nat) (t0:List Int) (t1:Int→Option Bool):Option Bool:=
 (zO n t0 t1).bind λa=>
 some (0≤a)
def zeb (n:Nat) (t0:Int) (t1:Int) (t2:Int) :=
 some ((t1≤t0)&&(t0≤t2))
def zf2 (n:Nat) (t0:Int) :=
 (zeb n t0 1 6).bind λa=>
 some (!a)
def zf1 (n:Nat) (t0:List Int) :=
 (zj n t0 (λq0=>zf2 n q0)).bind λa=>
 some (!a)
def z9.l1 (n:Nat) (t0:List Bool) (t1:Bool) (b:Int→Option Int) (a:Int) :=
 if (decide (a<t0.length)) then
 (idx t0 a).bind λc=>
 if (t1==c) then
 some a
 else
 b (ztJ a 1)
 else
 some (-1)
def z9 (n:Nat) (t0:List Bool) (t1:Bool) :=
 ztO (z9.l1 n t0 t1) n 0
def zbX (n:Nat) (t0:List Bool) (t1:Bool):Option Bool:=
 (z9 n t0 t1).bind λa=>
 some (0≤a)
def zgA (n:Nat) (t0:List Bool) :=
 (zbX n t0 false).bind λa=>
 some (!a)
def zfp (n:Nat) (t0:List UInt8) (t1:Int→Option Bool):Option (List (List UInt8)):=
 none
def zhk (n:Nat) (t0:Int) :=
 if (decide (wk .u32 t0≤255)) then
 jn (λv=>
 let b:=v
 if b then
 some true
 else
 some false) λa=>
 if (t0==9) then
 a (t0==9)
 else
 if (t0==10) then
 a (t0==10)
 else
 if (t0==11) then
 a (t0==11)
 else
 if (t0==12) then
 a (t0==12)
 else
 if (t0==13) then
 a (t0==13)
 else
 if (t0==32) then
 a (t0==32)
 else
 if (t0==133) then
 a (t0==133)
 else
 a (t0==160)
 else
 none
def za8.l4 (n:Nat) (t0:List UInt8) (e:Int) (c:((List (List UInt8))×Int×Int×Int)→Option (List (List UInt8))) (b:List (List UInt8)) (d:Int→Option (List (List UInt8))) (a:Int) :=
 grd (!(a<t0.length)||(sidx t0 a).isSome) <|
 grd (!(a<t0.length)||(idx tab0 ((sidx t0 a).getD default)).isSome) <|
 if ((a<t0.length)&&(((idx tab0 ((sidx t0 a).getD default)).getD default) != 0)) then
 d (ztJ a 1)
 else
 c (b,ztJ e 1,a,a)
def za8.l3 (n:Nat) (t0:List UInt8) (e:((List (List UInt8))×Int×Int×Int)→Option (List (List UInt8))) (s:(List (List UInt8))×Int×Int×Int) :=
 let a:=s.2.1
 let c:=s.2.2.1
 let b:=s.2.2.2
 if (decide (b<t0.length)) then
 (sidx t0 b).bind λj=>
 (idx tab0 j).bind λk=>
 if (k==0) then
 e (s.1,a,c,ztJ b 1)
 else
 (cut t0 c b).bind λl=>
 (idx s.1 a).bind λo=>
 (sto s.1 a l).bind λh=>
 ztO (za8.l4 n t0 a e h) n (ztJ b 1)
 else
 jn (λv=>
 let f:=v
 some f) λd=>
 if (decide (c<t0.length)) then
 (cut t0 c t0.length).bind λi=>
 (idx s.1 a).bind λm=>
 (sto s.1 a i).bind λg=>
 d g
 else
 d s.1
def za8.l2 (n:Nat) (t0:List UInt8) (c:List (List UInt8)) (b:Int→Option (List (List UInt8))) (a:Int) :=
 grd (!(a<t0.length)||(sidx t0 a).isSome) <|
 grd (!(a<t0.length)||(idx tab0 ((sidx t0 a).getD default)).isSome) <|
 if ((a<t0.length)&&(((idx tab0 ((sidx t0 a).getD default)).getD default) != 0)) then
 b (ztJ a 1)
 else
 ztO (za8.l3 n t0) n (c,0,a,a)
def za8.l1 (n:Nat) (t0:List UInt8) (d:(Int×Int×Int×Int)→Option (List (List UInt8))) (s:Int×Int×Int×Int) :=
 let a:=s.2.2.2
 if (decide (a<t0.length)) then
 (sidx t0 a).bind λb=>
 (idx tab0 b).bind λc=>
 d (ztJ s.1 (band .i64 s.2.1 (bnot .i64 (wk .i64 c))),wk .i64 c,bor .u8 s.2.2.1 b,ztJ a 1)
 else
 if (decide (128≤s.2.2.1)) then
 (zfp n t0 (λq0=>zhk n q0)).bind λe=>
 some e
 else
 (mkl 16 s.1 []).bind λf=>
 ztO (za8.l2 n t0 f) n 0
def za8 (n:Nat) (t0:List UInt8) :=
 ztO (za8.l1 n t0) n (0,1,0,0)
def zbH.l1 (n:Nat) (a:List (List UInt8)) (b:((GMap (List UInt8) Bool)×Int)→Option (GMap (List UInt8) Bool)) (s:(GMap (List UInt8) Bool)×Int) :=
 if (decide (s.2<a.length)) then
 (idx a s.2).bind λc=>
 b ((s.1.put c true),ztJ s.2 1)
 else
 some s.1
def zbH (n:Nat) :=
 (za8 n [115,111,114,116,32,114,101,108,97,116,105,111,110,32,99,111,117,110,116,101,114,32,115,101,116,32,114,101,103,105,115,116,101,114,32,105,110,118,97,114,105,97,110,116,32,111,112,101,114,97,116,105,111,110,32,107,101,121,32,114,101,102,101,114,101,110,99,101,32,116,111,32,99,111,117,110,116,32,97,99,121,99,108,105,99,32,97,108,108,32,115,117,109,32,105,110,32,97,100,100,119,105,110,115,32,114,101,109,111,118,101,119,105,110,115,32,108,97,115,116,32,109,117,108,116,105,32,104,105,100,101,32,111,114,100,101,114,101,100,32,114,101,113,117,105,114,101,32,104,111,108,100,32,105,110,115,101,114,116,32,100,101,108,101,116,101,32,97,100,100,32,102,114,111,109,32,112,117,116,32,100,114,111,112,32,97,115,115,105,103,110,32,102,111,114,32,119,104,101,114,101,32,97,110,100,32,111,114,32,110,111,116]).bind λa=>
 ztO (zbH.l1 n a) n (GMap.empty,0)
def zb8 (n:Nat) (t0:Int) :=
 some ((((t0==32)||(t0==9))||(t0==10))||(t0==13))
def zcP.l1 (n:Nat) (t0:List UInt8) (t1:Int→Option Bool) (b:Int→Option Int) (a:Int) :=
 grd (!(a<t0.length)||(sidx t0 a).isSome) <|
 grd (!(a<t0.length)||(t1 ((sidx t0 a).getD default)).isSome) <|
 if ((a<t0.length)&&((t1 ((sidx t0 a).getD default)).getD default)) then
 b (ztJ a 1)
 else
 some a
def zcP (n:Nat) (t0:List UInt8) (t1:Int→Option Bool) :=
 ztO (zcP.l1 n t0 t1) n 0
def zgS (n:Nat) (t0:Int) :=
 some (t0 != 10)
def zc4.l1 (n:Nat) (t0:List UInt8) (b:Int→Option Int) (a:Int) :=
 if (decide (a<t0.length)) then
 (sidx t0 a).bind λc=>
 (zb8 n c).bind λd=>
 if d then
 b (ztJ a 1)
 else
 (sidx t0 a).bind λe=>
 if (e==35) then
 (cut t0 a t0.length).bind λf=>
 (zcP n f (λq0=>zgS n q0)).bind λg=>
 b (ztJ a g)
 else
 some a
 else
 some a
def zc4 (n:Nat) (t0:List UInt8) :=
 ztO (zc4.l1 n t0) n 0
def zcO (n:Nat) (t0:Int) :=
 some ((97≤t0)&&(t0≤122))
def zbo (n:Nat) (t0:Int) :=
 some ((48≤t0)&&(t0≤57))
def zjM (n:Nat) (t0:Int) :=
 (zcO n t0).bind λa=>
 grd (a||(zbo n t0).isSome) <|
 some ((a||((zbo n t0).getD default))||(t0==95))
def zbt (n:Nat) (t0:List UInt8) (t1:List UInt8) :=
 grd (!(t1.length≤(t0.length:Int))||(cut t0 0 t1.length).isSome) <|
 some ((t1.length≤(t0.length:Int))&&(((cut t0 0 t1.length).getD default)=t1))
def zc7 (n:Nat) (t0:List UInt8) (t1:List UInt8) :=
 (zbt n t0 t1).bind λa=>
 some a
def zbu (n:Nat) (t0:List UInt8) (t1:Int) :=
 some (Lib.indexByte t0 t1.toNat.toUInt8)
def zck (n:Nat) (t0:List UInt8) (t1:Int) :=
 (zbu n t0 t1).bind λa=>
 some a
def zbl.l1 (n:Nat) (t0:List UInt8) (b:Int→Option Int) (a:Int) :=
 if (decide (a<[[61,61],[33,61],[60,61],[62,61],[46,46]].length)) then
 (idx [[61,61],[33,61],[60,61],[62,61],[46,46]] a).bind λd=>
 (zc7 n t0 d).bind λc=>
 if c then
 some 2
 else
 b (ztJ a 1)
 else
 grd (!(!(t0=[]))||(sidx t0 0).isSome) <|
 grd (!(!(t0=[]))||(zck n [60,62,61,43,45,42,40,41,123,125,44,58,59] ((sidx t0 0).getD default)).isSome) <|
 if ((!(t0=[]))&&(0≤((zck n [60,62,61,43,45,42,40,41,123,125,44,58,59] ((sidx t0 0).getD default)).getD default))) then
 some 1
 else
 some 0
def zbl (n:Nat) (t0:List UInt8) :=
 ztO (zbl.l1 n t0) n 0
def zdq (n:Nat) (t0:List UInt8) :=
 (sidx t0 0).bind λb=>
 (zcO n b).bind λa=>
 grd (a||(sidx t0 0).isSome) <|
 grd (a||(zbo n ((sidx t0 0).getD default)).isSome) <|
 grd ((a||((zbo n ((sidx t0 0).getD default)).getD default))||(zbl n t0).isSome) <|
 some ((a||((zbo n ((sidx t0 0).getD default)).getD default))||(0<((zbl n t0).getD default)))
def zaz.l2 (n:Nat) (a:List UInt8) (c:(Int×Int)→Option Token) (d:Int→Option Token) (b:Int) :=
 grd (!(b<a.length)||(sidx a b).isSome) <|
 grd (!(b<a.length)||(zb8 n ((sidx a b).getD default)).isSome) <|
 grd (!((b<a.length)&&(!((zb8 n ((sidx a b).getD default)).getD default)))||(sidx a b).isSome) <|
 grd (!(((b<a.length)&&(!((zb8 n ((sidx a b).getD default)).getD default)))&&(((sidx a b).getD default) != 35))||(cut a b a.length).isSome) <|
 grd (!(((b<a.length)&&(!((zb8 n ((sidx a b).getD default)).getD default)))&&(((sidx a b).getD default) != 35))||(zdq n ((cut a b a.length).getD default)).isSome) <|
 if ((((b<a.length)&&(!((zb8 n ((sidx a b).getD default)).getD default)))&&(((sidx a b).getD default) != 35))&&(!((zdq n ((cut a b a.length).getD default)).getD default))) then
 d (ztJ b 1)
 else
 c (5,b)
def zaz.l1 (n:Nat) (t1:List UInt8) (t2:GMap (List UInt8) Bool) (q:Unit→Option Token) (s:Unit) :=
 (cut t1 0 t1.length).bind λf=>
 (zc4 n f).bind λc=>
 (cut t1 (ztJ 0 c) t1.length).bind λa=>
 jn (λv=>
 let e:=v.1
 let p:=v.2
 some ⟨e,0,ztJ 0 c,ztJ (ztJ 0 c) p⟩) λb=>
 if (decide (a=[])) then
 b (0,0)
 else
 (sidx a 0).bind λg=>
 (zcO n g).bind λh=>
 if h then
 (zcP n a (λq0=>zjM n q0)).bind λd=>
 (cut a 0 d).bind λi=>
 if ((t2.get? i).getD false) then
 b (2,d)
 else
 b (1,d)
 else
 (sidx a 0).bind λj=>
 (zbo n j).bind λk=>
 if k then
 (zcP n a (λq0=>zbo n q0)).bind λl=>
 b (3,l)
 else
 (zbl n a).bind λm=>
 if (decide (0<m)) then
 (zbl n a).bind λo=>
 b (4,o)
 else
 ztO (zaz.l2 n a b) n 1
def zaz (n:Nat) (t1:List UInt8) (t2:GMap (List UInt8) Bool) :=
 ztO (zaz.l1 n t1 t2) n ()
def zeI (n:Nat) (t0:List UInt8) :=
 if ((t0=[])||(4096<(t0.length:Int)))=true then some 0
 else
 (zbH n).bind λkw=>
 (zaz n t0 kw).bind λtok=>
 if (tok.at_ != 0||tok.end_ != t0.length)=true then some 0 else some tok.kind
def zfK (n:Nat) (t0:List UInt8) :=
 grd (!((t0.length:Int)≤16)||(zeI n t0).isSome) <|
 some (((t0.length:Int)≤16)&&(((zeI n t0).getD default)==1))
def zcv (n:Nat) (t0:Int) (t1:List Int) :=
 some ((t0<0)||(t1.length≤t0))
def zd2 (n:Nat) (t0:List Int) (t1:List Int) :=
 grd (!((t1.length:Int)≤3)||(zj n t1 (λq0=>zcv n q0 t0)).isSome) <|
 some (((t1.length:Int)≤3)&&(!((zj n t1 (λq0=>zcv n q0 t0)).getD default)))
def zfc (n:Nat) (t0:Table) :=
 jn (λv=>
 let b:=v
 if b then
 some (((t0.range.lo≤t0.range.hi)&&((-9999)≤t0.range.lo))&&(t0.range.hi≤9999))
 else
 some (t0.range=⟨0,1⟩)) λa=>
 if (t0.kind==1) then
 a (t0.kind==1)
 else
 if (t0.kind==4) then
 a (t0.kind==4)
 else
 a (t0.kind==5)
def zb6 (n:Nat) (t0:Table) :=
 some ((t0.kind==0)||(t0.kind==1))
def zba.l1 (n:Nat) (t0:List Int) (t1:List Int) (a:(Int×Int)→Option Int) (s:Int×Int) :=
 if (decide (s.2<t1.length)) then
 (idx t1 s.2).bind λb=>
 (idx t0 b).bind λc=>
 a (ztZ s.1 c,ztJ s.2 1)
 else
 some s.1
def zba (n:Nat) (t0:List Int) (t1:List Int) :=
 ztO (zba.l1 n t0 t1) n (1,0)
def zbN.l1 (n:Nat) (t0:List Int) (t1:List Table) (h:((GMap (List UInt8) Bool)×Int×Int×Int)→Option Bool) (s:(GMap (List UInt8) Bool)×Int×Int×Int) :=
 let b:=s.2.2.1
 let c:=s.2.2.2
 if (decide (c<t1.length)) then
 jn (λv=>
 let g:=v.1
 let e:=v.2.1
 let f:=v.2.2
 h (g,e,f,ztJ c 1)) λd=>
 (idx t1 c).bind λa=>
 (zfK n a.name).bind λi=>
 (zeb n a.kind 0 5).bind λj=>
 (zd2 n t0 a.ztK).bind λk=>
 (zfc n a).bind λl=>
 (zgA n [i,!((s.1.get? a.name).getD false),j,k,l]).bind λm=>
 if (!m) then
 some false
 else
 (zb6 n a).bind λo=>
 if o then
 if (a.first != s.2.1) then
 some false
 else
 (zba n t0 a.ztK).bind λp=>
 d ((s.1.put a.name true),ztJ s.2.1 p,b)
 else
 if (a.first != b) then
 some false
 else
 (zba n t0 a.ztK).bind λq=>
 d ((s.1.put a.name true),s.2.1,ztJ b q)
 else
 some ((s.2.1≤128)&&(b≤64))
def zbN (n:Nat) (t0:List Int) (t1:List Table) :=
 (zf1 n t0).bind λa=>
 (zgA n [((t0.length:Int)≤4),((t1.length:Int)≤12),a]).bind λb=>
 if (!b) then
 some false
 else
 ztO (zbN.l1 n t0 t1) n (GMap.empty,0,0,0)
def zap.l1 (n:Nat) (t0:List (List UInt8)) (b:((GMap (List UInt8) Bool)×Int)→Option Bool) (s:(GMap (List UInt8) Bool)×Int) :=
 if (decide (s.2<t0.length)) then
 (idx t0 s.2).bind λa=>
 (zfK n a).bind λc=>
 if ((!c)||((s.1.get? a).getD false)) then
 some false
 else
 b ((s.1.put a true),ztJ s.2 1)
 else
 some true
def zap (n:Nat) (t0:List (List UInt8)) :=
 ztO (zap.l1 n t0) n (GMap.empty,0)
def zeV (n:Nat) (t0:Int) (t1:Int) :=
 (shrO .u64 t0 32).bind λa=>
 (shrO .u64 t1 32).bind λb=>
 (shrO .u64 (wk .u64 ((band .u64 t0 4294967295)*(band .u64 t1 4294967295))) 32).bind λc=>
 (shrO .u64 (wk .u64 ((wk .u64 (a*(band .u64 t1 4294967295)))+c)) 32).bind λd=>
 (shrO .u64 (wk .u64 ((band .u64 (wk .u64 ((wk .u64 (a*(band .u64 t1 4294967295)))+c)) 4294967295)+(wk .u64 ((band .u64 t0 4294967295)*b)))) 32).bind λe=>
 some (wk .u64 ((wk .u64 ((wk .u64 (a*b))+d))+e),wk .u64 (t0*t1))
def zeE (n:Nat) (t0:Int) (t1:Int) :=
 (zeV n t0 t1).bind λa=>
 some (a.1,a.2)
def zN.l1 (n:Nat) (b:((List Range)×Int)→Option (List Range)) (s:(List Range)×Int) :=
 let a:=s.1
 if (decide (s.2<a.length)) then
 (cut a s.2 a.length).bind λc=>
 (cut a 0 s.2).bind λd=>
 b ((zfe a s.2.toNat a.length ((a.drop 0).take (s.2.toNat - 0))),ztJ s.2 (min (a.length - s.2.toNat) ((a.drop 0).take (s.2.toNat - 0)).length:Nat))
 else
 some a
def zN (n:Nat) (t0:List Range) (t1:Int) :=
 if (decide (t1<0)) then
 none
 else
 (zeE n (wk .u64 t0.length) (wk .u64 t1)).bind λa=>
 if ((0<a.1)||(9223372036854775807<a.2)) then
 none
 else
 (mkl 16 (wk .i64 a.2) ⟨0,0⟩).bind λb=>
 ztO (zN.l1 n) n ((zfe b 0 b.length t0),(min (b.length - 0) t0.length:Nat))
def zbE.l1 (n:Nat) (t0:List Int) (t1:List Table) (t2:Bool) (d:((List Range)×Int)→Option (List Range)) (s:(List Range)×Int) :=
 if (decide (s.2<t1.length)) then
 jn (λv=>
 let c:=v
 d (c,ztJ s.2 1)) λb=>
 (idx t1 s.2).bind λa=>
 (zb6 n a).bind λe=>
 if (e==t2) then
 (zba n t0 a.ztK).bind λf=>
 (zN n [a.range] f).bind λg=>
 (app 16 s.1 g).bind λh=>
 b h
 else
 b s.1
 else
 some s.1
def zbE (n:Nat) (t0:List Int) (t1:List Table) (t2:Bool) :=
 (zbN n t0 t1).bind λa=>
 if (!a) then
 some []
 else
 ztO (zbE.l1 n t0 t1 t2) n ([],0)
def zao (n:Nat) (t0:Int) (t1:Int) :=
 some ((0≤t0)&&(t0<t1))
def zaA (n:Nat) (t0:Int) (t1:Int) :=
 some ((zuH t1≤t0)&&(t0≤t1))
def zax.l1 (n:Nat) (t0:zuD) (t1:Row) (b:(Int×Int)→Option Bool) (s:Int×Int) :=
 if (decide (s.2<t1.ztP.length)) then
 (idx t1.ztP s.2).bind λa=>
 grd ((((a.cell≤s.1)||(t0.strict.length≤a.cell))||(a.ztV==0))||(zaA n a.ztV 1000).isSome) <|
 if ((((a.cell≤s.1)||(t0.strict.length≤a.cell))||(a.ztV==0))||(!((zaA n a.ztV 1000).getD default))) then
 some false
 else
 b (a.cell,ztJ s.2 1)
 else
 (zaA n t1.bound 1000000000).bind λc=>
 some c
def zax (n:Nat) (t0:zuD) (t1:Row) :=
 ztO (zax.l1 n t0 t1) n ((-1),0)
def zbp (n:Nat) (t0:Table) (t1:Constraint) (t2:zuD) :=
 grd (!((t0.kind==0)&&((t0.ztK.length:Int)==2))||(idx t0.ztK 0).isSome) <|
 grd (!((t0.kind==0)&&((t0.ztK.length:Int)==2))||(idx t0.ztK 1).isSome) <|
 grd (!((((t0.kind==0)&&((t0.ztK.length:Int)==2))&&(((idx t0.ztK 0).getD default)==((idx t0.ztK 1).getD default)))&&(t0.first==t1.first))||(idx t0.ztK 0).isSome) <|
 grd (!((((t0.kind==0)&&((t0.ztK.length:Int)==2))&&(((idx t0.ztK 0).getD default)==((idx t0.ztK 1).getD default)))&&(t0.first==t1.first))||(idx t2.model.ztR ((idx t0.ztK 0).getD default)).isSome) <|
 some (((((t0.kind==0)&&((t0.ztK.length:Int)==2))&&(((idx t0.ztK 0).getD default)==((idx t0.ztK 1).getD default)))&&(t0.first==t1.first))&&(((idx t2.model.ztR ((idx t0.ztK 0).getD default)).getD default)==t1.size))
def zy.l1 (n:Nat) (t0:List Table) (t1:Table→Option Bool) (b:Int→Option Int) (a:Int) :=
 if (decide (a<t0.length)) then
 (idx t0 a).bind λc=>
 (t1 c).bind λd=>
 if d then
 some a
 else
 b (ztJ a 1)
 else
 some (-1)
def zy (n:Nat) (t0:List Table) (t1:Table→Option Bool) :=
 ztO (zy.l1 n t0 t1) n 0
def zT (n:Nat) (t0:List Table) (t1:Table→Option Bool):Option Bool:=
 (zy n t0 t1).bind λa=>
 some (0≤a)
def zbM (n:Nat) (t0:zuD) (t1:Constraint) :=
 grd (!(((t1.row.ztP.length:Int)==0)&&(t1.row.bound==0))||(zT n t0.model.tables (λq0=>zbp n q0 t1 t0)).isSome) <|
 some ((((t1.row.ztP.length:Int)==0)&&(t1.row.bound==0))&&((zT n t0.model.tables (λq0=>zbp n q0 t1 t0)).getD default))
def zS.l1 (n:Nat) (t0:List Term) (t1:List Term) (b:Int→Option Bool) (a:Int) :=
 if (decide (a<t0.length)) then
 (idx t0 a).bind λc=>
 (idx t1 a).bind λd=>
 if (!(c=d)) then
 some false
 else
 b (ztJ a 1)
 else
 some true
def zS (n:Nat) (t0:List Term) (t1:List Term) :=
 if (t0.length != (t1.length:Int)) then
 some false
 else
 ztO (zS.l1 n t0 t1) n 0
def zds (n:Nat) (t0:Row) (t1:Int) (t2:Int) (t3:Int) :=
 (zS n t0.ztP [⟨t1,t2⟩]).bind λa=>
 some (a&&(t0.bound==t3))
def z0.l1 (n:Nat) (t0:zuD) (i:Int→Option Bool) (b:Int) :=
 if (decide (b<t0.model.constraints.length)) then
 jn (λv=>
 i (ztJ b 1)) λc=>
 (idx t0.model.constraints b).bind λa=>
 jn (λv=>
 (zvm b 2).bind λk=>
 if (decide (k<t0.strict.length)) then
 (zvm b 2).bind λl=>
 (idx t0.strict l).bind λh=>
 jn (λv=>
 let f:=v.1
 let g:=v.2
 grd ((a.kind != 0)||(zvm b 2).isSome) <|
 grd ((a.kind != 0)||(zds n a.row ((zvm b 2).getD default) f g).isSome) <|
 if ((a.kind != 0)||(!((zds n a.row ((zvm b 2).getD default) f g).getD default))) then
 some false
 else
 c ()) λe=>
 (zvg b 2).bind λm=>
 if (m==0) then
 e ((-1),zuH h.lo)
 else
 e (1,h.hi)
 else
 c ()) λd=>
 (zao n a.family t0.model.ztX.length).bind λj=>
 if (!j) then
 some false
 else
 if (a.kind==0) then
 grd (((a.first != 0)||(a.size != 0))||(zax n t0 a.row).isSome) <|
 if (((a.first != 0)||(a.size != 0))||(!((zax n t0 a.row).getD default))) then
 some false
 else
 d ()
 else
 grd ((a.kind != 1)||(zbM n t0 a).isSome) <|
 if ((a.kind != 1)||(!((zbM n t0 a).getD default))) then
 some false
 else
 d ()
 else
 some true
def z0 (n:Nat) (t0:zuD) :=
 if ((512<(t0.model.constraints.length:Int))||(t0.model.constraints.length<ztZ 2 t0.strict.length)) then
 some false
 else
 ztO (z0.l1 n t0) n 0
def za3 (n:Nat) (t0:Int) (t1:zuD) :=
 some ((t0<(-1))||(t1.model.ztR.length≤t0))
def zK.l1 (n:Nat) (t0:zuD) (b:((List (List UInt8))×Int)→Option Bool) (s:(List (List UInt8))×Int) :=
 if (decide (s.2<t0.model.ztN.length)) then
 (idx t0.model.ztN s.2).bind λa=>
 (app 16 s.1 [a.name]).bind λc=>
 grd ((3<(a.ztR.length:Int))||(zj n a.ztR (λq0=>za3 n q0 t0)).isSome) <|
 if ((3<(a.ztR.length:Int))||((zj n a.ztR (λq0=>za3 n q0 t0)).getD default)) then
 some false
 else
 b (c,ztJ s.2 1)
 else
 grd (!((s.1.length:Int)≤8)||(zap n s.1).isSome) <|
 some (((s.1.length:Int)≤8)&&((zap n s.1).getD default))
def zK (n:Nat) (t0:zuD) :=
 ztO (zK.l1 n t0) n ([],0)
def zdz (n:Nat) (t0:Int) :=
 some (t0 != t0)
def zcf (n:Nat) (t0:Int) (t1:Int) :=
 (zdz n t0).bind λb=>
 (zdz n t1).bind λa=>
 if b then
 if a then
 some 0
 else
 some (-1)
 else
 if a then
 some 1
 else
 if (decide (t0<t1)) then
 some (-1)
 else
 if (decide (t1<t0)) then
 some 1
 else
 some 0
def zn.l1 (n:Nat) (t0:List Int) (t1:List Int) (c:Int→Option Int) (a:Int) :=
 if (decide (a<t0.length)) then
 (idx t0 a).bind λd=>
 if (decide (t1.length≤a)) then
 some 1
 else
 (idx t1 a).bind λe=>
 (zcf n d e).bind λb=>
 if (b != 0) then
 some b
 else
 c (ztJ a 1)
 else
 if (decide (t0.length<(t1.length:Int))) then
 some (-1)
 else
 some 0
def zn (n:Nat) (t0:List Int) (t1:List Int) :=
 ztO (zn.l1 n t0 t1) n 0
def za9.l2 (n:Nat) (t0:List Int) (e:Int) (f:Table) (d:((List Int)×Int×Int)→Option (Int×(List Int)×Bool)) (s:(List Int)×Int×Int) :=
 let a:=s.2.2
 if (decide (0≤a)) then
 (idx f.ztK a).bind λg=>
 (idx t0 g).bind λb=>
 (zvg s.2.1 b).bind λh=>
 (zvm s.2.1 b).bind λi=>
 (idx s.1 a).bind λj=>
 (sto s.1 a h).bind λc=>
 d (c,i,zt2 a 1)
 else
 some (e,s.1,true)
def za9.l1 (n:Nat) (t0:List Int) (t1:List Table) (t2:Bool) (t3:Int) (e:Int→Option (Int×(List Int)×Bool)) (b:Int) :=
 if (decide (b<t1.length)) then
 (idx t1 b).bind λa=>
 (zb6 n a).bind λc=>
 grd (((c != t2)||(zt2 t3 a.first<0))||(zba n t0 a.ztK).isSome) <|
 if (((c != t2)||(zt2 t3 a.first<0))||(((zba n t0 a.ztK).getD default)≤zt2 t3 a.first)) then
 e (ztJ b 1)
 else
 (mkl 8 a.ztK.length 0).bind λd=>
 ztO (za9.l2 n t0 b a) n (d,zt2 t3 a.first,zt2 d.length 1)
 else
 some (0,[],false)
def za9 (n:Nat) (t0:List Int) (t1:List Table) (t2:Bool) (t3:Int) :=
 (zbN n t0 t1).bind λa=>
 if ((!a)||(t3<0)) then
 some (0,[],false)
 else
 ztO (za9.l1 n t0 t1 t2 t3) n 0
def zby (n:Nat) (t0:zuD) (t1:zvd) :=
 (za9 n t0.model.ztR t0.model.tables false t1.cell).bind λc=>
 if (!c.2.2) then
 some false
 else
 (idx t0.model.tables c.1).bind λa=>
 jn (λv=>
 let d:=v
 if d then
 some (((t1.kind==0)||(t1.kind==1))&&(t1.value==0))
 else
 some (((t1.kind==2)&&(a.range.lo≤t1.value))&&(t1.value≤a.range.hi))) λb=>
 if (a.kind==2) then
 b (a.kind==2)
 else
 b (a.kind==3)
def zbi (n:Nat) (t0:Row) (t1:zuD) :=
 (zax n t1 t0).bind λa=>
 some (!a)
def zm.l1 (n:Nat) (t0:List Row) (t1:Row→Option Bool) (b:Int→Option Int) (a:Int) :=
 if (decide (a<t0.length)) then
 (idx t0 a).bind λc=>
 (t1 c).bind λd=>
 if d then
 some a
 else
 b (ztJ a 1)
 else
 some (-1)
def zm (n:Nat) (t0:List Row) (t1:Row→Option Bool) :=
 ztO (zm.l1 n t0 t1) n 0
def zk (n:Nat) (t0:List Row) (t1:Row→Option Bool):Option Bool:=
 (zm n t0 t1).bind λa=>
 some (0≤a)
def zR.l2 (n:Nat) (t0:zuD) (t1:zur) (b:(Int×Int)→Option Bool) (s:Int×Int) :=
 if (decide (s.2<t1.ztU.length)) then
 (idx t1.ztU s.2).bind λa=>
 grd ((a.cell≤s.1)||(zby n t0 a).isSome) <|
 if ((a.cell≤s.1)||(!((zby n t0 a).getD default))) then
 some false
 else
 b (a.cell,ztJ s.2 1)
 else
 grd (!(((t1.hold.length:Int)≤8)&&((t1.ztU.length:Int)≤32))||(zk n t1.hold (λq0=>zbi n q0 t0)).isSome) <|
 some ((((t1.hold.length:Int)≤8)&&((t1.ztU.length:Int)≤32))&&(!((zk n t1.hold (λq0=>zbi n q0 t0)).getD default)))
def zR.l1 (n:Nat) (t0:zuD) (t1:zur) (b:(Int×Int)→Option Bool) (s:Int×Int) :=
 if (decide (s.2<t1.delta.length)) then
 (idx t1.delta s.2).bind λa=>
 grd ((((a.cell≤s.1)||(t0.strict.length≤a.cell))||(a.add==0))||(zaA n a.add 1000000000).isSome) <|
 if ((((a.cell≤s.1)||(t0.strict.length≤a.cell))||(a.add==0))||(!((zaA n a.add 1000000000).getD default))) then
 some false
 else
 b (a.cell,ztJ s.2 1)
 else
 ztO (zR.l2 n t0 t1) n ((-1),0)
def zR (n:Nat) (t0:zuD) (t1:zur) :=
 ztO (zR.l1 n t0 t1) n ((-1),0)
def zC.l2 (n:Nat) (t0:zuD) (f:Int) (j:Int→Option Bool) (b:Action) (h:zul) (i:Int→Option Bool) (e:Int) :=
 if (decide (e<h.ztR.length)) then
 (idx h.ztR e).bind λa=>
 (idx b.arguments e).bind λc=>
 grd (!(a<0)||(zaA n c 9999).isSome) <|
 grd (((a<0)&&(!((zaA n c 9999).getD default)))||(!(0≤a)||(idx t0.model.ztR a).isSome)) <|
 grd (((a<0)&&(!((zaA n c 9999).getD default)))||(!(0≤a)||(zao n c ((idx t0.model.ztR a).getD default)).isSome)) <|
 if (((a<0)&&(!((zaA n c 9999).getD default)))||((0≤a)&&(!((zao n c ((idx t0.model.ztR a).getD default)).getD default)))) then
 some false
 else
 i (ztJ e 1)
 else
 jn (λv=>
 (zR n t0 b.effect).bind λk=>
 if (!k) then
 some false
 else
 j (ztJ f 1)) λg=>
 if (decide (0<f)) then
 (idx t0.model.ztL (zt2 f 1)).bind λd=>
 grd ((b.operation<d.operation)||(!(d.operation==b.operation)||(zn n d.arguments b.arguments).isSome)) <|
 if ((b.operation<d.operation)||((d.operation==b.operation)&&(0≤((zn n d.arguments b.arguments).getD default)))) then
 some false
 else
 g ()
 else
 g ()
def zC.l1 (n:Nat) (t0:zuD) (d:Int→Option Bool) (b:Int) :=
 if (decide (b<t0.model.ztL.length)) then
 (idx t0.model.ztL b).bind λa=>
 (zao n a.operation t0.model.ztN.length).bind λc=>
 grd ((!c)||(idx t0.model.ztN a.operation).isSome) <|
 if ((!c)||(a.arguments.length != ((((idx t0.model.ztN a.operation).getD default).ztR).length:Int))) then
 some false
 else
 (idx t0.model.ztN a.operation).bind λe=>
 ztO (zC.l2 n t0 b d a e) n 0
 else
 some true
def zC (n:Nat) (t0:zuD) :=
 if (decide (256<(t0.model.ztL.length:Int))) then
 some false
 else
 ztO (zC.l1 n t0) n 0
def zdb (n:Nat) (t0:Hide) (t1:Int) (t2:GMap Int Bool) :=
 some ((t0.table==t1)&&((t2.get? t0.to).getD false))
def zF.l1 (n:Nat) (t0:List Hide) (t1:Hide→Option Bool) (b:Int→Option Int) (a:Int) :=
 if (decide (a<t0.length)) then
 (idx t0 a).bind λc=>
 (t1 c).bind λd=>
 if d then
 some a
 else
 b (ztJ a 1)
 else
 some (-1)
def zF (n:Nat) (t0:List Hide) (t1:Hide→Option Bool) :=
 ztO (zF.l1 n t0 t1) n 0
def zay (n:Nat) (t0:List Hide) (t1:Hide→Option Bool):Option Bool:=
 (zF n t0 t1).bind λa=>
 some (0≤a)
def zg.l4 (n:Nat) (t0:zuD) (c:GMap Int Bool) (e:Int) (d:((GMap Int Bool)×Int)→Option Bool) (b:((GMap Int Bool)×(List Nat)×Nat)→Option Bool) (s:(GMap Int Bool)×(List Nat)×Nat) :=
 stepM s.1 s.2.1 c.clock s.2.2 (
 d (s.1,ztJ e 1)) λa=>
 grd (s.1.es.map (·.1)).Nodup <|
 (zay n t0.model.zt3 (λq0=>zdb n q0 a.2.1 s.1)).bind λf=>
 if (!f) then
 b ((s.1.del a.2.1),s.2.1++[a.1],s.1.clock)
 else
 b (s.1,s.2.1++[a.1],s.1.clock)
def zg.l3 (n:Nat) (t0:zuD) (a:((GMap Int Bool)×Int)→Option Bool) (s:(GMap Int Bool)×Int) :=
 if (decide (s.2<t0.model.zt3.length)) then
 ztO (zg.l4 n t0 s.1 s.2 a) n (s.1,[],s.1.clock)
 else
 some ((s.1.es.length:Int)==0)
def zg.l2 (n:Nat) (t0:zuD) (a:((GMap Int Bool)×Int)→Option Bool) (s:(GMap Int Bool)×Int) :=
 if (decide (s.2<t0.model.zt3.length)) then
 (idx t0.model.zt3 s.2).bind λb=>
 a ((s.1.put b.table true),ztJ s.2 1)
 else
 ztO (zg.l3 n t0) n (s.1,0)
def zg.l1 (n:Nat) (t0:zuD) (f:Int→Option Bool) (d:Int) :=
 if (decide (d<t0.model.zt3.length)) then
 (idx t0.model.zt3 d).bind λa=>
 (zao n a.table t0.model.tables.length).bind λe=>
 grd ((!e)||(zao n a.to t0.model.tables.length).isSome) <|
 if (((!e)||(!((zao n a.to t0.model.tables.length).getD default)))||(a.table==a.to)) then
 some false
 else
 (idx t0.model.tables a.table).bind λb=>
 (idx t0.model.tables a.to).bind λc=>
 grd (((b.kind != 0)||(c.kind != 0))||(zao n a.column b.ztK.length).isSome) <|
 grd (((((b.kind != 0)||(c.kind != 0))||(!((zao n a.column b.ztK.length).getD default)))||((c.ztK.length:Int) != 1))||(idx c.ztK 0).isSome) <|
 grd (((((b.kind != 0)||(c.kind != 0))||(!((zao n a.column b.ztK.length).getD default)))||((c.ztK.length:Int) != 1))||(idx b.ztK a.column).isSome) <|
 if (((((b.kind != 0)||(c.kind != 0))||(!((zao n a.column b.ztK.length).getD default)))||((c.ztK.length:Int) != 1))||(((idx c.ztK 0).getD default) != ((idx b.ztK a.column).getD default))) then
 some false
 else
 f (ztJ d 1)
 else
 ztO (zg.l2 n t0) n (GMap.empty,0)
def zg (n:Nat) (t0:zuD) :=
 if (decide (12<(t0.model.zt3.length:Int))) then
 some false
 else
 ztO (zg.l1 n t0) n 0
def zeX (n:Nat) (t0:Model) :=
 (zbN n t0.ztR t0.tables).bind λc=>
 grd (((!c)||(24<(t0.ztX.length:Int)))||(zap n t0.ztX).isSome) <|
 if (((!c)||(24<(t0.ztX.length:Int)))||(!((zap n t0.ztX).getD default))) then
 some false
 else
 (zbE n t0.ztR t0.tables true).bind λa=>
 (z0 n ⟨t0,a⟩).bind λb=>
 grd (!b||(zK n ⟨t0,a⟩).isSome) <|
 grd (!(b&&((zK n ⟨t0,a⟩).getD default))||(zC n ⟨t0,a⟩).isSome) <|
 grd (!((b&&((zK n ⟨t0,a⟩).getD default))&&((zC n ⟨t0,a⟩).getD default))||(zg n ⟨t0,a⟩).isSome) <|
 some (((b&&((zK n ⟨t0,a⟩).getD default))&&((zC n ⟨t0,a⟩).getD default))&&((zg n ⟨t0,a⟩).getD default))
def zq.l5 (n:Nat) (a:Int) (g:((List Place)×(List Place)×Int)→Option ((Option zu7)×Bool)) (i:Table) (d:List (List Int)) (h:((List Place)×(List Place)×Int)→Option ((Option zu7)×Bool)) (s:(List Place)×(List Place)×Int) :=
 if (decide (s.2.2<d.length)) then
 jn (λv=>
 let e:=v.1
 let f:=v.2
 h (e,f,ztJ s.2.2 1)) λb=>
 (idx d s.2.2).bind λc=>
 if (decide (i.kind≤1)) then
 (app 32 s.1 [⟨a,c⟩]).bind λj=>
 b (j,s.2.1)
 else
 (app 32 s.2.1 [⟨a,c⟩]).bind λk=>
 b (s.1,k)
 else
 g (s.1,s.2.1,ztJ a 1)
def zq.l4 (n:Nat) (c:Int) (a:((List (List Int))×Int)→Option ((Option zu7)×Bool)) (d:List Int) (e:Int) (b:((List (List Int))×Int)→Option ((Option zu7)×Bool)) (s:(List (List Int))×Int) :=
 if (decide (s.2<e)) then
 (app 8 [] d).bind λf=>
 (app 8 f [s.2]).bind λg=>
 (app 24 s.1 [g]).bind λh=>
 b (h,ztJ s.2 1)
 else
 a (s.1,ztJ c 1)
def zq.l3 (n:Nat) (t0:Model) (a:List (List Int)) (d:Int) (b:((List (List Int))×Int)→Option ((Option zu7)×Bool)) (e:Int) (c:((List (List Int))×Int)→Option ((Option zu7)×Bool)) (s:(List (List Int))×Int) :=
 if (decide (s.2<a.length)) then
 (idx a s.2).bind λf=>
 (idx t0.ztR e).bind λg=>
 ztO (zq.l4 n s.2 c f g) n (s.1,0)
 else
 b (s.1,ztJ d 1)
def zq.l2 (n:Nat) (t0:Model) (b:List Place) (c:List Place) (f:Int) (d:((List Place)×(List Place)×Int)→Option ((Option zu7)×Bool)) (a:Table) (e:((List (List Int))×Int)→Option ((Option zu7)×Bool)) (s:(List (List Int))×Int) :=
 if (decide (s.2<a.ztK.length)) then
 (idx a.ztK s.2).bind λg=>
 ztO (zq.l3 n t0 s.1 s.2 e g) n ([],0)
 else
 ztO (zq.l5 n f d a s.1) n (b,c,0)
def zq.l1 (n:Nat) (t0:Model) (a:((List Place)×(List Place)×Int)→Option ((Option zu7)×Bool)) (s:(List Place)×(List Place)×Int) :=
 if (decide (s.2.2<t0.tables.length)) then
 (idx t0.tables s.2.2).bind λb=>
 ztO (zq.l2 n t0 s.1 s.2.1 s.2.2 a b) n ([[]],0)
 else
 some (some (⟨t0,s.1,s.2.1⟩),true)
def zq (n:Nat) (t0:Model) :=
 (zeX n t0).bind λa=>
 if (!a) then
 some (none,false)
 else
 ztO (zq.l1 n t0) n ([],[],0)
def zbx (n:Nat) (t0:zu7) (t1:Question) :=
 if (((((t1.e<0)||(t1.f<0))||(t0.m.ztL.length≤t1.e))||(t0.m.ztL.length≤t1.f))||(t1.target.index<0)) then
 some false
 else
 if t1.target.hold then
 (idx t0.m.ztL t1.e).bind λa=>
 some (t1.target.index<a.effect.hold.length)
 else
 some ((t1.e≤t1.f)&&(t1.target.index<t0.m.constraints.length))
def zd6 (n:Nat) (t0:Model) (t1:Question) :=
 (zq n t0).bind λa=>
 grd (!a.2||(a.1).isSome) <|
 grd (!a.2||(zbx n ((a.1).getD default) t1).isSome) <|
 some (a.2&&((zbx n ((a.1).getD default) t1).getD default))
def zg1 (n:Nat) (t0:Model) (t1:Bool) :=
 (zeX n t0).bind λb=>
 if (!b) then
 some []
 else
 (zbE n t0.ztR t0.tables t1).bind λa=>
 some a
def zfh (n:Nat) (t0:Model) :=
 (zg1 n t0 true).bind λa=>
 some a
def zL.l1 (n:Nat) (t0:Action) (t1:Int) (c:Int→Option Int) (a:Int) :=
 if (decide (a<t0.effect.delta.length)) then
 (idx t0.effect.delta a).bind λb=>
 if (b.cell==t1) then
 some b.add
 else
 c (ztJ a 1)
 else
 some 0
def zL (n:Nat) (t0:Action) (t1:Int) :=
 ztO (zL.l1 n t0 t1) n 0
def zI.l1 (n:Nat) (t0:Action) (t1:Row) (b:(Int×Int)→Option Int) (s:Int×Int) :=
 if (decide (s.2<t1.ztP.length)) then
 (idx t1.ztP s.2).bind λa=>
 (zL n t0 a.cell).bind λc=>
 b (ztJ s.1 (ztZ a.ztV c),ztJ s.2 1)
 else
 some s.1
def zI (n:Nat) (t0:Action) (t1:Row) :=
 ztO (zI.l1 n t0 t1) n (0,0)
def zas.l1 (n:Nat) (t0:List Int) (t1:Int) (b:Int→Option Int) (a:Int) :=
 if (decide (a<t0.length)) then
 (idx t0 a).bind λc=>
 if (t1==c) then
 some a
 else
 b (ztJ a 1)
 else
 some (-1)
def zas (n:Nat) (t0:List Int) (t1:Int) :=
 ztO (zas.l1 n t0 t1) n 0
def zaE (n:Nat) (t0:List Int) (t1:Int):Option Bool:=
 (zas n t0 t1).bind λa=>
 some (0≤a)
def zer (n:Nat) (t0:Int) (t1:Int) :=
 some (zt2 t0 t1)
def zU.l1 (n:Nat) (t0:Row) (t1:Int→Option Int) (c:Int) (b:((List Term)×Int)→Option Row) (s:(List Term)×Int) :=
 if (decide (s.2<t0.ztP.length)) then
 (idx t0.ztP s.2).bind λa=>
 (t1 a.ztV).bind λd=>
 (app 16 s.1 [⟨a.cell,d⟩]).bind λe=>
 b (e,ztJ s.2 1)
 else
 some ⟨s.1,c⟩
def zU (n:Nat) (t0:Row) (t1:Int→Option Int) (t2:Int→Option Int) :=
 (t2 t0.bound).bind λa=>
 ztO (zU.l1 n t0 t1 a) n ([],0)
def zbr (n:Nat) (t0:Int) :=
 some t0
def zam (n:Nat) (t0:Int) (t1:Int) :=
 some (zt2 (ztJ (zuH t0) t1) 1)
def zaN (n:Nat) (t0:Int) :=
 some (zuH t0)
def zH.l1 (n:Nat) (t0:Constraint) (t1:Int→Option Int) (a:((List Int)×Int)→Option zuc) (s:(List Int)×Int) :=
 if (decide (s.2<ztZ t0.size t0.size)) then
 (t1 (ztJ t0.first s.2)).bind λb=>
 (app 8 s.1 [zt2 1 b]).bind λc=>
 a (c,ztJ s.2 1)
 else
 some ⟨t0.first,t0.size,s.1⟩
def zH (n:Nat) (t0:Constraint) (t1:Int→Option Int) :=
 ztO (zH.l1 n t0 t1) n ([],0)
def zaT (n:Nat) (t0:Int):Option Int:=
 some 0
def zz.l1 (n:Nat) (t0:Action) (t1:Constraint) (c:((List Int)×Int)→Option (List Int)) (s:(List Int)×Int) :=
 if (decide (s.2<ztZ t1.size t1.size)) then
 jn (λv=>
 let b:=v
 c (b,ztJ s.2 1)) λa=>
 (zL n t0 (ztJ t1.first s.2)).bind λd=>
 if (decide (0<d)) then
 (app 8 s.1 [s.2]).bind λe=>
 a e
 else
 a s.1
 else
 some s.1
def zz (n:Nat) (t0:Action) (t1:Constraint) :=
 ztO (zz.l1 n t0 t1) n ([],0)
def zP (n:Nat) (t0:Int) (t1:Action) :=
 (zL n t1 t0).bind λa=>
 some a
def zac (n:Nat) (t0:Int) (t1:Action) :=
 (zL n t1 t0).bind λa=>
 some a
def zaM (n:Nat) (t0:Int) (t1:Action) (t2:Constraint) (t3:Action) :=
 (zL n t1 (ztJ t2.first t0)).bind λa=>
 (zL n t3 (ztJ t2.first t0)).bind λb=>
 some (ztJ a b)
def zb2 (n:Nat) (t0:Int) (t1:List Bool):Option (zuQ×Bool):=
 some (⟨t0,t1⟩,((1≤t0)&&(t0≤6))&&(t1.length==(ztZ t0 t0)))
def zaO (n:Nat) (t0:zuQ) (t1:Int) (t2:Int) :=
 (idx t0.zt9 (ztJ (ztZ t1 t0.size) t2)).bind λa=>
 some a
def zc2.l1 (n:Nat) (t0:List Int) (c:Int→Option Int) (a:Int) :=
 if (decide (a<t0.length)) then
 (idx t0 a).bind λb=>
 if (b != 0) then
 some b
 else
 c (ztJ a 1)
 else
 some 0
def zc2 (n:Nat) (t0:List Int) :=
 ztO (zc2.l1 n t0) n 0
def zcg (n:Nat) (t0:List Int) (t1:List Int) :=
 (zcf n t0.length t1.length).bind λc=>
 (zn n t0 t1).bind λa=>
 (zc2 n [c,a]).bind λb=>
 some b
def zD.l1 (n:Nat) (g:zuQ) (v:List Int→List (List Int)→Option (List (List Int))) (l:List Int) (last:Int) (rec:Int×List (List Int)→Option (List (List Int))) (s:Int×List (List Int)) :=
 if (decide (s.1<g.size)) then
 (zaO n g last s.1).bind λe=>
 if e then
 (zaE n l s.1).bind λf=>
 if f=true then rec (ztJ s.1 1,s.2)
 else
 (app 8 [] l).bind λc=>
 (app 8 c [s.1]).bind λl2=>
 (v l2 s.2).bind λout=>
 rec (ztJ s.1 1,out)
 else rec (ztJ s.1 1,s.2)
 else some s.2
def zD (n:Nat) (g:zuQ):Nat→List Int→List (List Int)→Option (List (List Int))
 | 0,_,_=>none
 | k+1,l,out=>
 (idx l (zt2 l.length 1)).bind λlast=>
 (idx l 0).bind λfirst=>
 (zaO n g last first).bind λe=>
 if e then
 (app 8 [] l).bind λc=>
 (app 24 out [c]).bind λout=>
 ztO (zD.l1 n g (zD n g k) l last) n (ztJ first 1,out)
 else ztO (zD.l1 n g (zD n g k) l last) n (ztJ first 1,out)
def zuk.l1 (n:Nat) (g:zuQ) (rec:Int×List (List Int)→Option (List (List Int))) (s:Int×List (List Int)) :=
 if (decide (s.1<g.size)) then
 (zD n g n [s.1] s.2).bind λout=>
 rec (ztJ s.1 1,out)
 else some s.2
def zbF (n:Nat) (t0:Int) (t1:List Bool) :=
 (zb2 n t0 t1).bind λo=>
 if (!o.2)=true then some []
 else
 (ztO (zuk.l1 n o.1) n (0,[])).bind λout=>
 zxA (zcg n) out
def zl.l3 (n:Nat) (t1:Constraint) (t2:Action) (t3:Action) (f:List (List Row)) (g:((List (List Row)))→Option (List (List Row))) (c:List Int) (h:((List Row)×Bool×Bool×Int)→Option (List (List Row))) (s:(List Row)×Bool×Bool×Int) :=
 let e:=s.2.2.1
 let d:=s.2.2.2
 if (decide (d<c.length)) then
 (idx c d).bind λa=>
 (zvg (ztJ d 1) c.length).bind λl=>
 (idx c l).bind λb=>
 grd (s.2.1||(zL n t2 (ztJ t1.first (ztJ (ztZ a t1.size) b))).isSome) <|
 grd (e||(zL n t3 (ztJ t1.first (ztJ (ztZ a t1.size) b))).isSome) <|
 (zaM n (ztJ (ztZ a t1.size) b) t2 t1 t3).bind λi=>
 (app 32 s.1 [⟨[⟨ztJ t1.first (ztJ (ztZ a t1.size) b),(-1)⟩],zt2 i 1⟩]).bind λj=>
 h (j,s.2.1||(0<((zL n t2 (ztJ t1.first (ztJ (ztZ a t1.size) b))).getD default)),e||(0<((zL n t3 (ztJ t1.first (ztJ (ztZ a t1.size) b))).getD default)),ztJ d 1)
 else
 if (s.2.1&&e) then
 (app 24 f [s.1]).bind λk=>
 g k
 else
 g f
def zl.l2 (n:Nat) (t1:Constraint) (t2:Action) (t3:Action) (a:List (List Int)) (d:((List (List Row))×Int)→Option (List (List Row))) (s:(List (List Row))×Int) :=
 if (decide (s.2<a.length)) then
 jn (λv=>
 let b:=v
 d (b,ztJ s.2 1)) λc=>
 (idx a s.2).bind λe=>
 ztO (zl.l3 n t1 t2 t3 s.1 c e) n ([],false,false,0)
 else
 some s.1
def zl.l1 (n:Nat) (t0:List Range) (t1:Constraint) (t2:Action) (t3:Action) (c:List Bool) (b:((List Bool)×Int)→Option (List (List Row))) (s:(List Bool)×Int) :=
 if (decide (s.2<c.length)) then
 (idx t0 (ztJ t1.first s.2)).bind λd=>
 (zaM n s.2 t2 t1 t3).bind λe=>
 (idx s.1 s.2).bind λg=>
 (sto s.1 s.2 (1≤ztJ d.hi e)).bind λa=>
 b (a,ztJ s.2 1)
 else
 (zbF n t1.size s.1).bind λf=>
 ztO (zl.l2 n t1 t2 t3 f) n ([],0)
def zl (n:Nat) (t0:List Range) (t1:Constraint) (t2:Action) (t3:Action) :=
 (mkl 1 (ztZ t1.size t1.size) false).bind λa=>
 ztO (zl.l1 n t0 t1 t2 t3 a) n (a,0)
def zaF.l1 (n:Nat) (t0:List Range) (c:Int→Option Bool) (b:Int) :=
 if (decide (b<t0.length)) then
 (idx t0 b).bind λa=>
 if ((((a.lo<(-1000000))||(1000000<a.lo))||(a.hi<(-1000000)))||(1000000<a.hi)) then
 some false
 else
 c (ztJ b 1)
 else
 some ((t0.length:Int)≤128)
def zaF (n:Nat) (t0:List Range) :=
 ztO (zaF.l1 n t0) n 0
def zaD.l1 (n:Nat) (t0:Int) (t1:Row) (b:(Int×Int)→Option Bool) (s:Int×Int) :=
 if (decide (s.2<t1.ztP.length)) then
 (idx t1.ztP s.2).bind λa=>
 if (((((a.cell≤s.1)||(t0≤a.cell))||(a.ztV==0))||(a.ztV<(-1000)))||(1000<a.ztV)) then
 some false
 else
 b (a.cell,ztJ s.2 1)
 else
 some (((-1000000000)≤t1.bound)&&(t1.bound≤1000000000))
def zaD (n:Nat) (t0:Int) (t1:Row) :=
 ztO (zaD.l1 n t0 t1) n ((-1),0)
def zbk (n:Nat) (t0:Row) (t1:List Range) :=
 (zaD n t1.length t0).bind λa=>
 some (!a)
def zaZ (n:Nat) (t0:List Range) (t1:List Row) :=
 (zaF n t0).bind λa=>
 grd (!a||(zk n t1 (λq0=>zbk n q0 t0)).isSome) <|
 some (a&&(!((zk n t1 (λq0=>zbk n q0 t0)).getD default)))
def zh.l1 (n:Nat) (t0:List Range) (t1:Range→Option Bool) (b:Int→Option Int) (a:Int) :=
 if (decide (a<t0.length)) then
 (idx t0 a).bind λc=>
 (t1 c).bind λd=>
 if d then
 some a
 else
 b (ztJ a 1)
 else
 some (-1)
def zh (n:Nat) (t0:List Range) (t1:Range→Option Bool) :=
 ztO (zh.l1 n t0 t1) n 0
def zaq (n:Nat) (t0:List Range) (t1:Range→Option Bool):Option Bool:=
 (zh n t0 t1).bind λa=>
 some (0≤a)
def zdd (n:Nat) (t0:Range):Option Bool:=
 some (t0.hi<t0.lo)
def zbG (n:Nat) (t0:List Range) :=
 (zaq n t0 (λq0=>zdd n q0)).bind λa=>
 some a
def zdn (n:Nat) (t0:System) (t1:List Row) (t2:Int) :=
 grd (!(t1.length≤t2)||(zaZ n t0.box t1).isSome) <|
 some ((t1.length≤t2)&&((zaZ n t0.box t1).getD default))
def zfC (n:Nat) (t0:Int) :=
 some ((t0<(-4000000))||(4000000<t0))
def zfq (n:Nat) (t0:Int) (t1:zuc) :=
 if (((((t1.size<1)||(6<t1.size))||(t1.first<0))||(zt2 t0 (ztZ t1.size t1.size)<t1.first))||(t1.least.length != (ztZ t1.size t1.size))) then
 some false
 else
 (zj n t1.least (λq0=>zfC n q0)).bind λa=>
 some (!a)
def zfB (n:Nat) (t0:List Row) (t1:System) :=
 (zdn n t1 t0 64).bind λa=>
 some (!a)
def zX.l1 (n:Nat) (t0:List (List Row)) (t1:(List Row)→Option Bool) (b:Int→Option Int) (a:Int) :=
 if (decide (a<t0.length)) then
 (idx t0 a).bind λc=>
 (t1 c).bind λd=>
 if d then
 some a
 else
 b (ztJ a 1)
 else
 some (-1)
def zX (n:Nat) (t0:List (List Row)) (t1:(List Row)→Option Bool) :=
 ztO (zX.l1 n t0 t1) n 0
def zaX (n:Nat) (t0:List (List Row)) (t1:(List Row)→Option Bool):Option Bool:=
 (zX n t0 t1).bind λa=>
 some (0≤a)
def zak.l1 (n:Nat) (t0:System) (b:Int→Option Bool) (a:Int) :=
 if (decide (a<t0.ztQ.length)) then
 (idx t0.ztQ a).bind λc=>
 (zfq n t0.box.length c).bind λd=>
 if (!d) then
 some false
 else
 b (ztJ a 1)
 else
 (zaX n t0.cases (λq0=>zfB n q0 t0)).bind λe=>
 some (!e)
def zak (n:Nat) (t0:System) :=
 (zaZ n t0.box []).bind λa=>
 grd ((!a)||(zbG n t0.box).isSome) <|
 grd (((!a)||((zbG n t0.box).getD default))||(zdn n t0 t0.rows 1024).isSome) <|
 if (((((!a)||((zbG n t0.box).getD default))||(!((zdn n t0 t0.rows 1024).getD default)))||(64<(t0.ztQ.length:Int)))||(1024<(t0.cases.length:Int))) then
 some false
 else
 ztO (zak.l1 n t0) n 0
def zf.l4 (n:Nat) (t0:Model) (t1:Question) (i:Action) (b:Action) (j:List Range) (c:List Row) (o:Int) (t:Int) (u:List Term) (w:Int) (x:Int) (y:Int) (z:((List zuc)×Int)→Option (System×Int)) (s:(List zuc)×Int) :=
 if (decide (s.2<t0.constraints.length)) then
 jn (λv=>
 let r:=v
 z (r,ztJ s.2 1)) λd=>
 (idx t0.constraints s.2).bind λa=>
 if (a.kind != 1) then
 d s.1
 else
 (zH n a (λq0=>zaT n q0)).bind λA=>
 (app 40 s.1 [A]).bind λq=>
 jn (λv=>
 let l:=v
 grd (!(t1.e != t1.f)||(zz n b a).isSome) <|
 if ((t1.e != t1.f)&&(0<(((zz n b a).getD default).length:Int))) then
 (zH n a (λq0=>zac n q0 b)).bind λE=>
 (app 40 l [E]).bind λF=>
 d F
 else
 d l) λp=>
 (zz n i a).bind λB=>
 if (decide (0<(B.length:Int))) then
 (zH n a (λq0=>zP n q0 i)).bind λC=>
 (app 40 q [C]).bind λD=>
 p D
 else
 p q
 else
 jn (λv=>
 let k:=v.1
 let m:=v.2
 (zak n ⟨j,k,s.1,m⟩).bind λH=>
 if (!H) then
 some (⟨[],[],[],[]⟩,8)
 else
 some (⟨j,k,s.1,m⟩,0)) λg=>
 if (o==1) then
 (zl n j ⟨o,t,⟨u,w⟩,x,y⟩ i b).bind λh=>
 if ((h.length:Int)==0) then
 (app 32 c [⟨[],(-1)⟩]).bind λG=>
 g (G,h)
 else
 g (c,h)
 else
 g (c,[])
def zf.l3 (n:Nat) (t0:Model) (t1:Question) (c:Action) (d:Action) (z:List Range) (e:List Row) (o:((List Row)×Int)→Option (System×Int)) (s:(List Row)×Int) :=
 if (decide (s.2<e.length)) then
 (idx e s.2).bind λr=>
 (zU n r (λq0=>zbr n q0) (λq0=>zbr n q0)).bind λt=>
 (app 32 s.1 [t]).bind λu=>
 o (u,ztJ s.2 1)
 else
 jn (λv=>
 let g:=v.1
 let h:=v.2.1
 let i:=v.2.2.1
 let j:=v.2.2.2.1
 let k:=v.2.2.2.2.1
 let l:=v.2.2.2.2.2.1
 let m:=v.2.2.2.2.2.2
 ztO (zf.l4 n t0 t1 c d z g h i j k l m) n ([],0)) λb=>
 if t1.target.hold then
 (idx c.effect.hold t1.target.index).bind λf=>
 (zI n d f).bind λw=>
 (zU n f (λq0=>zaN n q0) (λq0=>zam n q0 w)).bind λA=>
 (app 32 s.1 [A]).bind λq=>
 b (q,0,0,[],0,0,0)
 else
 (idx t0.constraints t1.target.index).bind λa=>
 if (a.kind==0) then
 (zI n c a.row).bind λx=>
 (zI n d a.row).bind λy=>
 (zU n a.row (λq0=>zaN n q0) (λq0=>zam n q0 (ztJ x y))).bind λB=>
 (app 32 s.1 [B]).bind λp=>
 b (p,a.kind,a.family,a.row.ztP,a.row.bound,a.first,a.size)
 else
 b (s.1,a.kind,a.family,a.row.ztP,a.row.bound,a.first,a.size)
def zf.l2 (n:Nat) (t0:Model) (t1:Question) (t2:List Int) (b:Action) (c:Action) (u:List Range) (o:((List Row)×Int)→Option (System×Int)) (s:(List Row)×Int) :=
 if (decide (s.2<t0.constraints.length)) then
 jn (λv=>
 let l:=v
 o (l,ztJ s.2 1)) λh=>
 (idx t0.constraints s.2).bind λa=>
 if (a.kind != 0) then
 h s.1
 else
 (zI n b a.row).bind λd=>
 (zI n c a.row).bind λg=>
 jn (λv=>
 let t:=v
 (zU n a.row (λq0=>zbr n q0) (λq0=>zer n q0 t)).bind λp=>
 (app 32 s.1 [p]).bind λq=>
 h q) λi=>
 (zaE n t2 s.2).bind λw=>
 if (w&&(t1.target.hold||(t1.target.index != s.2))) then
 i (gmax (gmax (gmax 0 d) g) (ztJ d g))
 else
 i (gmax (gmax 0 d) g)
 else
 (app 32 [] b.effect.hold).bind λk=>
 jn (λv=>
 let m:=v
 ztO (zf.l3 n t0 t1 b c u m) n (s.1,0)) λj=>
 if (t1.e != t1.f) then
 (app 32 k c.effect.hold).bind λr=>
 j r
 else
 j k
def zf.l1 (n:Nat) (t0:Model) (t1:Question) (t2:List Int) (c:Int→Option (System×Int)) (b:Int) :=
 if (decide (b<t2.length)) then
 (idx t2 b).bind λa=>
 grd (((a<0)||(t0.constraints.length≤a))||(idx t0.constraints a).isSome) <|
 if (((a<0)||(t0.constraints.length≤a))||((((idx t0.constraints a).getD default).kind) != 0)) then
 some (⟨[],[],[],[]⟩,2)
 else
 c (ztJ b 1)
 else
 (idx t0.ztL t1.e).bind λd=>
 (idx t0.ztL t1.f).bind λg=>
 (zfh n t0).bind λh=>
 ztO (zf.l2 n t0 t1 t2 d g h) n ([],0)
def zf (n:Nat) (t0:Model) (t1:Question) (t2:List Int) :=
 (zd6 n t0 t1).bind λa=>
 if (!a) then
 some (⟨[],[],[],[]⟩,1)
 else
 ztO (zf.l1 n t0 t1 t2) n 0
def zb3 (n:Nat) (t0:Term) (t1:Int) :=
 some (t0.cell==t1)
def zG.l1 (n:Nat) (t0:List Term) (t1:Term→Option Bool) (b:Int→Option Int) (a:Int) :=
 if (decide (a<t0.length)) then
 (idx t0 a).bind λc=>
 (t1 c).bind λd=>
 if d then
 some a
 else
 b (ztJ a 1)
 else
 some (-1)
def zG (n:Nat) (t0:List Term) (t1:Term→Option Bool) :=
 ztO (zG.l1 n t0 t1) n 0
def zbs.l1 (n:Nat) (t0:Row) (t1:List Range) (t2:Int) (t3:Int) (d:(Int×Int)→Option Int) (s:Int×Int) :=
 if (decide (s.2<t0.ztP.length)) then
 jn (λv=>
 let e:=v
 d (e,ztJ s.2 1)) λb=>
 (idx t0.ztP s.2).bind λa=>
 (idx t1 a.cell).bind λc=>
 if (a.cell==t2) then
 b s.1
 else
 if (decide (0<ztZ a.ztV t3)) then
 b (ztJ s.1 (ztZ a.ztV c.lo))
 else
 b (ztJ s.1 (ztZ a.ztV c.hi))
 else
 some s.1
def zbs (n:Nat) (t0:Row) (t1:List Range) (t2:Int) (t3:Int) :=
 ztO (zbs.l1 n t0 t1 t2 t3) n (0,0)
def zcz (n:Nat) (t0:Int) (t1:Int) :=
 (zvm t0 t1).bind λb=>
 jn (λv=>
 let d:=v
 some d) λa=>
 (zvg t0 t1).bind λc=>
 if ((c != 0)&&((t0<0) != (t1<0))) then
 a (zt2 b 1)
 else
 a b
def zdg (n:Nat) (t0:Row) (t1:List Range) (t2:Int) :=
 (idx t1 t2).bind λa=>
 (zG n t0.ztP (λq0=>zb3 n q0 t2)).bind λf=>
 if (decide (f<0)) then
 some a
 else
 (idx t0.ztP f).bind λb=>
 (zbs n t0 t1 t2 1).bind λg=>
 jn (λv=>
 let c:=v.1
 let d:=v.2
 (zdd n ⟨c,d⟩).bind λj=>
 if j then
 some ⟨1,0⟩
 else
 some ⟨c,d⟩) λe=>
 if (decide (0<b.ztV)) then
 (zcz n (zt2 t0.bound g) b.ztV).bind λh=>
 e (a.lo,(gmin a.hi h))
 else
 (zcz n (zt2 t0.bound g) (zuH b.ztV)).bind λi=>
 e ((gmax a.lo (zuH i)),a.hi)
def zcw (n:Nat) (t0:Row) (t1:List Range) (t2:Int) :=
 (zaZ n t1 [t0]).bind λa=>
 if (((!a)||(t2<0))||(t1.length≤t2)) then
 some ⟨0,0⟩
 else
 (zdg n t0 t1 t2).bind λb=>
 some b
def zQ.l2 (n:Nat) (t0:zuQ) (i:((List Bool)×(List (List Int))×Nat)→Option (List Int)) (l:List Int) (m:Int) (j:((List Bool)×(List (List Int))×Nat×Int)→Option (List Int)) (s:(List Bool)×(List (List Int))×Nat×Int) :=
 let b:=s.2.2.1
 let a:=s.2.2.2
 if (decide (a<t0.size)) then
 jn (λv=>
 let e:=v.1
 let g:=v.2.1
 let h:=v.2.2
 j (e,g,h,ztJ a 1)) λc=>
 (zaO n t0 m a).bind λd=>
 grd (!d||(idx s.1 a).isSome) <|
 if (d&&(!((idx s.1 a).getD default))) then
 (idx s.1 a).bind λr=>
 (sto s.1 a true).bind λf=>
 (app 8 [] l).bind λo=>
 (app 8 o [a]).bind λp=>
 (app 24 s.2.1 [p]).bind λq=>
 c (f,q,(b+1))
 else
 c (s.1,s.2.1,b)
 else
 (cut s.2.1 1 s.2.1.length).bind λk=>
 i (s.1,k,(b+1))
def zQ.l1 (n:Nat) (t0:zuQ) (t2:Int) (c:((List Bool)×(List (List Int))×Nat)→Option (List Int)) (s:(List Bool)×(List (List Int))×Nat) :=
 if (decide (0<(s.2.1.length:Int))) then
 (idx s.2.1 0).bind λa=>
 (idx a (zt2 a.length 1)).bind λb=>
 if (b==t2) then
 some a
 else
 ztO (zQ.l2 n t0 c a b) n (s.1,s.2.1,s.2.2,0)
 else
 some []
def zQ (n:Nat) (t0:zuQ) (t1:Int) (t2:Int) :=
 (mkl 1 t0.size false).bind λa=>
 (idx a t1).bind λc=>
 (sto a t1 true).bind λb=>
 ztO (zQ.l1 n t0 t2) n (b,[[t1]],0)
def zed (n:Nat) (t0:Int) (t1:List Bool) (t2:Int) (t3:Int) :=
 (zb2 n t0 t1).bind λa=>
 if (((((!a.2)||(t2<0))||(t0≤t2))||(t3<0))||(t0≤t3)) then
 some []
 else
 (zQ n a.1 t2 t3).bind λb=>
 some b
def zbh.l1 (n:Nat) (t0:zuc) (t1:List Range) (t2:Int) (b:((List Bool)×Int)→Option Bool) (s:(List Bool)×Int) :=
 if (decide (s.2<t0.least.length)) then
 (idx t0.least s.2).bind λc=>
 (idx t1 (ztJ t0.first s.2)).bind λd=>
 (idx s.1 s.2).bind λh=>
 (sto s.1 s.2 (c≤d.lo)).bind λa=>
 b (a,ztJ s.2 1)
 else
 (zvg t2 t0.size).bind λe=>
 (zvm t2 t0.size).bind λf=>
 (zed n t0.size s.1 e f).bind λg=>
 some (0<(g.length:Int))
def zbh (n:Nat) (t0:zuc) (t1:List Range) (t2:Int) :=
 (mkl 1 t0.least.length false).bind λa=>
 ztO (zbh.l1 n t0 t1 t2) n (a,0)
def zi.l2 (n:Nat) (t0:List (List Row)) (a:((List Row)×Int)→Option (List Row)) (s:(List Row)×Int) :=
 if (decide (s.2<t0.length)) then
 (idx t0 s.2).bind λb=>
 (app 32 s.1 b).bind λc=>
 a (c,ztJ s.2 1)
 else
 some s.1
def zi.l1 (n:Nat) (t0:List (List Row)) (b:(Int×Int)→Option (List Row)) (s:Int×Int) :=
 if (decide (s.2<t0.length)) then
 (idx t0 s.2).bind λa=>
 if (decide (ztJ s.1 a.length<0)) then
 none
 else
 b (ztJ s.1 a.length,ztJ s.2 1)
 else
 grd (0≤s.1∧s.1.toNat*32≤140737488355328) <|
 ztO (zi.l2 n t0) n ([],0)
def zi (n:Nat) (t0:List (List Row)) :=
 ztO (zi.l1 n t0) n (0,0)
def zbz (n:Nat) (t0:Range):Option Bool:=
 some (t0.lo<t0.hi)
def zcN (n:Nat) (t0:Range) :=
 (zaF n [t0]).bind λb=>
 if (!b) then
 some 0
 else
 (zcz n (ztJ t0.lo t0.hi) 2).bind λa=>
 some a
def za.l14 (n:Nat) (self:zuj→(List Range)→Int→Option (Option (Found×zuj))) (t1:List Range) (t2:Int) (c:List Range) (q:List Step) (e:Int) (b:Int) (k:Range) (l:Range) (r:((List Tree)×(List Range)×(List Row)×(List zuc)×(List (List Row))×(List Row)×Int×Int×Int)→Option (Option (Found×zuj))) (s:(List Tree)×(List Range)×(List Row)×(List zuc)×(List (List Row))×(List Row)×Int×Int×Int) :=
 let f:=s.2.2.2.2.1
 let g:=s.2.2.2.2.2.1
 let h:=s.2.2.2.2.2.2.1
 let i:=s.2.2.2.2.2.2.2.1
 let d:=s.2.2.2.2.2.2.2.2
 if (decide (d<[⟨k.lo,b⟩,(⟨ztJ b 1,l.hi⟩:Range)].length)) then
 (idx [⟨k.lo,b⟩,⟨ztJ b 1,l.hi⟩] d).bind λt=>
 (app 16 [] c).bind λm=>
 (idx m e).bind λx=>
 (sto m e t).bind λp=>
 grd (c.length=t1.length) <|
 (self ⟨⟨s.2.1,s.2.2.1,s.2.2.2.1,f⟩,g,h,i⟩ p t2).bind λu=>
 pnk u λa=>
 (app 72 s.1 [⟨0,[],0,0,[]⟩]).bind λj=>
 (idx j s.1.length).bind λw=>
 (sto j s.1.length a.1.tree).bind λo=>
 if (!a.1.values.isEmpty) then
 grd (c.length=t1.length) <|
 some (some (a.1,a.2))
 else
 r (o,a.2.s.box,a.2.s.rows,a.2.s.ztQ,a.2.s.cases,a.2.rows,a.2.zt7,a.2.cost,ztJ d 1)
 else
 grd (c.length=t1.length) <|
 some (some (⟨[],0,⟨1,q,e,b,s.1⟩⟩,⟨⟨s.2.1,s.2.2.1,s.2.2.2.1,f⟩,g,h,i⟩))
def za.l13 (n:Nat) (t0:zuj) (t1:List Range) (t2:Int) (a:List Range) (c:Int) (d:((List Int)×Int)→Option (Option (Found×zuj))) (s:(List Int)×Int) :=
 if (decide (s.2<a.length)) then
 (idx a s.2).bind λe=>
 (idx s.1 s.2).bind λf=>
 (sto s.1 s.2 e.lo).bind λb=>
 d (b,ztJ s.2 1)
 else
 grd (!s.1.isEmpty) <|
 grd (a.length=t1.length) <|
 some (some (⟨s.1,(gmax t2 0),⟨0,[],0,0,[]⟩⟩,⟨t0.s,t0.rows,t0.zt7,c⟩))
def za.l12 (n:Nat) (self:zuj→(List Range)→Int→Option (Option (Found×zuj))) (t0:zuj) (t1:List Range) (b:List Range) (j:List Step) (k:((List Tree)×(List Range)×(List Row)×(List zuc)×(List (List Row))×(List Row)×Int×Int×Int)→Option (Option (Found×zuj))) (s:(List Tree)×(List Range)×(List Row)×(List zuc)×(List (List Row))×(List Row)×Int×Int×Int) :=
 let d:=s.2.2.1
 let e:=s.2.2.2.2.1
 let f:=s.2.2.2.2.2.2.1
 let g:=s.2.2.2.2.2.2.2.1
 let c:=s.2.2.2.2.2.2.2.2
 if (decide (c<t0.s.cases.length)) then
 (idx t0.s.cases c).bind λl=>
 (zi n [d,l]).bind λm=>
 (app 16 [] b).bind λo=>
 grd (b.length=t1.length) <|
 (self ⟨⟨s.2.1,d,s.2.2.2.1,e⟩,m,f,g⟩ o c).bind λp=>
 pnk p λa=>
 (app 72 s.1 [⟨0,[],0,0,[]⟩]).bind λh=>
 (idx h s.1.length).bind λq=>
 (sto h s.1.length a.1.tree).bind λi=>
 if (!a.1.values.isEmpty) then
 grd (b.length=t1.length) <|
 some (some (a.1,a.2))
 else
 k (i,a.2.s.box,a.2.s.rows,a.2.s.ztQ,a.2.s.cases,a.2.rows,a.2.zt7,a.2.cost,ztJ c 1)
 else
 grd (b.length=t1.length) <|
 some (some (⟨[],0,⟨2,j,0,0,s.1⟩⟩,⟨⟨s.2.1,d,s.2.2.2.1,e⟩,s.2.2.2.2.2.1,f,g⟩))
def za.l11 (n:Nat) (t0:zuj) (t1:List Range) (m:List Range) (u:((List Range)×(List Step)×Int)→Option (Option (Found×zuj))) (k:Int) (r:((List Range)×(List Step)×Int×Bool×Int)→Option (Option (Found×zuj))) (c:zuc) (t:((List Range)×(List Step)×Int×Bool×Int)→Option (Option (Found×zuj))) (s:(List Range)×(List Step)×Int×Bool×Int) :=
 let a:=s.1
 let d:=s.2.2.1
 let h:=s.2.2.2.1
 let b:=s.2.2.2.2
 if (decide (b<c.least.length)) then
 jn (λv=>
 let l:=v.1
 let o:=v.2.1
 let p:=v.2.2.1
 let q:=v.2.2.2
 t (l,o,p,q,ztJ b 1)) λi=>
 (idx c.least b).bind λf=>
 (idx a (ztJ c.first b)).bind λg=>
 grd ((g.hi<f)||(zbh n c a b).isSome) <|
 if ((g.hi<f)||(!((zbh n c a b).getD default))) then
 i (a,s.2.1,d,h)
 else
 (idx a (ztJ c.first b)).bind λw=>
 if (decide (⟨g.lo,zt2 f 1⟩=w)) then
 i (a,s.2.1,d,h)
 else
 if (d==t0.zt7) then
 grd (a.length=t1.length) <|
 some none
 else
 (idx a (ztJ c.first b)).bind λx=>
 (sto a (ztJ c.first b) ⟨g.lo,zt2 f 1⟩).bind λe=>
 (app 24 s.2.1 [⟨1,k,ztJ c.first b⟩]).bind λj=>
 if (decide (zt2 f 1<g.lo)) then
 grd (m.length=e.length) <|
 if (true||(!true)) then
 grd (t1.length=e.length) <|
 grd (e.length=t1.length) <|
 some (some (⟨[],0,⟨0,j,0,0,[]⟩⟩,⟨t0.s,t0.rows,t0.zt7,ztJ d 1⟩))
 else
 u (e,j,ztJ d 1)
 else
 i (e,j,ztJ d 1,true)
 else
 r (a,s.2.1,d,h,ztJ k 1)
def za.l10 (n:Nat) (self:zuj→(List Range)→Int→Option (Option (Found×zuj))) (t0:zuj) (t1:List Range) (t2:Int) (e:List Range) (f:((List Range)×(List Step)×Int)→Option (Option (Found×zuj))) (g:((List Range)×(List Step)×Int×Bool×Int)→Option (Option (Found×zuj))) (s:(List Range)×(List Step)×Int×Bool×Int) :=
 let a:=s.1
 let b:=s.2.2.1
 let d:=s.2.2.2.2
 if (decide (d<t0.s.ztQ.length)) then
 (idx t0.s.ztQ d).bind λl=>
 ztO (za.l11 n t0 t1 e f d g l) n (a,s.2.1,b,s.2.2.2.1,0)
 else
 grd (e.length=a.length) <|
 if (false||(!s.2.2.2.1)) then
 grd (t1.length=a.length) <|
 if ((0<(t0.s.cases.length:Int))&&(t2<0)) then
 ztO (za.l12 n self t0 t1 a s.2.1) n ([],t0.s.box,t0.s.rows,t0.s.ztQ,t0.s.cases,t0.rows,t0.zt7,b,0)
 else
 (zh n a (λq0=>zbz n q0)).bind λc=>
 if (decide (c<0)) then
 (mkl 8 a.length 0).bind λm=>
 ztO (za.l13 n t0 t1 t2 a b) n (m,0)
 else
 (idx a c).bind λh=>
 (zcN n h).bind λi=>
 (idx a c).bind λj=>
 (idx a c).bind λk=>
 ztO (za.l14 n self t1 t2 a s.2.1 c i j k) n ([],t0.s.box,t0.s.rows,t0.s.ztQ,t0.s.cases,t0.rows,t0.zt7,b,0)
 else
 f (a,s.2.1,b)
def za.l9 (n:Nat) (t0:zuj) (t1:List Range) (j:List Range) (p:((List Range)×(List Step)×Int)→Option (Option (Found×zuj))) (i:Int) (q:((List Range)×(List Step)×Int×Bool×Int)→Option (Option (Found×zuj))) (e:Row) (r:((List Range)×(List Step)×Int×Bool×Int)→Option (Option (Found×zuj))) (s:(List Range)×(List Step)×Int×Bool×Int) :=
 let a:=s.2.2.1
 let g:=s.2.2.2.2
 if (decide (g<e.ztP.length)) then
 jn (λv=>
 let k:=v.1
 let l:=v.2.1
 let m:=v.2.2.1
 let o:=v.2.2.2
 r (k,l,m,o,ztJ g 1)) λh=>
 (idx e.ztP g).bind λc=>
 (zcw n e s.1 c.cell).bind λd=>
 (idx s.1 c.cell).bind λt=>
 if (decide (d=t)) then
 h (s.1,s.2.1,a,s.2.2.2.1)
 else
 if (a==t0.zt7) then
 grd (s.1.length=t1.length) <|
 some none
 else
 (idx s.1 c.cell).bind λu=>
 (sto s.1 c.cell d).bind λb=>
 (app 24 s.2.1 [⟨0,i,c.cell⟩]).bind λf=>
 if (decide (d.hi<d.lo)) then
 grd (j.length=b.length) <|
 if (true||(!true)) then
 grd (t1.length=b.length) <|
 grd (b.length=t1.length) <|
 some (some (⟨[],0,⟨0,f,0,0,[]⟩⟩,⟨t0.s,t0.rows,t0.zt7,ztJ a 1⟩))
 else
 p (b,f,ztJ a 1)
 else
 h (b,f,ztJ a 1,true)
 else
 q (s.1,s.2.1,a,s.2.2.2.1,ztJ i 1)
def za.l8 (n:Nat) (self:zuj→(List Range)→Int→Option (Option (Found×zuj))) (t0:zuj) (t1:List Range) (t2:Int) (c:List Range) (d:((List Range)×(List Step)×Int)→Option (Option (Found×zuj))) (g:((List Range)×(List Step)×Int×Bool×Int)→Option (Option (Found×zuj))) (s:(List Range)×(List Step)×Int×Bool×Int) :=
 let a:=s.2.2.1
 let b:=s.2.2.2.2
 if (decide (b<t0.rows.length)) then
 (idx t0.rows b).bind λe=>
 if (((e.ztP.length:Int)==0)&&(e.bound<0)) then
 if (a==t0.zt7) then
 grd (s.1.length=t1.length) <|
 some none
 else
 (app 24 s.2.1 [⟨0,b,(-1)⟩]).bind λf=>
 grd (c.length=s.1.length) <|
 if (true||(!true)) then
 grd (t1.length=s.1.length) <|
 grd (s.1.length=t1.length) <|
 some (some (⟨[],0,⟨0,f,0,0,[]⟩⟩,⟨t0.s,t0.rows,t0.zt7,ztJ a 1⟩))
 else
 d (s.1,f,ztJ a 1)
 else
 ztO (za.l9 n t0 t1 c d b g e) n (s.1,s.2.1,a,s.2.2.2.1,0)
 else
 ztO (za.l10 n self t0 t1 t2 c d) n (s.1,s.2.1,a,s.2.2.2.1,0)
def za.l7 (n:Nat) (self:zuj→(List Range)→Int→Option (Option (Found×zuj))) (t0:zuj) (t1:List Range) (t2:Int) (a:((List Range)×(List Step)×Int)→Option (Option (Found×zuj))) (s:(List Range)×(List Step)×Int) :=
 ztO (za.l8 n self t0 t1 t2 s.1 a) n (s.1,s.2.1,s.2.2,false,0)
def za.body (n:Nat) (self:zuj→(List Range)→Int→Option (Option (Found×zuj))) (t0:zuj) (t1:List Range) (t2:Int) :=
 if (t0.cost==t0.zt7) then
 grd (t1.length=t1.length) <|
 some none
 else
 ztO (za.l7 n self t0 t1 t2) n (t1,[],ztJ t0.cost 1)
def za:Nat→zuj→(List Range)→Int→Option (Option (Found×zuj))
 | 0,_,_,_=>none
 | n+1,t0,t1,t2=>za.body n (za n) t0 t1 t2
def zgf (n:Nat) (t0:System) (t1:Int):Option (Answer×Int):=
 (zak n t0).bind λb=>
 if (!b) then
 some (⟨0,0,[],⟨0,[],0,0,[]⟩,0⟩,1)
 else
 if ((t1<0)||(65536<t1)) then
 some (⟨0,0,[],⟨0,[],0,0,[]⟩,0⟩,2)
 else
 (app 16 [] t0.box).bind λc=>
 (za n ⟨t0,t0.rows,t1,0⟩ c (-1)).bind λd=>
 ppk d (
 some (⟨2,0,[],⟨0,[],0,0,[]⟩,t1⟩,0)) λa=>
 if (!a.1.values.isEmpty) then
 some (⟨0,a.1.index,a.1.values,⟨0,[],0,0,[]⟩,a.2.cost⟩,0)
 else
 some (⟨1,0,[],a.1.tree,a.2.cost⟩,0)
def ziW (n:Nat) (t0:Answer):Option zt6:=
 some ⟨0,t0.values,⟨0,[],0,0,[]⟩,0⟩
def ziX (n:Nat) (t0:Answer):Option zt6:=
 some ⟨1,[],t0.tree,0⟩
def ziY (n:Nat):Option zt6:=
 some ⟨2,[],⟨0,[],0,0,[]⟩,0⟩
def zbP (n:Nat) (t0:Model) (t1:Question) (t2:Int) (t3:List Int):Option (zt6×Int):=
 (zf n t0 t1 t3).bind λb=>
 if ((b.2==1)||(b.2==2)) then
 some (⟨0,[],⟨0,[],0,0,[]⟩,0⟩,b.2)
 else
 if ((t2<0)||(65536<t2)) then
 some (⟨0,[],⟨0,[],0,0,[]⟩,0⟩,2)
 else
 if (b.2 != 0) then
 some (⟨2,[],⟨0,[],0,0,[]⟩,0⟩,0)
 else
 (zgf n b.1 t2).bind λa=>
 if (a.2 != 0) then
 some (⟨0,[],⟨0,[],0,0,[]⟩,0⟩,a.2)
 else
 if (a.1.kind==0) then
 (ziW n a.1).bind λc=>
 some (⟨c.kind,c.state,c.tree,a.1.steps⟩,0)
 else
 if (a.1.kind==1) then
 (ziX n a.1).bind λe=>
 some (⟨e.kind,e.state,e.tree,a.1.steps⟩,0)
 else
 if (a.1.kind==2) then
 (ziY n).bind λd=>
 some (⟨d.kind,d.state,d.tree,a.1.steps⟩,0)
 else
 none
def zaj.l1 (n:Nat) (t0:List Int) (t1:List Int) (b:Int→Option Bool) (a:Int) :=
 if (decide (a<t0.length)) then
 (idx t0 a).bind λc=>
 (idx t1 a).bind λd=>
 if (c != d) then
 some false
 else
 b (ztJ a 1)
 else
 some true
def zaj (n:Nat) (t0:List Int) (t1:List Int) :=
 if (t0.length != (t1.length:Int)) then
 some false
 else
 ztO (zaj.l1 n t0 t1) n 0
def zdN (n:Nat) (t0:Int) :=
 some ((t0<(-4000000))||(4000000<t0))
def zjg (n:Nat) (t0:System) (t1:List Int) :=
 (zak n t0).bind λa=>
 grd (!(a&&(t1.length==(t0.box.length:Int)))||(zj n t1 (λq0=>zdN n q0)).isSome) <|
 some ((a&&(t1.length==(t0.box.length:Int)))&&(!((zj n t1 (λq0=>zdN n q0)).getD default)))
def zbL.l1 (n:Nat) (t0:List Range) (t1:List Int) (d:Int→Option Bool) (a:Int) :=
 if (decide (a<t0.length)) then
 (idx t0 a).bind λb=>
 (idx t1 a).bind λc=>
 grd ((c<b.lo)||(idx t1 a).isSome) <|
 if ((c<b.lo)||(b.hi<((idx t1 a).getD default))) then
 some false
 else
 d (ztJ a 1)
 else
 some true
def zbL (n:Nat) (t0:List Range) (t1:List Int) :=
 if (t0.length != (t1.length:Int)) then
 some false
 else
 ztO (zbL.l1 n t0 t1) n 0
def zfr.l1 (n:Nat) (t0:Row) (t1:List Int) (b:(Int×Int)→Option Int) (s:Int×Int) :=
 if (decide (s.2<t0.ztP.length)) then
 (idx t0.ztP s.2).bind λa=>
 (idx t1 a.cell).bind λc=>
 b (ztJ s.1 (ztZ a.ztV c),ztJ s.2 1)
 else
 some s.1
def zfr (n:Nat) (t0:Row) (t1:List Int) :=
 ztO (zfr.l1 n t0 t1) n (0,0)
def zhg (n:Nat) (t0:Row) (t1:List Int):Option Bool:=
 (zfr n t0 t1).bind λa=>
 some (a≤t0.bound)
def zbK.l1 (n:Nat) (c:List Int) (b:((List Int)×Int)→Option (List Int)) (s:(List Int)×Int) :=
 if (decide (s.2<c.length)) then
 (idx s.1 s.2).bind λd=>
 (sto s.1 s.2 s.2).bind λa=>
 b (a,ztJ s.2 1)
 else
 some s.1
def zbK (n:Nat) (t0:Int) :=
 (mkl 8 t0 0).bind λa=>
 ztO (zbK.l1 n a) n (a,0)
def zcI (n:Nat) (t0:Int) (t1:List Bool) (t2:List Int) (t3:zuc) (t4:Int) :=
 (idx t1 t0).bind λa=>
 grd (!(!a)||(idx t2 (ztJ (ztJ t3.first (ztZ t0 t3.size)) t4)).isSome) <|
 grd (!(!a)||(idx t3.least (ztJ (ztZ t0 t3.size) t4)).isSome) <|
 some ((!a)&&(((idx t3.least (ztJ (ztZ t0 t3.size) t4)).getD default)≤((idx t2 (ztJ (ztJ t3.first (ztZ t0 t3.size)) t4)).getD default)))
def zgs (n:Nat) (t0:Int) (t1:List Bool) (t2:zuc) (t3:List Int) :=
 (idx t1 t0).bind λa=>
 grd (!(!a)||(zbK n t2.size).isSome) <|
 grd (!(!a)||(zj n ((zbK n t2.size).getD default) (λq0=>zcI n q0 t1 t3 t2 t0)).isSome) <|
 some ((!a)&&(!((zj n ((zbK n t2.size).getD default) (λq0=>zcI n q0 t1 t3 t2 t0)).getD default)))
def zd7.l1 (n:Nat) (t0:zuc) (t1:List Int) (c:((List Bool)×Int)→Option Bool) (s:(List Bool)×Int) :=
 if (decide (s.2<t0.size)) then
 (zbK n t0.size).bind λd=>
 (zO n d (λq0=>zgs n q0 s.1 t0 t1)).bind λa=>
 if (decide (a<0)) then
 some false
 else
 (idx s.1 a).bind λe=>
 (sto s.1 a true).bind λb=>
 c (b,ztJ s.2 1)
 else
 some true
def zd7 (n:Nat) (t0:zuc) (t1:List Int) :=
 (mkl 1 t0.size false).bind λa=>
 ztO (zd7.l1 n t0 t1) n (a,0)
def zdu.l2 (n:Nat) (t0:System) (t1:List Int) (b:List Int) (d:((List Int)×Int)→Option ((List Int)×(List Int))) (s:(List Int)×Int) :=
 if (decide (s.2<t0.ztQ.length)) then
 jn (λv=>
 let c:=v
 d (c,ztJ s.2 1)) λa=>
 (idx t0.ztQ s.2).bind λe=>
 (zd7 n e t1).bind λf=>
 if (!f) then
 (app 8 s.1 [s.2]).bind λg=>
 a g
 else
 a s.1
 else
 some (b,s.1)
def zdu.l1 (n:Nat) (t0:System) (t1:List Int) (c:((List Int)×Int)→Option ((List Int)×(List Int))) (s:(List Int)×Int) :=
 if (decide (s.2<t0.rows.length)) then
 jn (λv=>
 let b:=v
 c (b,ztJ s.2 1)) λa=>
 (idx t0.rows s.2).bind λd=>
 (zhg n d t1).bind λe=>
 if (!e) then
 (app 8 s.1 [s.2]).bind λf=>
 a f
 else
 a s.1
 else
 ztO (zdu.l2 n t0 t1 s.1) n ([],0)
def zdu (n:Nat) (t0:System) (t1:List Int) :=
 ztO (zdu.l1 n t0 t1) n ([],0)
def zeB (n:Nat) (t0:Row) (t1:List Int) :=
 (zhg n t0 t1).bind λa=>
 some (!a)
def zcJ.l1 (n:Nat) (t0:System) (t1:List Int) (b:Int→Option (Int×Bool)) (a:Int) :=
 if (decide (a<t0.cases.length)) then
 (idx t0.cases a).bind λc=>
 (zk n c (λq0=>zeB n q0 t1)).bind λd=>
 if (!d) then
 some (a,true)
 else
 b (ztJ a 1)
 else
 some (0,false)
def zcJ (n:Nat) (t0:System) (t1:List Int) :=
 ztO (zcJ.l1 n t0 t1) n 0
def zji (n:Nat) (t0:System) (t1:List Int) :=
 (zdu n t0 t1).bind λa=>
 if (decide (0<ztJ a.1.length a.2.length)) then
 some false
 else
 (zcJ n t0 t1).bind λb=>
 some (b.2||((t0.cases.length:Int)==0))
def zkz (n:Nat) (t0:System) (t1:List Int) :=
 (zjg n t0 t1).bind λa=>
 grd ((!a)||(zbL n t0.box t1).isSome) <|
 if ((!a)||(!((zbL n t0.box t1).getD default))) then
 some false
 else
 (zji n t0 t1).bind λb=>
 some b
def zae.l1 (n:Nat) (t0:List Step) (t1:List Step) (b:Int→Option Bool) (a:Int) :=
 if (decide (a<t0.length)) then
 (idx t0 a).bind λc=>
 (idx t1 a).bind λd=>
 if (!(c=d)) then
 some false
 else
 b (ztJ a 1)
 else
 some true
def zae (n:Nat) (t0:List Step) (t1:List Step) :=
 if (t0.length != (t1.length:Int)) then
 some false
 else
 ztO (zae.l1 n t0 t1) n 0
def zx.l1 (n:Nat) (t0:List Tree) (t1:List Tree) (t2:Tree→Tree→Option Bool) (b:Int→Option Bool) (a:Int) :=
 if (decide (a<t0.length)) then
 (idx t0 a).bind λc=>
 (idx t1 a).bind λd=>
 (t2 c d).bind λe=>
 if (!e) then
 some false
 else
 b (ztJ a 1)
 else
 some true
def zx (n:Nat) (t0:List Tree) (t1:List Tree) (t2:Tree→Tree→Option Bool) :=
 if (t0.length != (t1.length:Int)) then
 some false
 else
 ztO (zx.l1 n t0 t1 t2) n 0
def zbg.body (n:Nat) (self:Tree→Tree→Option Bool) (t0:Tree) (t1:Tree) :=
 grd (!(((t0.kind==t1.kind)&&(t0.cell==t1.cell))&&(t0.at_==t1.at_))||(zae n t0.steps t1.steps).isSome) <|
 grd (!((((t0.kind==t1.kind)&&(t0.cell==t1.cell))&&(t0.at_==t1.at_))&&((zae n t0.steps t1.steps).getD default))||(zx n t0.kids t1.kids (λq0 q1=>self q0 q1)).isSome) <|
 some (((((t0.kind==t1.kind)&&(t0.cell==t1.cell))&&(t0.at_==t1.at_))&&((zae n t0.steps t1.steps).getD default))&&((zx n t0.kids t1.kids (λq0 q1=>self q0 q1)).getD default))
def zbg:Nat→Tree→Tree→Option Bool
 | 0,_,_=>none
 | n+1,t0,t1=>zbg.body n (zbg n) t0 t1
def zbT.l1 (n:Nat) (t0:Tree) (d:Int→Option Bool) (b:Int):Option Bool:=
 if (decide (b<t0.steps.length)) then
 (idx t0.steps b).bind λa=>
 jn (λv=>
 let e:=v
 if ((((((a.kind != 0)&&(a.kind != 1))||(a.index<0))||(2048<a.index))||(a.cell<e))||(128≤a.cell)) then
 some false
 else
 d (ztJ b 1)) λc=>
 if (a.kind==1) then
 c 0
 else
 c (-1)
 else
 if (t0.kind==0) then
 some ((((t0.kids.length:Int)==0)&&(t0.cell==0))&&(t0.at_==0))
 else
 if (t0.kind==1) then
 some ((((((t0.kids.length:Int)==2)&&(0≤t0.cell))&&(t0.cell<128))&&((-1000000)≤t0.at_))&&(t0.at_≤1000000))
 else
 if (t0.kind==2) then
 some ((((1≤(t0.kids.length:Int))&&((t0.kids.length:Int)≤1024))&&(t0.cell==0))&&(t0.at_==0))
 else
 some false
def zbT (n:Nat) (t0:Tree) :=
 ztO (zbT.l1 n t0) n 0
def zan.l1 (n:Nat) (v:Int→Tree→Int→Option (Bool×Int)) (level:Int) (kids:List Tree) (rec:Int×Int→Option (Bool×Int)) (s:Int×Int) :=
 if (decide (s.2<kids.length)) then
 (idx kids s.2).bind λx=>
 (v (ztJ level 1) x s.1).bind λr=>
 if r.1=true then rec (r.2,ztJ s.2 1) else some (false,r.2)
 else some (true,s.1)
def zan (n:Nat):Nat→Int→Tree→Int→Option (Bool×Int)
 | 0,_,_,_=>none
 | k+1,level,t,cost=>
 if ((4096<level)||(65536<ztJ cost (ztJ 1 t.steps.length)))=true then some (false,ztJ cost (ztJ 1 t.steps.length))
 else
 (zbT n t).bind λb=>
 if (!b)=true then some (false,ztJ cost (ztJ 1 t.steps.length))
 else ztO (zan.l1 n (zan n k) level t.kids) n (ztJ cost (ztJ 1 t.steps.length),0)
def zb0 (n:Nat) (t0:Tree) :=(zan n n 1 t0 0).map (·.1)
def zbD.l1 (n:Nat) (t0:zuh) (t1:zuc) (t2:Int) (b:((List Bool)×Int)→Option Bool) (s:(List Bool)×Int) :=
 if (decide (s.2<t1.least.length)) then
 (idx t1.least s.2).bind λc=>
 (idx t0.box (ztJ t1.first s.2)).bind λd=>
 (idx s.1 s.2).bind λh=>
 (sto s.1 s.2 (c≤d.lo)).bind λa=>
 b (a,ztJ s.2 1)
 else
 (zvg t2 t1.size).bind λe=>
 (zvm t2 t1.size).bind λf=>
 (zed n t1.size s.1 e f).bind λg=>
 some (0<(g.length:Int))
def zbD (n:Nat) (t0:zuh) (t1:zuc) (t2:Int) :=
 (mkl 1 t1.least.length false).bind λa=>
 ztO (zbD.l1 n t0 t1 t2) n (a,0)
def zf7 (n:Nat) (t0:Range) (t1:Range):Option Range:=
 some ⟨(gmax t0.lo t1.lo),(gmin t0.hi t1.hi)⟩
def zA.l2 (n:Nat) (self:zuh→Tree→Option Bool) (t0:zuh) (t1:Tree) (b:List Range) (c:Int→Option Bool) (a:Int) :=
 if (decide (a<t1.kids.length)) then
 (idx t1.kids a).bind λd=>
 (idx t0.s.cases a).bind λe=>
 (zi n [t0.rows,e]).bind λf=>
 (self ⟨t0.s,f,b,true⟩ d).bind λg=>
 if (!g) then
 some false
 else
 c (ztJ a 1)
 else
 some true
def zA.l1 (n:Nat) (self:zuh→Tree→Option Bool) (t0:zuh) (t1:Tree) (r:((List Range)×Int)→Option Bool) (s:(List Range)×Int) :=
 let b:=s.1
 if (decide (s.2<t1.steps.length)) then
 jn (λv=>
 let o:=v
 r (o,ztJ s.2 1)) λd=>
 (idx t1.steps s.2).bind λa=>
 if (a.kind==1) then
 if (decide (t0.s.ztQ.length≤a.index)) then
 if (!false) then
 some false
 else
 d b
 else
 (idx t0.s.ztQ a.index).bind λc=>
 if ((zt2 a.cell c.first<0)||(c.least.length≤zt2 a.cell c.first)) then
 if (!false) then
 some false
 else
 d b
 else
 jn (λv=>
 let g:=v
 (idx g a.cell).bind λB=>
 (idx g a.cell).bind λD=>
 if (decide (D.hi<B.lo)) then
 some true
 else
 if (!true) then
 some false
 else
 d g) λk=>
 (zbD n ⟨t0.s,t0.rows,b,t0.zt8⟩ c (zt2 a.cell c.first)).bind λx=>
 if x then
 (idx b a.cell).bind λy=>
 (idx c.least (zt2 a.cell c.first)).bind λz=>
 (idx b a.cell).bind λA=>
 (sto b a.cell ⟨A.lo,(gmin y.hi (zt2 z 1))⟩).bind λp=>
 k p
 else
 k b
 else
 if ((t0.rows.length≤a.index)||(b.length≤a.cell)) then
 if (!false) then
 some false
 else
 d b
 else
 (idx t0.rows a.index).bind λe=>
 if (decide (a.cell<0)) then
 if (((e.ztP.length:Int)==0)&&(e.bound<0)) then
 some true
 else
 if (!(((e.ztP.length:Int)==0)&&(e.bound<0))) then
 some false
 else
 d b
 else
 (zcw n e b a.cell).bind λt=>
 (idx b a.cell).bind λG=>
 (sto b a.cell t).bind λh=>
 (idx h a.cell).bind λu=>
 (idx h a.cell).bind λw=>
 if (decide (w.hi<u.lo)) then
 some true
 else
 if (!true) then
 some false
 else
 d h
 else
 if (t1.kind==1) then
 if (decide (b.length≤t1.cell)) then
 some false
 else
 (idx b t1.cell).bind λf=>
 (app 16 [] b).bind λl=>
 (app 16 [] b).bind λm=>
 (zf7 n f ⟨f.lo,t1.at_⟩).bind λC=>
 (idx l t1.cell).bind λH=>
 (sto l t1.cell C).bind λq=>
 (zf7 n f ⟨ztJ t1.at_ 1,f.hi⟩).bind λE=>
 (idx m t1.cell).bind λI=>
 (sto m t1.cell E).bind λj=>
 (idx t1.kids 0).bind λF=>
 (self ⟨t0.s,t0.rows,q,t0.zt8⟩ F).bind λi=>
 grd (!i||(idx t1.kids 1).isSome) <|
 grd (!i||(self ⟨t0.s,t0.rows,j,t0.zt8⟩ ((idx t1.kids 1).getD default)).isSome) <|
 some (i&&((self ⟨t0.s,t0.rows,j,t0.zt8⟩ ((idx t1.kids 1).getD default)).getD default))
 else
 if (t1.kind==2) then
 if (t0.zt8||(t1.kids.length != (t0.s.cases.length:Int))) then
 some false
 else
 ztO (zA.l2 n self t0 t1 b) n 0
 else
 some false
def zA.body (n:Nat) (self:zuh→Tree→Option Bool) (t0:zuh) (t1:Tree) :=
 (zbG n t0.box).bind λa=>
 if a then
 some true
 else
 (app 16 [] t0.box).bind λb=>
 ztO (zA.l1 n self t0 t1) n (b,0)
def zA:Nat→zuh→Tree→Option Bool
 | 0,_,_=>none
 | n+1,t0,t1=>zA.body n (zA n) t0 t1
def zgq (n:Nat) (t0:System) (t1:Tree) :=
 (zak n t0).bind λa=>
 grd (!a||(zb0 n t1).isSome) <|
 grd (!(a&&((zb0 n t1).getD default))||(zA n ⟨t0,t0.rows,t0.box,false⟩ t1).isSome) <|
 some ((a&&((zb0 n t1).getD default))&&((zA n ⟨t0,t0.rows,t0.box,false⟩ t1).getD default))
def za4 (n:Nat) (t0:Model) (t1:Question) (t2:zt6) (t3:List Int) :=
 (zf n t0 t1 t3).bind λa=>
 if (((a.2 != 0)||(t2.steps<0))||(65536<t2.steps)) then
 some false
 else
 if (t2.kind==0) then
 (zkz n a.1 t2.state).bind λb=>
 grd (!b||(zbg n t2.tree ⟨0,[],0,0,[]⟩).isSome) <|
 some (b&&((zbg n t2.tree ⟨0,[],0,0,[]⟩).getD default))
 else
 if (t2.kind==1) then
 (zgq n a.1 t2.tree).bind λc=>
 some (c&&((t2.state.length:Int)==0))
 else
 some false
def zie (n:Nat) :=
 (ziK n ).bind λc=>
 (zbP n c ⟨0,0,⟨false,1⟩⟩ 100 []).bind λa=>
 (zbP n c ⟨0,0,⟨false,0⟩⟩ 100 []).bind λb=>
 (zbP n c ⟨0,0,⟨false,1⟩⟩ 0 []).bind λd=>
 grd (!((a.2==0)&&(a.1.kind==0))||(zaj n a.1.state [0]).isSome) <|
 grd (!(((((a.2==0)&&(a.1.kind==0))&&((zaj n a.1.state [0]).getD default))&&(b.2==0))&&(b.1.kind==1))||(za4 n c ⟨0,0,⟨false,1⟩⟩ a.1 []).isSome) <|
 grd (!((((((a.2==0)&&(a.1.kind==0))&&((zaj n a.1.state [0]).getD default))&&(b.2==0))&&(b.1.kind==1))&&((za4 n c ⟨0,0,⟨false,1⟩⟩ a.1 []).getD default))||(za4 n c ⟨0,0,⟨false,0⟩⟩ b.1 []).isSome) <|
 grd (!(((((((a.2==0)&&(a.1.kind==0))&&((zaj n a.1.state [0]).getD default))&&(b.2==0))&&(b.1.kind==1))&&((za4 n c ⟨0,0,⟨false,1⟩⟩ a.1 []).getD default))&&((za4 n c ⟨0,0,⟨false,0⟩⟩ b.1 []).getD default))||(za4 n c ⟨0,0,⟨false,1⟩⟩ b.1 []).isSome) <|
 some ((((((((((a.2==0)&&(a.1.kind==0))&&((zaj n a.1.state [0]).getD default))&&(b.2==0))&&(b.1.kind==1))&&((za4 n c ⟨0,0,⟨false,1⟩⟩ a.1 []).getD default))&&((za4 n c ⟨0,0,⟨false,0⟩⟩ b.1 []).getD default))&&(!((za4 n c ⟨0,0,⟨false,1⟩⟩ b.1 []).getD default)))&&(d.2==0))&&(d.1.kind==2))
def zcU.l1 (n:Nat) (t0:List Int) (t1:List Table) (c:Int→Option Bool) (a:Int) :=
 if (decide (a<t1.length)) then
 (idx t1 a).bind λb=>
 grd ((40<(b.name.length:Int))||(idx t1 a).isSome) <|
 if ((40<(b.name.length:Int))||(12<((((idx t1 a).getD default).ztK).length:Int))) then
 some false
 else
 c (ztJ a 1)
 else
 some (((t0.length:Int)≤12)&&((t1.length:Int)≤20))
def zcU (n:Nat) (t0:List Int) (t1:List Table) :=
 ztO (zcU.l1 n t0 t1) n 0
def zu.l5 (n:Nat) (f:Int) (c:Int→Option Bool) (b:Action) (d:Int→Option Bool) (a:Int) :=
 if (decide (a<b.effect.hold.length)) then
 (idx b.effect.hold a).bind λe=>
 if (decide (20<(e.ztP.length:Int))) then
 some false
 else
 d (ztJ a 1)
 else
 c (ztJ f 1)
def zu.l4 (n:Nat) (t0:Model) (c:Int→Option Bool) (b:Int) :=
 if (decide (b<t0.ztL.length)) then
 (idx t0.ztL b).bind λa=>
 (idx t0.ztL b).bind λd=>
 if ((((6<(d.arguments.length:Int))||(20<(a.effect.delta.length:Int)))||(10<(a.effect.hold.length:Int)))||(40<(a.effect.ztU.length:Int))) then
 some false
 else
 ztO (zu.l5 n b c a) n 0
 else
 some true
def zu.l3 (n:Nat) (t0:Model) (c:Int→Option Bool) (a:Int) :=
 if (decide (a<t0.ztN.length)) then
 (idx t0.ztN a).bind λb=>
 grd ((40<(b.name.length:Int))||(idx t0.ztN a).isSome) <|
 if ((40<(b.name.length:Int))||(6<((((idx t0.ztN a).getD default).ztR).length:Int))) then
 some false
 else
 c (ztJ a 1)
 else
 ztO (zu.l4 n t0) n 0
def zu.l2 (n:Nat) (t0:Model) (b:Int→Option Bool) (a:Int) :=
 if (decide (a<t0.constraints.length)) then
 (idx t0.constraints a).bind λc=>
 if (decide (20<(c.row.ztP.length:Int))) then
 some false
 else
 b (ztJ a 1)
 else
 ztO (zu.l3 n t0) n 0
def zu.l1 (n:Nat) (t0:Model) (b:Int→Option Bool) (a:Int) :=
 if (decide (a<t0.ztX.length)) then
 (idx t0.ztX a).bind λc=>
 if (decide (40<(c.length:Int))) then
 some false
 else
 b (ztJ a 1)
 else
 ztO (zu.l2 n t0) n 0
def zu (n:Nat) (t0:Model) :=
 grd ((((((((8<(t0.ztR.length:Int))||(6<(t0.tables.length:Int)))||(20<(t0.ztX.length:Int)))||(60<(t0.constraints.length:Int)))||(8<(t0.ztN.length:Int)))||(30<(t0.ztL.length:Int)))||(12<(t0.zt3.length:Int)))||(zcU n t0.ztR t0.tables).isSome) <|
 if ((((((((8<(t0.ztR.length:Int))||(6<(t0.tables.length:Int)))||(20<(t0.ztX.length:Int)))||(60<(t0.constraints.length:Int)))||(8<(t0.ztN.length:Int)))||(30<(t0.ztL.length:Int)))||(12<(t0.zt3.length:Int)))||(!((zcU n t0.ztR t0.tables).getD default))) then
 some false
 else
 ztO (zu.l1 n t0) n 0
def zbd.l1 (n:Nat) (t0:List Int) (c:Int→Option Bool) (a:Int) :=
 if (decide (a<t0.length)) then
 (idx t0 a).bind λb=>
 grd ((b<1)||(idx t0 a).isSome) <|
 if ((b<1)||(6<((idx t0 a).getD default))) then
 some false
 else
 c (ztJ a 1)
 else
 some true
def zbd (n:Nat) (t0:List Int) :=
 ztO (zbd.l1 n t0) n 0
def zai.l1 (n:Nat) (t0:List Int) (t1:List Int) (b:(Int×Int)→Option Int) (s:Int×Int) :=
 if (decide (s.2<t1.length)) then
 (idx t1 s.2).bind λa=>
 grd ((a<0)||(idx t1 s.2).isSome) <|
 if ((a<0)||(t0.length≤((idx t1 s.2).getD default))) then
 some 0
 else
 (idx t1 s.2).bind λc=>
 (idx t0 c).bind λd=>
 b (ztZ s.1 d,ztJ s.2 1)
 else
 some s.1
def zai (n:Nat) (t0:List Int) (t1:List Int) :=
 grd ((3<(t1.length:Int))||(zbd n t0).isSome) <|
 if ((3<(t1.length:Int))||(!((zbd n t0).getD default))) then
 some 0
 else
 ztO (zai.l1 n t0 t1) n (1,0)
def zaR (n:Nat) (t0:Int) :=
 some ((((t0==9)||(t0==10))||(t0==13))||(t0==32))
def zbj.l2 (n:Nat) (t0:List UInt8) (b:Int→Option Int) (c:Int→Option Int) (a:Int) :=
 grd (!(a<t0.length)||(sidx t0 a).isSome) <|
 if ((a<t0.length)&&(((sidx t0 a).getD default) != 10)) then
 c (ztJ a 1)
 else
 b a
def zbj.l1 (n:Nat) (t0:List UInt8) (b:Int→Option Int) (a:Int) :=
 grd (!(a<t0.length)||(sidx t0 a).isSome) <|
 grd (!(a<t0.length)||(zaR n ((sidx t0 a).getD default)).isSome) <|
 grd (!(a<t0.length)||(((zaR n ((sidx t0 a).getD default)).getD default)||(sidx t0 a).isSome)) <|
 if ((a<t0.length)&&(((zaR n ((sidx t0 a).getD default)).getD default)||(((sidx t0 a).getD default)==35))) then
 (sidx t0 a).bind λc=>
 if (c==35) then
 ztO (zbj.l2 n t0 b) n a
 else
 b (ztJ a 1)
 else
 some a
def zbj (n:Nat) (t0:List UInt8) (t1:Int) :=
 ztO (zbj.l1 n t0) n t1
def zaG (n:Nat) (t0:Int) :=
 some ((97≤t0)&&(t0≤122))
def za1 (n:Nat) (t0:Int) :=
 some ((48≤t0)&&(t0≤57))
def zfx (n:Nat):Option (List (List UInt8)):=
 some [[115,111,114,116],[114,101,108,97,116,105,111,110],[99,111,117,110,116,101,114],[115,101,116],[114,101,103,105,115,116,101,114],[105,110,118,97,114,105,97,110,116],[111,112,101,114,97,116,105,111,110],[107,101,121],[114,101,102,101,114,101,110,99,101],[116,111],[99,111,117,110,116],[97,99,121,99,108,105,99],[97,108,108],[115,117,109],[105,110],[97,100,100,119,105,110,115],[114,101,109,111,118,101,119,105,110,115],[108,97,115,116],[109,117,108,116,105],[104,105,100,101],[111,114,100,101,114,101,100],[114,101,113,117,105,114,101],[104,111,108,100],[105,110,115,101,114,116],[100,101,108,101,116,101],[97,100,100],[102,114,111,109],[112,117,116],[100,114,111,112],[97,115,115,105,103,110],[102,111,114],[119,104,101,114,101],[97,110,100],[111,114],[110,111,116]]
def zcT.l1 (n:Nat) (t0:List (List UInt8)) (t1:List UInt8) (b:Int→Option Bool) (a:Int) :=
 if (decide (a<t0.length)) then
 (idx t0 a).bind λc=>
 if (decide (c=t1)) then
 some true
 else
 b (ztJ a 1)
 else
 some false
def zcT (n:Nat) (t0:List (List UInt8)) (t1:List UInt8) :=
 ztO (zcT.l1 n t0 t1) n 0
def zgd (n:Nat):Option (List (List UInt8)):=
 some [[61,61],[33,61],[60,61],[62,61],[46,46],[60],[62],[61],[43],[45],[42],[40],[41],[123],[125],[44],[58],[59]]
def zbm.l1 (n:Nat) (t0:List UInt8) (t1:Int) (c:List (List UInt8)) (d:Int→Option Int) (b:Int):Option Int:=
 if (decide (b<c.length)) then
 (idx c b).bind λa=>
 grd (!(ztJ t1 a.length≤t0.length)||(cut t0 t1 (ztJ t1 a.length)).isSome) <|
 grd (!(ztJ t1 a.length≤t0.length)||(idx c b).isSome) <|
 if ((ztJ t1 a.length≤t0.length)&&(((cut t0 t1 (ztJ t1 a.length)).getD default)=((idx c b).getD default))) then
 some a.length
 else
 d (ztJ b 1)
 else
 some 0
def zbm (n:Nat) (t0:List UInt8) (t1:Int) :=
 (zgd n ).bind λa=>
 ztO (zbm.l1 n t0 t1 a) n 0
def zau.l3 (n:Nat) (t0:List UInt8) (b:Int→Option (Int×Int)) (a:Int) :=
 grd (!(a<t0.length)||(sidx t0 a).isSome) <|
 grd (!(a<t0.length)||(zaR n ((sidx t0 a).getD default)).isSome) <|
 grd (!((a<t0.length)&&(!((zaR n ((sidx t0 a).getD default)).getD default)))||(sidx t0 a).isSome) <|
 grd (!(((a<t0.length)&&(!((zaR n ((sidx t0 a).getD default)).getD default)))&&(((sidx t0 a).getD default) != 35))||(sidx t0 a).isSome) <|
 grd (!(((a<t0.length)&&(!((zaR n ((sidx t0 a).getD default)).getD default)))&&(((sidx t0 a).getD default) != 35))||(zaG n ((sidx t0 a).getD default)).isSome) <|
 grd (!((((a<t0.length)&&(!((zaR n ((sidx t0 a).getD default)).getD default)))&&(((sidx t0 a).getD default) != 35))&&(!((zaG n ((sidx t0 a).getD default)).getD default)))||(sidx t0 a).isSome) <|
 grd (!((((a<t0.length)&&(!((zaR n ((sidx t0 a).getD default)).getD default)))&&(((sidx t0 a).getD default) != 35))&&(!((zaG n ((sidx t0 a).getD default)).getD default)))||(za1 n ((sidx t0 a).getD default)).isSome) <|
 grd (!(((((a<t0.length)&&(!((zaR n ((sidx t0 a).getD default)).getD default)))&&(((sidx t0 a).getD default) != 35))&&(!((zaG n ((sidx t0 a).getD default)).getD default)))&&(!((za1 n ((sidx t0 a).getD default)).getD default)))||(zbm n t0 a).isSome) <|
 if ((((((a<t0.length)&&(!((zaR n ((sidx t0 a).getD default)).getD default)))&&(((sidx t0 a).getD default) != 35))&&(!((zaG n ((sidx t0 a).getD default)).getD default)))&&(!((za1 n ((sidx t0 a).getD default)).getD default)))&&(((zbm n t0 a).getD default)==0)) then
 b (ztJ a 1)
 else
 some (5,a)
def zau.l2 (n:Nat) (t0:List UInt8) (b:Int→Option (Int×Int)) (a:Int) :=
 grd (!(a<t0.length)||(sidx t0 a).isSome) <|
 grd (!(a<t0.length)||(za1 n ((sidx t0 a).getD default)).isSome) <|
 if ((a<t0.length)&&((za1 n ((sidx t0 a).getD default)).getD default)) then
 b (ztJ a 1)
 else
 some (3,a)
def zau.l1 (n:Nat) (t0:List UInt8) (t1:Int) (b:Int→Option (Int×Int)) (a:Int) :=
 grd (!(a<t0.length)||(sidx t0 a).isSome) <|
 grd (!(a<t0.length)||(zaG n ((sidx t0 a).getD default)).isSome) <|
 grd (!(a<t0.length)||(((zaG n ((sidx t0 a).getD default)).getD default)||(sidx t0 a).isSome)) <|
 grd (!(a<t0.length)||(((zaG n ((sidx t0 a).getD default)).getD default)||(za1 n ((sidx t0 a).getD default)).isSome)) <|
 grd (!(a<t0.length)||((((zaG n ((sidx t0 a).getD default)).getD default)||((za1 n ((sidx t0 a).getD default)).getD default))||(sidx t0 a).isSome)) <|
 if ((a<t0.length)&&((((zaG n ((sidx t0 a).getD default)).getD default)||((za1 n ((sidx t0 a).getD default)).getD default))||(((sidx t0 a).getD default)==95))) then
 b (ztJ a 1)
 else
 (zfx n ).bind λc=>
 (cut t0 t1 a).bind λd=>
 (zcT n c d).bind λe=>
 if e then
 some (2,a)
 else
 some (1,a)
def zau (n:Nat) (t0:List UInt8) (t1:Int) :=
 (sidx t0 t1).bind λb=>
 (zaG n b).bind λc=>
 if c then
 ztO (zau.l1 n t0 t1) n t1
 else
 (sidx t0 t1).bind λd=>
 (za1 n d).bind λe=>
 if e then
 ztO (zau.l2 n t0) n t1
 else
 (zbm n t0 t1).bind λa=>
 if (decide (0<a)) then
 some (4,ztJ t1 a)
 else
 ztO (zau.l3 n t0) n t1
def zc5.l1 (n:Nat) (t0:List UInt8) (c:((List Token)×Int)→Option ((List Token)×Int)) (s:(List Token)×Int) :=
 (zbj n t0 s.2).bind λd=>
 if (decide (d<t0.length)) then
 (zbj n t0 s.2).bind λb=>
 (zau n t0 b).bind λa=>
 (app 32 s.1 [⟨a.1,s.2,b,a.2⟩]).bind λe=>
 c (e,a.2)
 else
 (app 32 s.1 [⟨0,s.2,t0.length,t0.length⟩]).bind λf=>
 some (f,0)
def zc5 (n:Nat) (t0:List UInt8) :=
 if (decide (4096<(t0.length:Int))) then
 some ([],8)
 else
 ztO (zc5.l1 n t0) n ([],0)
def zhw (n:Nat) (t0:List UInt8) :=
 (zc5 n t0).bind λa=>
 grd (((a.2 != 0)||((a.1.length:Int) != 2))||(idx a.1 0).isSome) <|
 grd ((((a.2 != 0)||((a.1.length:Int) != 2))||((((idx a.1 0).getD default).at_) != 0))||(idx a.1 0).isSome) <|
 if ((((a.2 != 0)||((a.1.length:Int) != 2))||((((idx a.1 0).getD default).at_) != 0))||((((idx a.1 0).getD default).end_) != t0.length)) then
 some 0
 else
 (idx a.1 0).bind λb=>
 some b.kind
def zfN (n:Nat) (t0:List UInt8) :=
 (zhw n t0).bind λa=>
 some ((a==1)&&((t0.length:Int)≤16))
def zb4 (n:Nat) (t0:Int) :=
 some ((t0==0)||(t0==1))
def zaB.l2 (n:Nat) (t0:List Int) (t1:List Table) (c:Int) (d:Int) (k:Int) (f:(Int×Int)→Option Bool) (a:Table) (g:Int→Option Bool) (e:Int) :=
 if (decide (e<k)) then
 (idx t1 e).bind λi=>
 if (decide (i.name=a.name)) then
 some false
 else
 g (ztJ e 1)
 else
 (zai n t0 a.ztK).bind λb=>
 (zfN n a.name).bind λj=>
 if ((((!j)||(a.kind<0))||(5<a.kind))||(b==0)) then
 some false
 else
 if (((a.range.hi<a.range.lo)||(a.range.lo<(-9999)))||(9999<a.range.hi)) then
 some false
 else
 if ((((a.kind==0)||(a.kind==2))||(a.kind==3))&&((a.range.lo != 0)||(a.range.hi != 1))) then
 some false
 else
 (zb4 n a.kind).bind λh=>
 if h then
 if (a.first != c) then
 some false
 else
 f (ztJ c b,d)
 else
 if (a.first != d) then
 some false
 else
 f (c,ztJ d b)
def zaB.l1 (n:Nat) (t0:List Int) (t1:List Table) (b:(Int×Int×Int)→Option Bool) (s:Int×Int×Int) :=
 if (decide (s.2.2<t1.length)) then
 jn (λv=>
 let d:=v.1
 let e:=v.2
 b (d,e,ztJ s.2.2 1)) λa=>
 (idx t1 s.2.2).bind λc=>
 ztO (zaB.l2 n t0 t1 s.1 s.2.1 s.2.2 a c) n 0
 else
 some ((s.1≤128)&&(s.2.1≤64))
def zaB (n:Nat) (t0:List Int) (t1:List Table) :=
 grd ((4<(t0.length:Int))||(zbd n t0).isSome) <|
 if (((4<(t0.length:Int))||(!((zbd n t0).getD default)))||(12<(t1.length:Int))) then
 some false
 else
 ztO (zaB.l1 n t0 t1) n (0,0,0)
def zaH.l2 (n:Nat) (t0:List Int) (t1:List Table) (t2:Bool) (a:Int) (c:((List Range)×Int)→Option (List Range)) (d:((List Range)×Int)→Option (List Range)) (s:(List Range)×Int) :=
 (idx t1 a).bind λe=>
 (zb4 n e.kind).bind λb=>
 grd (!(b==t2)||(idx t1 a).isSome) <|
 grd (!(b==t2)||(zai n t0 (((idx t1 a).getD default).ztK)).isSome) <|
 if ((b==t2)&&(s.2<((zai n t0 (((idx t1 a).getD default).ztK)).getD default))) then
 (idx t1 a).bind λf=>
 (app 16 s.1 [f.range]).bind λg=>
 d (g,ztJ s.2 1)
 else
 c (s.1,ztJ a 1)
def zaH.l1 (n:Nat) (t0:List Int) (t1:List Table) (t2:Bool) (a:((List Range)×Int)→Option (List Range)) (s:(List Range)×Int) :=
 if (decide (s.2<t1.length)) then
 ztO (zaH.l2 n t0 t1 t2 s.2 a) n (s.1,0)
 else
 some s.1
def zaH (n:Nat) (t0:List Int) (t1:List Table) (t2:Bool) :=
 (zaB n t0 t1).bind λa=>
 if (!a) then
 some []
 else
 ztO (zaH.l1 n t0 t1 t2) n ([],0)
def zcm (n:Nat) (t0:Model) :=
 (zaH n t0.ztR t0.tables true).bind λa=>
 some a
def zbR.l2 (n:Nat) (a:List Range) (d:(Int×Int)→Option Bool) (s:Int×Int) :=
 if (decide (s.2<a.length)) then
 (idx a s.2).bind λb=>
 (idx a s.2).bind λc=>
 if (decide (4096<ztZ s.1 (ztJ (zt2 b.hi c.lo) 1))) then
 some false
 else
 d (ztZ s.1 (ztJ (zt2 b.hi c.lo) 1),ztJ s.2 1)
 else
 some true
def zbR.l1 (n:Nat) (t0:Model) (c:Int→Option Bool) (a:Int) :=
 if (decide (a<t0.ztL.length)) then
 (idx t0.ztL a).bind λd=>
 if (decide (4<(d.effect.hold.length:Int))) then
 some false
 else
 c (ztJ a 1)
 else
 (zcm n t0).bind λb=>
 if (decide (12<(b.length:Int))) then
 some false
 else
 ztO (zbR.l2 n b) n (1,0)
def zbR (n:Nat) (t0:Model) :=
 (zu n t0).bind λa=>
 if (((!a)||(12<(t0.ztL.length:Int)))||(40<(t0.constraints.length:Int))) then
 some false
 else
 ztO (zbR.l1 n t0) n 0
def za0.l1 (n:Nat) (t0:List (List UInt8)) (c:Int→Option Bool) (a:Int) :=
 if (decide (a<t0.length)) then
 (idx t0 a).bind λd=>
 (zfN n d).bind λb=>
 grd ((!b)||(cut t0 0 a).isSome) <|
 grd ((!b)||(idx t0 a).isSome) <|
 grd ((!b)||(zcT n ((cut t0 0 a).getD default) ((idx t0 a).getD default)).isSome) <|
 if ((!b)||((zcT n ((cut t0 0 a).getD default) ((idx t0 a).getD default)).getD default)) then
 some false
 else
 c (ztJ a 1)
 else
 some true
def za0 (n:Nat) (t0:List (List UInt8)) :=
 ztO (za0.l1 n t0) n 0
def zbe.l1 (n:Nat) (t0:List Term) (t1:List Term) (b:Int→Option Bool) (a:Int) :=
 if (decide (a<t0.length)) then
 (idx t0 a).bind λc=>
 (idx t1 a).bind λd=>
 if (!(c=d)) then
 some false
 else
 b (ztJ a 1)
 else
 some true
def zbe (n:Nat) (t0:List Term) (t1:List Term) :=
 if (t0.length != (t1.length:Int)) then
 some false
 else
 ztO (zbe.l1 n t0 t1) n 0
def zdI (n:Nat) (t0:Row) (t1:Row) :=
 grd (!(t0.bound==t1.bound)||(zbe n t0.ztP t1.ztP).isSome) <|
 some ((t0.bound==t1.bound)&&((zbe n t0.ztP t1.ztP).getD default))
def zaP (n:Nat) (t0:Int) (t1:Int) :=
 some ((zuH t1≤t0)&&(t0≤t1))
def zcW.l1 (n:Nat) (t0:Row) (t1:Int) (c:Int→Option Bool) (b:Int) :=
 if (decide (b<t0.ztP.length)) then
 (idx t0.ztP b).bind λa=>
 grd (((a.cell<0)||(t1≤a.cell))||(!(0<b)||(idx t0.ztP (zt2 b 1)).isSome)) <|
 grd (((((a.cell<0)||(t1≤a.cell))||((0<b)&&(a.cell≤((idx t0.ztP (zt2 b 1)).getD default).cell)))||(a.ztV==0))||(zaP n a.ztV 1000).isSome) <|
 if (((((a.cell<0)||(t1≤a.cell))||((0<b)&&(a.cell≤((idx t0.ztP (zt2 b 1)).getD default).cell)))||(a.ztV==0))||(!((zaP n a.ztV 1000).getD default))) then
 some false
 else
 c (ztJ b 1)
 else
 (zaP n t0.bound 1000000000).bind λd=>
 some d
def zcW (n:Nat) (t0:Row) (t1:Int) :=
 ztO (zcW.l1 n t0 t1) n 0
def zct.l1 (n:Nat) (t0:Model) (t1:Constraint) (c:Int→Option Bool) (b:Int) :=
 if (decide (b<t0.tables.length)) then
 (idx t0.tables b).bind λa=>
 grd (!((a.kind==0)&&((a.ztK.length:Int)==2))||(idx a.ztK 0).isSome) <|
 grd (!((a.kind==0)&&((a.ztK.length:Int)==2))||(idx a.ztK 1).isSome) <|
 grd (!((((a.kind==0)&&((a.ztK.length:Int)==2))&&(((idx a.ztK 0).getD default)==((idx a.ztK 1).getD default)))&&(a.first==t1.first))||(idx a.ztK 0).isSome) <|
 grd (!((((a.kind==0)&&((a.ztK.length:Int)==2))&&(((idx a.ztK 0).getD default)==((idx a.ztK 1).getD default)))&&(a.first==t1.first))||(idx t0.ztR ((idx a.ztK 0).getD default)).isSome) <|
 if (((((a.kind==0)&&((a.ztK.length:Int)==2))&&(((idx a.ztK 0).getD default)==((idx a.ztK 1).getD default)))&&(a.first==t1.first))&&(((idx t0.ztR ((idx a.ztK 0).getD default)).getD default)==t1.size)) then
 some true
 else
 c (ztJ b 1)
 else
 some false
def zct (n:Nat) (t0:Model) (t1:Constraint) :=
 if ((0<(t1.row.ztP.length:Int))||(t1.row.bound != 0)) then
 some false
 else
 ztO (zct.l1 n t0 t1) n 0
def zY.l2 (n:Nat) (t0:Model) (b:List Range) (d:Int→Option Bool) (c:Int) :=
 if (decide (c<t0.constraints.length)) then
 (idx t0.constraints c).bind λa=>
 if ((a.family<0)||(t0.ztX.length≤a.family)) then
 some false
 else
 grd (!(((a.kind==0)&&(a.first==0))&&(a.size==0))||(zcW n a.row b.length).isSome) <|
 grd (!(!((((a.kind==0)&&(a.first==0))&&(a.size==0))&&((zcW n a.row b.length).getD default)))||(!((ztZ 2 b.length≤c)&&(a.kind==1))||(zct n t0 a).isSome)) <|
 if ((!((((a.kind==0)&&(a.first==0))&&(a.size==0))&&((zcW n a.row b.length).getD default)))&&(!(((ztZ 2 b.length≤c)&&(a.kind==1))&&((zct n t0 a).getD default)))) then
 some false
 else
 d (ztJ c 1)
 else
 some true
def zY.l1 (n:Nat) (t0:Model) (b:List Range) (e:Int→Option Bool) (a:Int) :=
 if (decide (a<b.length)) then
 (idx b a).bind λf=>
 (idx b a).bind λd=>
 (idx t0.constraints (ztZ 2 a)).bind λg=>
 (zdI n g.row ⟨[⟨a,(-1)⟩],zuH f.lo⟩).bind λc=>
 grd ((!c)||(idx t0.constraints (ztJ (ztZ 2 a) 1)).isSome) <|
 grd ((!c)||(zdI n (((idx t0.constraints (ztJ (ztZ 2 a) 1)).getD default).row) ⟨[⟨a,1⟩],d.hi⟩).isSome) <|
 if ((!c)||(!((zdI n (((idx t0.constraints (ztJ (ztZ 2 a) 1)).getD default).row) ⟨[⟨a,1⟩],d.hi⟩).getD default))) then
 some false
 else
 e (ztJ a 1)
 else
 ztO (zY.l2 n t0 b) n 0
def zY (n:Nat) (t0:Model) :=
 (zcm n t0).bind λa=>
 if ((t0.constraints.length<ztZ 2 a.length)||(512<(t0.constraints.length:Int))) then
 some false
 else
 ztO (zY.l1 n t0 a) n 0
def zc6.l1 (n:Nat) (t0:List Int) (t1:List Int) (b:Int→Option Bool) (a:Int):Option Bool:=
 if ((a<t0.length)&&(a<t1.length)) then
 (idx t0 a).bind λc=>
 (idx t1 a).bind λd=>
 if (c != d) then
 (idx t0 a).bind λe=>
 (idx t1 a).bind λf=>
 some (e<f)
 else
 b (ztJ a 1)
 else
 some (t0.length<(t1.length:Int))
def zc6 (n:Nat) (t0:List Int) (t1:List Int) :=
 ztO (zc6.l1 n t0 t1) n 0
def zej.l1 (n:Nat) (t0:List Int) (t1:List Int) (c:((List Int)×Int×Int)→Option (List Int)) (s:(List Int)×Int×Int) :=
 let a:=s.2.2
 if (decide (0≤a)) then
 (idx t1 a).bind λd=>
 (idx t0 d).bind λe=>
 (zvg s.2.1 e).bind λf=>
 (idx s.1 a).bind λj=>
 (sto s.1 a f).bind λb=>
 (idx t1 a).bind λg=>
 (idx t0 g).bind λh=>
 (zvm s.2.1 h).bind λi=>
 c (b,i,zt2 a 1)
 else
 some s.1
def zej (n:Nat) (t0:List Int) (t1:List Int) (t2:Int) :=
 (mkl 8 t1.length 0).bind λa=>
 ztO (zej.l1 n t0 t1) n (a,t2,zt2 t1.length 1)
def zcV.l1 (n:Nat) (t0:List Int) (t1:List Table) (t2:Bool) (t3:Int) (d:Int→Option (Int×(List Int)×Bool)) (a:Int) :=
 if (decide (a<t1.length)) then
 (idx t1 a).bind λb=>
 (idx t1 a).bind λe=>
 (zb4 n e.kind).bind λc=>
 grd (!(((c==t2)&&(0≤t3))&&(0≤zt2 t3 b.first))||(idx t1 a).isSome) <|
 grd (!(((c==t2)&&(0≤t3))&&(0≤zt2 t3 b.first))||(zai n t0 (((idx t1 a).getD default).ztK)).isSome) <|
 if ((((c==t2)&&(0≤t3))&&(0≤zt2 t3 b.first))&&(zt2 t3 b.first<((zai n t0 (((idx t1 a).getD default).ztK)).getD default))) then
 (idx t1 a).bind λf=>
 (zej n t0 f.ztK (zt2 t3 b.first)).bind λg=>
 some (a,g,true)
 else
 d (ztJ a 1)
 else
 some (0,[],false)
def zcV (n:Nat) (t0:List Int) (t1:List Table) (t2:Bool) (t3:Int) :=
 (zaB n t0 t1).bind λa=>
 if (!a) then
 some (0,[],false)
 else
 ztO (zcV.l1 n t0 t1 t2 t3) n 0
def zlR (n:Nat) (t0:Int) :=
 some ((t0==2)||(t0==3))
def zaa.l3 (n:Nat) (t0:Model) (t1:zur) (e:Int→Option Bool) (b:Int) :=
 if (decide (b<t1.ztU.length)) then
 (idx t1.ztU b).bind λa=>
 (zcV n t0.ztR t0.tables false a.cell).bind λd=>
 grd ((!d.2.2)||(!(0<b)||(idx t1.ztU (zt2 b 1)).isSome)) <|
 if ((!d.2.2)||((0<b)&&(a.cell≤((idx t1.ztU (zt2 b 1)).getD default).cell))) then
 some false
 else
 (idx t0.tables d.1).bind λc=>
 (zlR n c.kind).bind λf=>
 if (f&&(((a.kind != 0)&&(a.kind != 1))||(a.value != 0))) then
 some false
 else
 (zlR n c.kind).bind λg=>
 if ((!g)&&(((a.kind != 2)||(a.value<c.range.lo))||(c.range.hi<a.value))) then
 some false
 else
 e (ztJ b 1)
 else
 some (((t1.hold.length:Int)≤8)&&((t1.ztU.length:Int)≤32))
def zaa.l2 (n:Nat) (t0:Model) (t1:zur) (c:List Range) (b:Int→Option Bool) (a:Int) :=
 if (decide (a<t1.hold.length)) then
 (idx t1.hold a).bind λd=>
 (zcW n d c.length).bind λe=>
 if (!e) then
 some false
 else
 b (ztJ a 1)
 else
 ztO (zaa.l3 n t0 t1) n 0
def zaa.l1 (n:Nat) (t0:Model) (t1:zur) (c:List Range) (d:Int→Option Bool) (b:Int) :=
 if (decide (b<t1.delta.length)) then
 (idx t1.delta b).bind λa=>
 grd (((a.cell<0)||(c.length≤a.cell))||(!(0<b)||(idx t1.delta (zt2 b 1)).isSome)) <|
 grd (((((a.cell<0)||(c.length≤a.cell))||((0<b)&&(a.cell≤((idx t1.delta (zt2 b 1)).getD default).cell)))||(a.add==0))||(zaP n a.add 1000000000).isSome) <|
 if (((((a.cell<0)||(c.length≤a.cell))||((0<b)&&(a.cell≤((idx t1.delta (zt2 b 1)).getD default).cell)))||(a.add==0))||(!((zaP n a.add 1000000000).getD default))) then
 some false
 else
 d (ztJ b 1)
 else
 ztO (zaa.l2 n t0 t1 c) n 0
def zaa (n:Nat) (t0:Model) (t1:zur) :=
 (zcm n t0).bind λa=>
 ztO (zaa.l1 n t0 t1 a) n 0
def zE.l4 (n:Nat) (t0:Model) (e:Int) (g:Int→Option Bool) (a:Action) (h:Int→Option Bool) (b:Int) :=
 if (decide (b<a.arguments.length)) then
 (idx t0.ztN a.operation).bind λi=>
 (idx i.ztR b).bind λc=>
 grd (!(c<0)||(idx a.arguments b).isSome) <|
 grd (!(c<0)||(zaP n ((idx a.arguments b).getD default) 9999).isSome) <|
 grd (((c<0)&&(!((zaP n ((idx a.arguments b).getD default) 9999).getD default)))||(!(0≤c)||(idx a.arguments b).isSome)) <|
 grd (((c<0)&&(!((zaP n ((idx a.arguments b).getD default) 9999).getD default)))||(!(0≤c)||((((idx a.arguments b).getD default)<0)||(idx a.arguments b).isSome))) <|
 grd (((c<0)&&(!((zaP n ((idx a.arguments b).getD default) 9999).getD default)))||(!(0≤c)||((((idx a.arguments b).getD default)<0)||(idx t0.ztR c).isSome))) <|
 if (((c<0)&&(!((zaP n ((idx a.arguments b).getD default) 9999).getD default)))||((0≤c)&&((((idx a.arguments b).getD default)<0)||(((idx t0.ztR c).getD default)≤((idx a.arguments b).getD default))))) then
 some false
 else
 h (ztJ b 1)
 else
 jn (λv=>
 (zaa n t0 a.effect).bind λj=>
 if (!j) then
 some false
 else
 g (ztJ e 1)) λf=>
 if (decide (0<e)) then
 (idx t0.ztL (zt2 e 1)).bind λd=>
 grd ((a.operation<d.operation)||(!(d.operation==a.operation)||(zc6 n d.arguments a.arguments).isSome)) <|
 if ((a.operation<d.operation)||((d.operation==a.operation)&&(!((zc6 n d.arguments a.arguments).getD default)))) then
 some false
 else
 f ()
 else
 f ()
def zE.l3 (n:Nat) (t0:Model) (c:Int→Option Bool) (b:Int) :=
 if (decide (b<t0.ztL.length)) then
 (idx t0.ztL b).bind λa=>
 grd (((a.operation<0)||(t0.ztN.length≤a.operation))||(idx t0.ztN a.operation).isSome) <|
 if (((a.operation<0)||(t0.ztN.length≤a.operation))||(a.arguments.length != ((((idx t0.ztN a.operation).getD default).ztR).length:Int))) then
 some false
 else
 ztO (zE.l4 n t0 b c a) n 0
 else
 some true
def zE.l2 (n:Nat) (t0:Model) (g:Int) (d:((List (List UInt8))×Int)→Option Bool) (a:zul) (f:List (List UInt8)) (e:Int→Option Bool) (b:Int) :=
 if (decide (b<a.ztR.length)) then
 (idx a.ztR b).bind λc=>
 grd ((c<(-1))||(idx a.ztR b).isSome) <|
 if ((c<(-1))||(t0.ztR.length≤((idx a.ztR b).getD default))) then
 some false
 else
 e (ztJ b 1)
 else
 if (decide (3<(a.ztR.length:Int))) then
 some false
 else
 d (f,ztJ g 1)
def zE.l1 (n:Nat) (t0:Model) (b:((List (List UInt8))×Int)→Option Bool) (s:(List (List UInt8))×Int) :=
 if (decide (s.2<t0.ztN.length)) then
 (idx t0.ztN s.2).bind λa=>
 (app 16 s.1 [a.name]).bind λc=>
 ztO (zE.l2 n t0 s.2 b a c) n 0
 else
 grd ((8<(t0.ztN.length:Int))||(za0 n s.1).isSome) <|
 if (((8<(t0.ztN.length:Int))||(!((za0 n s.1).getD default)))||(256<(t0.ztL.length:Int))) then
 some false
 else
 ztO (zE.l3 n t0) n 0
def zE (n:Nat) (t0:Model) :=
 ztO (zE.l1 n t0) n ([],0)
def zaS.l1 (n:Nat) (self:Model→Int→Int→Int→Option Bool) (t0:Model) (t1:Int) (t2:Int) (t3:Int) (c:Int→Option Bool) (a:Int) :=
 if ((a<t0.zt3.length)&&(0<t3)) then
 (idx t0.zt3 a).bind λb=>
 grd (!(b.table==t1)||(idx t0.zt3 a).isSome) <|
 grd (!(b.table==t1)||(self t0 (((idx t0.zt3 a).getD default).to) t2 (zt2 t3 1)).isSome) <|
 if ((b.table==t1)&&((self t0 (((idx t0.zt3 a).getD default).to) t2 (zt2 t3 1)).getD default)) then
 some true
 else
 c (ztJ a 1)
 else
 some false
def zaS.body (n:Nat) (self:Model→Int→Int→Int→Option Bool) (t0:Model) (t1:Int) (t2:Int) (t3:Int) :=
 if (t1==t2) then
 some true
 else
 ztO (zaS.l1 n self t0 t1 t2 t3) n 0
def zaS:Nat→Model→Int→Int→Int→Option Bool
 | 0,_,_,_,_=>none
 | n+1,t0,t1,t2,t3=>zaS.body n (zaS n) t0 t1 t2 t3
def zaI.l2 (n:Nat) (t0:Model) (b:Int→Option Bool) (a:Int) :=
 if (decide (a<t0.zt3.length)) then
 (idx t0.zt3 a).bind λc=>
 (idx t0.zt3 a).bind λd=>
 (zaS n t0 c.to d.table t0.tables.length).bind λe=>
 if e then
 some false
 else
 b (ztJ a 1)
 else
 some true
def zaI.l1 (n:Nat) (t0:Model) (e:Int→Option Bool) (d:Int) :=
 if (decide (d<t0.zt3.length)) then
 (idx t0.zt3 d).bind λa=>
 if (((((a.table<0)||(t0.tables.length≤a.table))||(a.to<0))||(t0.tables.length≤a.to))||(a.table==a.to)) then
 some false
 else
 (idx t0.tables a.table).bind λb=>
 (idx t0.tables a.to).bind λc=>
 grd ((((((b.kind != 0)||(c.kind != 0))||(a.column<0))||(b.ztK.length≤a.column))||((c.ztK.length:Int) != 1))||(idx c.ztK 0).isSome) <|
 grd ((((((b.kind != 0)||(c.kind != 0))||(a.column<0))||(b.ztK.length≤a.column))||((c.ztK.length:Int) != 1))||(idx b.ztK a.column).isSome) <|
 if ((((((b.kind != 0)||(c.kind != 0))||(a.column<0))||(b.ztK.length≤a.column))||((c.ztK.length:Int) != 1))||(((idx c.ztK 0).getD default) != ((idx b.ztK a.column).getD default))) then
 some false
 else
 e (ztJ d 1)
 else
 ztO (zaI.l2 n t0) n 0
def zaI (n:Nat) (t0:Model) :=
 if (decide (12<(t0.zt3.length:Int))) then
 some false
 else
 ztO (zaI.l1 n t0) n 0
def zil (n:Nat) (t0:Model) :=
 (zaB n t0.ztR t0.tables).bind λb=>
 grd (((!b)||(24<(t0.ztX.length:Int)))||(za0 n t0.ztX).isSome) <|
 if (((!b)||(24<(t0.ztX.length:Int)))||(!((za0 n t0.ztX).getD default))) then
 some false
 else
 (zY n t0).bind λa=>
 grd (!a||(zE n t0).isSome) <|
 grd (!(a&&((zE n t0).getD default))||(zaI n t0).isSome) <|
 some ((a&&((zE n t0).getD default))&&((zaI n t0).getD default))
def zim (n:Nat) (t0:Model) (t1:Question) :=
 (zil n t0).bind λb=>
 if ((((((!b)||(t1.e<0))||(t1.f<0))||(t0.ztL.length≤t1.e))||(t0.ztL.length≤t1.f))||(t1.target.index<0)) then
 some false
 else
 if t1.target.hold then
 (idx t0.ztL t1.e).bind λa=>
 some (t1.target.index<a.effect.hold.length)
 else
 some ((t1.e≤t1.f)&&(t1.target.index<t0.constraints.length))
def zkr (n:Nat) (t0:Int) :=
 some ((t0==0)||(t0==1))
def zcX.l1 (n:Nat) (t0:Model) (t1:Table) (a:(Int×Int)→Option Int) (s:Int×Int) :=
 if (decide (s.2<t1.ztK.length)) then
 (idx t1.ztK s.2).bind λb=>
 (idx t0.ztR b).bind λc=>
 a (ztZ s.1 c,ztJ s.2 1)
 else
 some s.1
def zcX (n:Nat) (t0:Model) (t1:Table) :=
 ztO (zcX.l1 n t0 t1) n (1,0)
def zcj.l2 (n:Nat) (t0:Model) (a:Int) (b:((List Range))→Option (List Range)) (c:((List Range)×Int)→Option (List Range)) (s:(List Range)×Int) :=
 (idx t0.tables a).bind λd=>
 (zcX n t0 d).bind λe=>
 if (decide (s.2<e)) then
 (idx t0.tables a).bind λf=>
 (app 16 s.1 [f.range]).bind λg=>
 c (g,ztJ s.2 1)
 else
 b s.1
def zcj.l1 (n:Nat) (t0:Model) (c:((List Range)×Int)→Option (List Range)) (s:(List Range)×Int) :=
 if (decide (s.2<t0.tables.length)) then
 jn (λv=>
 let b:=v
 c (b,ztJ s.2 1)) λa=>
 (idx t0.tables s.2).bind λd=>
 (zkr n d.kind).bind λe=>
 if e then
 ztO (zcj.l2 n t0 s.2 a) n (s.1,0)
 else
 a s.1
 else
 some s.1
def zcj (n:Nat) (t0:Model) :=
 ztO (zcj.l1 n t0) n ([],0)
def za5.l1 (n:Nat) (t0:zur) (t1:Int) (b:(Int×Int)→Option Int) (s:Int×Int) :=
 if (decide (s.2<t0.delta.length)) then
 jn (λv=>
 let e:=v
 b (e,ztJ s.2 1)) λa=>
 (idx t0.delta s.2).bind λc=>
 if (c.cell==t1) then
 (idx t0.delta s.2).bind λd=>
 a (ztJ s.1 d.add)
 else
 a s.1
 else
 some s.1
def za5 (n:Nat) (t0:zur) (t1:Int) :=
 ztO (za5.l1 n t0 t1) n (0,0)
def zbw.l1 (n:Nat) (t0:zur) (t1:Row) (a:(Int×Int)→Option Int) (s:Int×Int) :=
 if (decide (s.2<t1.ztP.length)) then
 (idx t1.ztP s.2).bind λb=>
 (idx t1.ztP s.2).bind λc=>
 (za5 n t0 c.cell).bind λd=>
 a (ztJ s.1 (ztZ b.ztV d),ztJ s.2 1)
 else
 some s.1
def zbw (n:Nat) (t0:zur) (t1:Row) :=
 ztO (zbw.l1 n t0 t1) n (0,0)
def zfP.l1 (n:Nat) (t0:List Int) (t1:Int) (b:Int→Option Bool) (a:Int) :=
 if (decide (a<t0.length)) then
 (idx t0 a).bind λc=>
 if (c==t1) then
 some true
 else
 b (ztJ a 1)
 else
 some false
def zfP (n:Nat) (t0:List Int) (t1:Int) :=
 ztO (zfP.l1 n t0 t1) n 0
def zcD.l1 (n:Nat) (t0:Row) (a:((List Term)×Int)→Option Row) (s:(List Term)×Int) :=
 if (decide (s.2<t0.ztP.length)) then
 (idx t0.ztP s.2).bind λb=>
 (app 16 s.1 [b]).bind λc=>
 a (c,ztJ s.2 1)
 else
 some ⟨s.1,t0.bound⟩
def zcD (n:Nat) (t0:Row) :=
 ztO (zcD.l1 n t0) n ([],0)
def zbB.l1 (n:Nat) (t0:Constraint) (t1:zur) (a:((List Int)×Int)→Option zuc) (s:(List Int)×Int) :=
 if (decide (s.2<ztZ t0.size t0.size)) then
 (za5 n t1 (ztJ t0.first s.2)).bind λb=>
 (app 8 s.1 [zt2 1 b]).bind λc=>
 a (c,ztJ s.2 1)
 else
 some ⟨t0.first,t0.size,s.1⟩
def zbB (n:Nat) (t0:Constraint) (t1:zur) :=
 ztO (zbB.l1 n t0 t1) n ([],0)
def zbI.l1 (n:Nat) (t0:zur) (t1:Constraint) (b:Int→Option Bool) (a:Int) :=
 if (decide (a<ztZ t1.size t1.size)) then
 (za5 n t0 (ztJ t1.first a)).bind λc=>
 if (decide (0<c)) then
 some true
 else
 b (ztJ a 1)
 else
 some false
def zbI (n:Nat) (t0:zur) (t1:Constraint) :=
 ztO (zbI.l1 n t0 t1) n 0
def zbf.l1 (n:Nat) (t0:Row) (t1:Int) (a:((List Term)×Int)→Option Row) (s:(List Term)×Int) :=
 if (decide (s.2<t0.ztP.length)) then
 (idx t0.ztP s.2).bind λb=>
 (idx t0.ztP s.2).bind λc=>
 (app 16 s.1 [⟨b.cell,zuH c.ztV⟩]).bind λd=>
 a (d,ztJ s.2 1)
 else
 some ⟨s.1,t1⟩
def zbf (n:Nat) (t0:Row) (t1:Int) :=
 ztO (zbf.l1 n t0 t1) n ([],0)
def zin (n:Nat) (t0:Int) (t1:List Bool) :=
 some (((1≤t0)&&(t0≤6))&&(t1.length==(ztZ t0 t0)))
def zde.l1 (n:Nat) (t0:List Int) (t1:Int) (b:Int→Option Bool) (a:Int) :=
 if (decide (a<t0.length)) then
 (idx t0 a).bind λc=>
 if (c==t1) then
 some true
 else
 b (ztJ a 1)
 else
 some false
def zde (n:Nat) (t0:List Int) (t1:Int) :=
 ztO (zde.l1 n t0 t1) n 0
def zdt.l1 (n:Nat) (t0:List Int) (t1:Int) (a:((List Int)×Int)→Option (List Int)) (s:(List Int)×Int) :=
 if (decide (s.2<t0.length)) then
 (idx t0 s.2).bind λb=>
 (app 8 s.1 [b]).bind λc=>
 a (c,ztJ s.2 1)
 else
 (app 8 s.1 [t1]).bind λd=>
 some d
def zdt (n:Nat) (t0:List Int) (t1:Int) :=
 ztO (zdt.l1 n t0 t1) n ([],0)
def zJ.l4 (n:Nat) (t0:Int) (t1:List Bool) (b:List (List Int)) (a:Int) (g:((List (List Int))×(List (List Int))×Int)→Option (List (List Int))) (l:Int) (e:List (List Int)) (h:((List (List Int))×Int)→Option (List (List Int))) (s:(List (List Int))×Int) :=
 if (decide (s.2<t0)) then
 jn (λv=>
 let f:=v
 h (f,ztJ s.2 1)) λd=>
 (idx t1 (ztJ (ztZ l t0) s.2)).bind λc=>
 grd (!c||(idx b a).isSome) <|
 grd (!c||(zde n ((idx b a).getD default) s.2).isSome) <|
 if (c&&(!((zde n ((idx b a).getD default) s.2).getD default))) then
 (idx b a).bind λi=>
 (zdt n i s.2).bind λj=>
 (app 24 s.1 [j]).bind λk=>
 d k
 else
 d s.1
 else
 g (e,s.1,ztJ a 1)
def zJ.l3 (n:Nat) (t0:Int) (t1:List Bool) (b:List (List Int)) (p:Int) (g:((List (List Int))×(List (List Int))×Int)→Option (List (List Int))) (h:((List (List Int))×(List (List Int))×Int)→Option (List (List Int))) (s:(List (List Int))×(List (List Int))×Int) :=
 let a:=s.2.2
 if (decide (a<b.length)) then
 (idx b a).bind λi=>
 (idx i 0).bind λd=>
 (idx b a).bind λj=>
 (idx b a).bind λk=>
 (idx j (zt2 k.length 1)).bind λe=>
 jn (λv=>
 let f:=v
 ztO (zJ.l4 n t0 t1 b a h e f) n (s.2.1,ztJ d 1)) λc=>
 (idx t1 (ztJ (ztZ e t0) d)).bind λl=>
 if l then
 (idx b a).bind λm=>
 (app 24 s.1 [m]).bind λo=>
 c o
 else
 c s.1
 else
 g (s.1,s.2.1,ztJ p 1)
def zJ.l2 (n:Nat) (t0:Int) (t1:List Bool) (a:((List (List Int))×(List (List Int))×Int)→Option (List (List Int))) (s:(List (List Int))×(List (List Int))×Int) :=
 if (decide (s.2.2<t0)) then
 ztO (zJ.l3 n t0 t1 s.2.1 s.2.2 a) n (s.1,[],0)
 else
 some s.1
def zJ.l1 (n:Nat) (t0:Int) (t1:List Bool) (a:((List (List Int))×Int)→Option (List (List Int))) (s:(List (List Int))×Int) :=
 if (decide (s.2<t0)) then
 (app 24 s.1 [[s.2]]).bind λb=>
 a (b,ztJ s.2 1)
 else
 ztO (zJ.l2 n t0 t1) n ([],s.1,0)
def zJ (n:Nat) (t0:Int) (t1:List Bool) :=
 (zin n t0 t1).bind λa=>
 if (!a) then
 some []
 else
 ztO (zJ.l1 n t0 t1) n ([],0)
def zaf.l3 (n:Nat) (t1:Constraint) (t2:zur) (t3:zur) (e:List (List Int)) (g:List (List Row)) (c:Int) (h:((List (List Row)))→Option (List (List Row))) (i:((List Row)×Bool×Bool×Int)→Option (List (List Row))) (s:(List Row)×Bool×Bool×Int) :=
 let f:=s.2.2.1
 let d:=s.2.2.2
 (idx e c).bind λo=>
 if (decide (d<o.length)) then
 (idx e c).bind λp=>
 (idx e c).bind λq=>
 (zvg (ztJ d 1) q.length).bind λr=>
 (idx p r).bind λa=>
 (idx e c).bind λt=>
 (idx t d).bind λb=>
 grd (s.2.1||(za5 n t2 (ztJ (ztJ t1.first (ztZ b t1.size)) a)).isSome) <|
 grd (f||(za5 n t3 (ztJ (ztJ t1.first (ztZ b t1.size)) a)).isSome) <|
 (za5 n t2 (ztJ (ztJ t1.first (ztZ b t1.size)) a)).bind λj=>
 (za5 n t3 (ztJ (ztJ t1.first (ztZ b t1.size)) a)).bind λk=>
 (app 32 s.1 [⟨[⟨ztJ (ztJ t1.first (ztZ b t1.size)) a,(-1)⟩],ztJ (ztJ (-1) j) k⟩]).bind λl=>
 i (l,s.2.1||(0<((za5 n t2 (ztJ (ztJ t1.first (ztZ b t1.size)) a)).getD default)),f||(0<((za5 n t3 (ztJ (ztJ t1.first (ztZ b t1.size)) a)).getD default)),ztJ d 1)
 else
 if (s.2.1&&f) then
 (app 24 g [s.1]).bind λm=>
 h m
 else
 h g
def zaf.l2 (n:Nat) (t1:Constraint) (t2:zur) (t3:zur) (a:List (List Int)) (d:((List (List Row))×Int)→Option (List (List Row))) (s:(List (List Row))×Int) :=
 if (decide (s.2<a.length)) then
 jn (λv=>
 let b:=v
 d (b,ztJ s.2 1)) λc=>
 ztO (zaf.l3 n t1 t2 t3 a s.1 s.2 c) n ([],false,false,0)
 else
 some s.1
def zaf.l1 (n:Nat) (t0:List Range) (t1:Constraint) (t2:zur) (t3:zur) (a:((List Bool)×Int)→Option (List (List Row))) (s:(List Bool)×Int) :=
 if (decide (s.2<ztZ t1.size t1.size)) then
 (idx t0 (ztJ t1.first s.2)).bind λb=>
 (za5 n t2 (ztJ t1.first s.2)).bind λc=>
 (za5 n t3 (ztJ t1.first s.2)).bind λd=>
 (app 1 s.1 [(1≤ztJ (ztJ b.hi c) d)]).bind λe=>
 a (e,ztJ s.2 1)
 else
 (zJ n t1.size s.1).bind λf=>
 ztO (zaf.l2 n t1 t2 t3 f) n ([],0)
def zaf (n:Nat) (t0:List Range) (t1:Constraint) (t2:zur) (t3:zur) :=
 ztO (zaf.l1 n t0 t1 t2 t3) n ([],0)
def zb5 (n:Nat) (t0:Int) (t1:Int) (t2:Int) :=
 some ((t1≤t0)&&(t0≤t2))
def zek.l1 (n:Nat) (t0:Row) (t1:Int) (b:(Int×Int)→Option Bool) (s:Int×Int) :=
 if (decide (s.2<t0.ztP.length)) then
 (idx t0.ztP s.2).bind λa=>
 grd ((((a.cell≤s.1)||(t1≤a.cell))||(a.ztV==0))||(zb5 n a.ztV (-1000) 1000).isSome) <|
 if ((((a.cell≤s.1)||(t1≤a.cell))||(a.ztV==0))||(!((zb5 n a.ztV (-1000) 1000).getD default))) then
 some false
 else
 b (a.cell,ztJ s.2 1)
 else
 (zb5 n t0.bound (-1000000000) 1000000000).bind λc=>
 some c
def zek (n:Nat) (t0:Row) (t1:Int) :=
 ztO (zek.l1 n t0 t1) n ((-1),0)
def zaJ.l2 (n:Nat) (t0:List Range) (t1:List Row) (b:Int→Option Bool) (a:Int) :=
 if (decide (a<t1.length)) then
 (idx t1 a).bind λc=>
 (zek n c t0.length).bind λd=>
 if (!d) then
 some false
 else
 b (ztJ a 1)
 else
 some true
def zaJ.l1 (n:Nat) (t0:List Range) (t1:List Row) (c:Int→Option Bool) (a:Int) :=
 if (decide (a<t0.length)) then
 (idx t0 a).bind λd=>
 (zb5 n d.lo (-1000000) 1000000).bind λb=>
 grd ((!b)||(idx t0 a).isSome) <|
 grd ((!b)||(zb5 n (((idx t0 a).getD default).hi) (-1000000) 1000000).isSome) <|
 if ((!b)||(!((zb5 n (((idx t0 a).getD default).hi) (-1000000) 1000000).getD default))) then
 some false
 else
 c (ztJ a 1)
 else
 ztO (zaJ.l2 n t0 t1) n 0
def zaJ (n:Nat) (t0:List Range) (t1:List Row) :=
 if (decide (128<(t0.length:Int))) then
 some false
 else
 ztO (zaJ.l1 n t0 t1) n 0
def zcu.l1 (n:Nat) (t0:List Range) (b:Int→Option Bool) (a:Int) :=
 if (decide (a<t0.length)) then
 (idx t0 a).bind λc=>
 (idx t0 a).bind λd=>
 if (decide (d.hi<c.lo)) then
 some true
 else
 b (ztJ a 1)
 else
 some false
def zcu (n:Nat) (t0:List Range) :=
 ztO (zcu.l1 n t0) n 0
def zad.l3 (n:Nat) (f:Int) (d:Int→Option Bool) (b:zuc) (e:Int→Option Bool) (a:Int) :=
 if (decide (a<b.least.length)) then
 (idx b.least a).bind λc=>
 grd ((c<(-4000000))||(idx b.least a).isSome) <|
 if ((c<(-4000000))||(4000000<((idx b.least a).getD default))) then
 some false
 else
 e (ztJ a 1)
 else
 d (ztJ f 1)
def zad.l2 (n:Nat) (t0:System) (c:Int→Option Bool) (b:Int) :=
 if (decide (b<t0.ztQ.length)) then
 (idx t0.ztQ b).bind λa=>
 if (((((a.size<1)||(6<a.size))||(a.first<0))||(zt2 t0.box.length (ztZ a.size a.size)<a.first))||(a.least.length != (ztZ a.size a.size))) then
 some false
 else
 ztO (zad.l3 n b c a) n 0
 else
 some true
def zad.l1 (n:Nat) (t0:System) (c:Int→Option Bool) (a:Int) :=
 if (decide (a<t0.cases.length)) then
 (idx t0.cases a).bind λb=>
 grd ((64<(b.length:Int))||(idx t0.cases a).isSome) <|
 grd ((64<(b.length:Int))||(zaJ n t0.box ((idx t0.cases a).getD default)).isSome) <|
 if ((64<(b.length:Int))||(!((zaJ n t0.box ((idx t0.cases a).getD default)).getD default))) then
 some false
 else
 c (ztJ a 1)
 else
 ztO (zad.l2 n t0) n 0
def zad (n:Nat) (t0:System) :=
 grd ((((1024<(t0.rows.length:Int))||(64<(t0.ztQ.length:Int)))||(1024<(t0.cases.length:Int)))||(zaJ n t0.box t0.rows).isSome) <|
 grd (((((1024<(t0.rows.length:Int))||(64<(t0.ztQ.length:Int)))||(1024<(t0.cases.length:Int)))||(!((zaJ n t0.box t0.rows).getD default)))||(zcu n t0.box).isSome) <|
 if (((((1024<(t0.rows.length:Int))||(64<(t0.ztQ.length:Int)))||(1024<(t0.cases.length:Int)))||(!((zaJ n t0.box t0.rows).getD default)))||((zcu n t0.box).getD default)) then
 some false
 else
 ztO (zad.l1 n t0) n 0
def zt.l5 (n:Nat) (t0:Model) (t1:Question) (c:Action) (d:Action) (l:List Range) (g:List Row) (u:((List zuc)×Int)→Option (System×Int)) (s:(List zuc)×Int) :=
 if (decide (s.2<t0.constraints.length)) then
 jn (λv=>
 let t:=v
 u (t,ztJ s.2 1)) λi=>
 (idx t0.constraints s.2).bind λa=>
 if (a.kind != 1) then
 i s.1
 else
 (zbB n a ⟨[],[],[]⟩).bind λw=>
 (app 40 s.1 [w]).bind λr=>
 jn (λv=>
 let o:=v
 (zbI n d.effect a).bind λA=>
 if (A&&(t1.e != t1.f)) then
 (zbB n a d.effect).bind λB=>
 (app 40 o [B]).bind λC=>
 i C
 else
 i o) λq=>
 (zbI n c.effect a).bind λx=>
 if x then
 (zbB n a c.effect).bind λy=>
 (app 40 r [y]).bind λz=>
 q z
 else
 q r
 else
 jn (λv=>
 let m:=v.1
 let p:=v.2
 (zad n ⟨l,m,s.1,p⟩).bind λL=>
 if (!L) then
 some (⟨[],[],[],[]⟩,8)
 else
 some (⟨l,m,s.1,p⟩,0)) λh=>
 if t1.target.hold then
 (idx c.effect.hold t1.target.index).bind λj=>
 (zbw n d.effect j).bind λD=>
 (zbf n j (zt2 (ztJ (zuH j.bound) D) 1)).bind λE=>
 (app 32 g [E]).bind λF=>
 h (F,[])
 else
 (idx t0.constraints t1.target.index).bind λb=>
 if (b.kind==0) then
 (zbw n c.effect b.row).bind λG=>
 (zbw n d.effect b.row).bind λH=>
 (zbf n b.row (zt2 (ztJ (ztJ (zuH b.row.bound) G) H) 1)).bind λI=>
 (app 32 g [I]).bind λJ=>
 h (J,[])
 else
 (zaf n l b c.effect d.effect).bind λk=>
 if ((k.length:Int)==0) then
 (app 32 g [⟨[],(-1)⟩]).bind λK=>
 h (K,k)
 else
 h (g,k)
def zt.l4 (n:Nat) (t0:Model) (t1:Question) (h:Action) (a:Action) (i:List Range) (b:((List Row)×Int)→Option (System×Int)) (s:(List Row)×Int) :=
 if ((s.2<a.effect.hold.length)&&(t1.e != t1.f)) then
 (idx a.effect.hold s.2).bind λc=>
 (zcD n c).bind λd=>
 (app 32 s.1 [d]).bind λg=>
 b (g,ztJ s.2 1)
 else
 ztO (zt.l5 n t0 t1 h a i s.1) n ([],0)
def zt.l3 (n:Nat) (t0:Model) (t1:Question) (a:Action) (f:Action) (g:List Range) (b:((List Row)×Int)→Option (System×Int)) (s:(List Row)×Int) :=
 if (decide (s.2<a.effect.hold.length)) then
 (idx a.effect.hold s.2).bind λc=>
 (zcD n c).bind λd=>
 (app 32 s.1 [d]).bind λe=>
 b (e,ztJ s.2 1)
 else
 ztO (zt.l4 n t0 t1 a f g) n (s.1,0)
def zt.l2 (n:Nat) (t0:Model) (t1:Question) (t2:List Int) (g:Action) (h:Action) (o:List Range) (j:((List Row)×Int)→Option (System×Int)) (s:(List Row)×Int) :=
 if (decide (s.2<t0.constraints.length)) then
 jn (λv=>
 let i:=v
 j (i,ztJ s.2 1)) λd=>
 (idx t0.constraints s.2).bind λa=>
 if (a.kind != 0) then
 d s.1
 else
 (zbw n g.effect a.row).bind λc=>
 (zbw n h.effect a.row).bind λb=>
 jn (λv=>
 let m:=v
 (zcD n a.row).bind λf=>
 (app 32 s.1 [⟨f.ztP,zt2 f.bound m⟩]).bind λl=>
 d l) λe=>
 (zfP n t2 s.2).bind λk=>
 if (k&&(t1.target.hold||(t1.target.index != s.2))) then
 e (gmax (gmax (gmax 0 c) b) (ztJ c b))
 else
 e (gmax (gmax 0 c) b)
 else
 ztO (zt.l3 n t0 t1 g h o) n (s.1,0)
def zt.l1 (n:Nat) (t0:Model) (t1:Question) (t2:List Int) (c:Int→Option (System×Int)) (a:Int) :=
 if (decide (a<t2.length)) then
 (idx t2 a).bind λb=>
 grd ((b<0)||(idx t2 a).isSome) <|
 grd (((b<0)||(t0.constraints.length≤((idx t2 a).getD default)))||(idx t2 a).isSome) <|
 grd (((b<0)||(t0.constraints.length≤((idx t2 a).getD default)))||(idx t0.constraints ((idx t2 a).getD default)).isSome) <|
 if (((b<0)||(t0.constraints.length≤((idx t2 a).getD default)))||((((idx t0.constraints ((idx t2 a).getD default)).getD default).kind) != 0)) then
 some (⟨[],[],[],[]⟩,2)
 else
 c (ztJ a 1)
 else
 (idx t0.ztL t1.e).bind λd=>
 (idx t0.ztL t1.f).bind λg=>
 (zcj n t0).bind λh=>
 ztO (zt.l2 n t0 t1 t2 d g h) n ([],0)
def zt (n:Nat) (t0:Model) (t1:Question) (t2:List Int) :=
 (zim n t0 t1).bind λa=>
 if (!a) then
 some (⟨[],[],[],[]⟩,1)
 else
 ztO (zt.l1 n t0 t1 t2) n 0
def zbZ.l1 (n:Nat) (t0:List Int) (t1:List Int) (b:Int→Option Bool) (a:Int) :=
 if (decide (a<t0.length)) then
 (idx t0 a).bind λc=>
 (idx t1 a).bind λd=>
 if (c != d) then
 some false
 else
 b (ztJ a 1)
 else
 some true
def zbZ (n:Nat) (t0:List Int) (t1:List Int) :=
 if (t0.length != (t1.length:Int)) then
 some false
 else
 ztO (zbZ.l1 n t0 t1) n 0
def zbS.l1 (n:Nat) (t0:List Step) (t1:List Step) (b:Int→Option Bool) (a:Int) :=
 if (decide (a<t0.length)) then
 (idx t0 a).bind λc=>
 (idx t1 a).bind λd=>
 if (!(c=d)) then
 some false
 else
 b (ztJ a 1)
 else
 some true
def zbS (n:Nat) (t0:List Step) (t1:List Step) :=
 if (t0.length != (t1.length:Int)) then
 some false
 else
 ztO (zbS.l1 n t0 t1) n 0
def zaY.l1 (n:Nat) (self:Tree→Tree→Option Bool) (t0:Tree) (t1:Tree) (b:Int→Option Bool) (a:Int) :=
 if (decide (a<t0.kids.length)) then
 (idx t0.kids a).bind λc=>
 (idx t1.kids a).bind λd=>
 (self c d).bind λe=>
 if (!e) then
 some false
 else
 b (ztJ a 1)
 else
 some true
def zaY.body (n:Nat) (self:Tree→Tree→Option Bool) (t0:Tree) (t1:Tree) :=
 grd ((((t0.kind != t1.kind)||(t0.cell != t1.cell))||(t0.at_ != t1.at_))||(zbS n t0.steps t1.steps).isSome) <|
 if (((((t0.kind != t1.kind)||(t0.cell != t1.cell))||(t0.at_ != t1.at_))||(!((zbS n t0.steps t1.steps).getD default)))||(t0.kids.length != (t1.kids.length:Int))) then
 some false
 else
 ztO (zaY.l1 n self t0 t1) n 0
def zaY:Nat→Tree→Tree→Option Bool
 | 0,_,_=>none
 | n+1,t0,t1=>zaY.body n (zaY n) t0 t1
def zcE (n:Nat) (t0:zt6) (t1:zt6) :=
 grd (!(t0.kind==t1.kind)||(zbZ n t0.state t1.state).isSome) <|
 grd (!((t0.kind==t1.kind)&&((zbZ n t0.state t1.state).getD default))||(zaY n t0.tree t1.tree).isSome) <|
 some ((((t0.kind==t1.kind)&&((zbZ n t0.state t1.state).getD default))&&((zaY n t0.tree t1.tree).getD default))&&(t0.steps==t1.steps))
def zdX (n:Nat) (t0:Model) (t1:Question) (t2:Int) (t3:Int) (t4:List Int) :=
 (zie n ).bind λd=>
 if (!d) then
 some false
 else
 (zbR n t0).bind λe=>
 if ((((((!e)||(20<(t4.length:Int)))||(t2<0))||(t3<0))||(65536<t2))||(65536<t3)) then
 some true
 else
 (zbP n t0 t1 (gmin t2 t3) t4).bind λa=>
 (zbP n t0 t1 (gmax t2 t3) t4).bind λb=>
 if ((a.2 != b.2)||(a.2 != 0)) then
 some (a.2==b.2)
 else
 if (a.1.kind==2) then
 some ((a.1.steps==(gmin t2 t3))||(a.1.steps==0))
 else
 (zbP n t0 t1 a.1.steps t4).bind λc=>
 grd (!(c.2==0)||(zcE n a.1 b.1).isSome) <|
 grd (!((c.2==0)&&((zcE n a.1 b.1).getD default))||(zcE n a.1 c.1).isSome) <|
 some (((c.2==0)&&((zcE n a.1 b.1).getD default))&&((zcE n a.1 c.1).getD default))
end
theorem zkD (n r) (h:ziK n=some r):Pure pg 23 [] (Model.enc r):=by
 refine Pure.ot Tryz.func23 I Tryz.ntmps23 I λA w=>.sr<|.zua I I I I (.agg Zc30 (ds':=[eA [],eB [],eC [],eD [],eE [],eF [],eG []]) (.o (.o (.o (.o (.o (.o .o1))))))) I<|.nil<|.sr<|.p I (.B (Range.enc ⟨0,3⟩) Zc83 I)<|.p I (.B (Table.enc ⟨[99],1,[],(⟨0,3⟩:Range),0⟩) Zc107 I)<|.p I (.ztY [_] I I E23 I (λ_=>I) I (enc:=Table.enc))<|.p I (.ztY [_] I I E24 I (λ_=>I) I (enc:=D.str))<|.p I (.B (Term.enc ⟨0,(-1)⟩) zxZ I)<|.p I (.ztY [_] I I E53 I (λ_=>I) I (enc:=Term.enc))<|.p I (.B (Row.enc ⟨[(⟨0,(-1)⟩:Term)],0⟩) Zc55 I)<|.p I (.B (Constraint.enc ⟨0,0,(⟨[(⟨0,(-1)⟩:Term)],0⟩:Row),0,0⟩) Zc57 I)<|.p I (.B (Term.enc ⟨0,1⟩) zxZ I)<|.p I (.ztY [_] I I E53 I (λ_=>I) I (enc:=Term.enc))<|.p I (.B (Row.enc ⟨[(⟨0,1⟩:Term)],3⟩) Zc55 I)<|.p I (.B (Constraint.enc ⟨0,0,(⟨[(⟨0,1⟩:Term)],3⟩:Row),0,0⟩) Zc57 I)<|.p I (.ztY [_,_] I I E25 I (λ_=>I) I (enc:=Constraint.enc))<|.p I (.B (zul.enc ⟨[116,119,111],false,[]⟩) Zc111 I)<|.p I (.ztY [_] I I E26 I (λ_=>I) I (enc:=zul.enc))<|.p I (.B (Change.enc ⟨0,2⟩) Zc113 I)<|.p I (.ztY [_] I I E73 I (λ_=>I) I (enc:=Change.enc))<|.p I (.B (zur.enc ⟨[(⟨0,2⟩:Change)],[],[]⟩) Zc77 I)<|.p I (.B (Action.enc ⟨0,[],(⟨[(⟨0,2⟩:Change)],[],[]⟩:zur)⟩) Zc79 I)<|.p I (.ztY [_] I I E27 I (λ_=>I) I (enc:=Action.enc))<|.p I (.B (Model.enc ⟨[],[(⟨[99],1,[],(⟨0,3⟩:Range),0⟩:Table)],[[99]],[(⟨0,0,(⟨[(⟨0,(-1)⟩:Term)],0⟩:Row),0,0⟩:Constraint),(⟨0,0,(⟨[(⟨0,1⟩:Term)],3⟩:Row),0,0⟩:Constraint)],[(⟨[116,119,111],false,[]⟩:zul)],[(⟨0,[],(⟨[(⟨0,2⟩:Change)],[],[]⟩:zur)⟩:Action)],[]⟩) Zc30 I)<|.so I<|.nil<|.K [0] I<|.ret ?_
 cases h
 exact zet I I Y30 (.v (.v (.v (.v (.v (.v .v1))))))
theorem zcH (n t0) (t1:Int→Option Bool) (F1:D) (hF1:∀ (q0:Int) (y:Bool),t1 q0=some y→Dyn pg F1 [.int q0] (.bool y)) (r) (h:zO n t0 t1=some r):Pure pg 189 [eA t0,F1] (.int r):=by
  refine Pure.ot Tryz.func189 I Tryz.ntmps189 I λA w=>.sA 1 I<|.seq<|.S 1 I<|.e I<|.A 1 I<|.nil<|.block<|.L [0,1,7] h (λv=>[(8,.d (.int v))]) (λv=>[]) I λ_ x7 h=>.sA 1 I<|.seq<|.ztM I h (λh=>.skip<|.seq<|.block<|.sA 2 I<|.S 3 I<|.X h I λx9 h=>.A 1 I<|bK h λx10 q10 h=>.p I (.dyn I I I (hF1 _ _ q10))<|.nil<|.ztM I h (λh=>.sA 2 I<|.ret (rO h I)) λh=>.skip<|.rA 2 I (ndE h I)) λh=>.exit<|.sA 1 I<|.ret (rO h I)
theorem zab (n t0) (t1:Int→Option Bool) (F1:D) (hF1:∀ (q0:Int) (y:Bool),t1 q0=some y→Dyn pg F1 [.int q0] (.bool y)) (r) (h:zj n t0 t1=some r):Pure pg 149 [eA t0,F1] (.bool r):=by
 refine Pure.ot Tryz.func149 I Tryz.ntmps149 I λA w=>.sA 1 I<|.S 2 I<|.Z h I (zcH _ _ _ _ hF1) λx1 h=>.A 2 I<|.nil<|.ret (rO h I)
theorem zgB:Kd3 235 zeb .int .int .int .bool:=λn t0 t1 t2 r h=>.ot Tryz.func235 I Tryz.ntmps235 I λA w=>.sA 1 I<|.seq<|.plain 8 I<|.A 4 I<|.jA 3 (decide (t0≤t2)) I (λb1=>.A 3 I<|.nil I) <| .nil<|.A 1 I<|.nil<|.ret (rO h I)
theorem zkB:Kd1 271 zf2 .int .bool:=λn t0 r h=>.ot Tryz.func271 I Tryz.ntmps271 I λA w=>.sA 1 I<|.S 1 I<|.Z h I (zgB _ _ _ _) λx1 h=>.A 2 I<|.nil<|.ret (rO h I)
theorem zmg:Kd1 233 zf1 eA .bool:=λn t0 r h=>.ot Tryz.func233 I Tryz.ntmps233 I λA w=>.sA 1 I<|.S 1 I<|.Z h I (zab _ _ _ _ (λq0 y hq=>⟨_,_,I,K271,zkB _ q0 _ hq⟩)) λx1 h=>.A 2 I<|.nil<|.ret (rO h I)
theorem zfb:Kd2 292 z9 eH .bool .int:=λn t0 t1 r h=>.ot Tryz.func292 I Tryz.ntmps292 I λA w=>.sA 1 I<|.seq<|.S 1 I<|.e I<|.A 1 I<|.nil<|.block<|.L [0,1,7] h (λv=>[(8,.d (.int v))]) (λv=>[]) I λ_ x5 h=>.sA 1 I<|.seq<|.ztM I h (λh=>.skip<|.seq<|.block<|.sA 2 I<|.S 3 I<|.X h I λx7 h=>.A 1 I<|.p I (.beq I U4 I I)<|.nil<|.ztM I h (λh=>.sA 2 I<|.ret (rO h I)) λh=>.skip<|.rA 2 I (ndE h I)) λh=>.exit<|.sA 1 I<|.ret (rO h I)
theorem zeu:Kd2 270 zbX eH .bool .bool:=λn t0 t1 r h=>.ot Tryz.func270 I Tryz.ntmps270 I λA w=>.sA 1 I<|.S 2 I<|.Z h I (zfb _ _ _) λx1 h=>.A 2 I<|.nil<|.ret (rO h I)
theorem zke:Kd1 232 zgA eH .bool:=λn t0 r h=>.ot Tryz.func232 I Tryz.ntmps232 I λA w=>.sA 1 I<|.S 1 I<|.Z h I (zeu _ _ _) λx1 h=>.A 2 I<|.nil<|.ret (rO h I)
theorem zhd (n t0) (t1:Int→Option Bool) (F1:D) (hF1:∀ (q0:Int) (y:Bool),t1 q0=some y→Dyn pg F1 [.val (.int .i32 q0)] (.bool y)) (r) (h:zfp n t0 t1=some r):Pure pg 312 [.str t0,F1] (eC r):=by
 refine Pure.ot Tryz.func312 I Tryz.ntmps312 I λA w=>.sr<|.p I (.nilS 1 (α:=List UInt8) D.str I)<|.nil<|.seq<|.region ?_
 cases h
theorem zjl (n t0 r) (h:zhk n t0=some r):Pure pg 313 [.val (.int .i32 t0)] (.bool r):=by
  refine Pure.ot Tryz.func313 I Tryz.ntmps313 I λA w=>.sA 1 I<|.seq<|.S 1 I<|.p I (.conv I U21 U296 I)<|.A 1 I<|.nil<|.ztM I h (λh=>.seq<|.sA 1 I<|.block<|.J [] h (λv=>[(7,.d (.bool v))]) (λv=>[]) I (λk_2 h=>.sA 2 I<|.ztM I h (λh=>.skip (ndE h I)) λh=>.sA 2 I<|.ztM I h (λh=>.skip (ndE h I)) λh=>.sA 2 I<|.ztM I h (λh=>.skip (ndE h I)) λh=>.sA 2 I<|.ztM I h (λh=>.skip (ndE h I)) λh=>.sA 2 I<|.ztM I h (λh=>.skip (ndE h I)) λh=>.sA 2 I<|.K [6,7] I<|.ztM I h (λh=>.skip (ndE h I)) λh=>.sA 2 I<|.ztM I h (λh=>.skip (ndE h I)) λh=>.rA 2 I (ndE h I)) (λx1 h=>.ztM I h (λh=>.sA 1 I<|.K [2] I<|.ret (rO h I)) λh=>.skip<|.K [] I<|.sA 1 I<|.ret (rO h I))) λh=>.skip<|.seq<|.region <| by cases h
theorem zj0:Kd1 308 za8 .str eC:=λn t0 r h=>by
  refine .ot Tryz.func308 I Tryz.ntmps308 I λA w=>.sr<|.p I (.nilS 1 (α:=List UInt8) D.str I)<|.nil<|.sA 1 I<|.sA 1 I<|.sA 1 I<|.seq<|.sA 1 I<|.block<|.L [0] h (λv=>[(3,.d (.int v.1)),(4,.d (.int v.2.1)),(5,.d (.val (.int .u8 v.2.2.1))),(6,.d (.int v.2.2.2))]) (λv=>[]) I λ_ ⟨x13,x14,x15,x16⟩ h=>.seq<|.S 2 I<|.p I (.zum I U9 I)<|.A 1 I<|.nil<|.K [0,3,4,5,6,16] I<|.ztM I h (λh=>.skip<|.seq<|.block<|.S 2 I<|bK h λx18 q18 h=>.p I (.sidx I I I U9 q18)<|.A 1 I<|.nil<|.S 2 I<|.p I (.bor I I I)<|.A 1 I<|.nil<|.S 1 I<|bK h λx19 q19 h=>.p I (.idxG (l:=tab0) I I I gm0 U336 S5 tl0 q19)<|.A 1 I<|.p I (.conv I U5 U3 I)<|.A 1 I<|.nil<|.S 3 I<|.p I (.bnot I I)<|.p I (.band I I I)<|.A 2 I<|.nil<|.K [0,3,5,6,8] I<|.rA 2 I<|.rA 3 I (ndE h I)) λh=>.exit<|.seq<|.sA 2 I<|.ztM I h (λh=>.S 1 I<|.Z h I (zhd _ _ _ _ (λq0 y hq=>⟨_,_,I,K313,zjl _ q0 _ hq⟩)) λx20 h=>.A 1 I<|.nil<|.ret <| by cases h;exact zbU I (.d _)) λh=>.skip<|.S 1 I<|bK h λx21 q21 h=>.zvy (enc:=D.str) (z:=([]:List UInt8)) I I I I E24 I I I (.val Zv9) q21<|.A 1 I<|.nil<|.sA 1 I<|.sA 1 I<|.sA 1 I<|.seq<|.block<|.L [0,9,10] h (λv=>[(12,.d (.int v))]) (λv=>[]) I λ_ x30 h=>.seq<|.seq<|.plain 12 I<|.A 2 I<|.p I (.zum I U9 I)<|.A 2 I<|gK h λc33 h=>gK h λc34 h=>.jA 6 (((idx tab0 ((sidx t0 x30).getD default)).getD default) != 0) I (λb32=>.A 2 I<|.q I (.sidx I I I U9 (zt0 (impT c33 b32)))<|.q I (.idxG (l:=tab0) I I I gm0 U336 S5 tl0 (zt0 (impT c34 b32)))<|.A 2 I<|.nil I) <| .nil<|.nil<|.K [0,9,10,12,53] I<|.ztM I h (λh=>.skip<|.block<|.rA 3 I (ndE h I)) λh=>.exit<|.sA 2 I<|.seq<|.block<|.L [0] h (λv=>[(9,.vec 0 (List.length v.1)),(10,.d (.int v.2.1)),(11,.d (.int v.2.2.1)),(12,.d (.int v.2.2.2))]) (λv=>[(0,.vec 9 1 (List.map D.str v.1))]) I λ_ ⟨b0_79,x80,x81,x82⟩ h=>.seq<|.S 2 I<|.p I (.zum I U9 I)<|.A 1 I<|.nil<|.K [0,9,10,11,12,60] I<|.ztM I h (λh=>?_) λh=>?_
  · refine .skip<|.block<|.seq<|.S 2 I<|bK h λx84 q84 h=>.p I (.sidx I I I U9 q84)<|bK h λx85 q85 h=>.p I (.idxG (l:=tab0) I I I gm0 U336 S5 tl0 q85)<|.A 2 I<|.nil<|.ztM I h (λh=>.sA 3 I<|.exit (ndE h I)) λh=>.skip<|.S 5 I<|bK h λx86 q86 h=>.p I (.zwY I I I I U9 q86)<|bK h λx87 q87 h=>.p I (.idxV I I I I I U24 S9 q87)<|bK h λb0_88 hb0_88 h=>.zuJ (enc:=D.str) I I I I I I I I I C9 hb0_88<|.zuu 9 I (zag hb0_88)<|.zuu 69 I (zag hb0_88)<|.nil<|.sA 3 I<|.K [0,9,10,12] I<|.sA 3 I<|.seq<|.block<|.L [0,9,10] h (λv=>[(12,.d (.int v))]) (λv=>[]) I λ_ x97 h=>.seq<|.seq<|.plain 12 I<|.A 2 I<|.p I (.zum I U9 I)<|.A 2 I<|gK h λc100 h=>gK h λc101 h=>.jA 6 (((idx tab0 ((sidx t0 x97).getD default)).getD default) != 0) I (λb99=>.A 2 I<|.q I (.sidx I I I U9 (zt0 (impT c100 b99)))<|.q I (.idxG (l:=tab0) I I I gm0 U336 S5 tl0 (zt0 (impT c101 b99)))<|.A 2 I<|.nil I) <| .nil<|.nil<|.K [0,9,10,12,91] I<|.ztM I h (λh=>.skip<|.block<|.rA 3 I (ndE h I)) λh=>.exit<|.rA 2 I (ndE h I)
  · refine .exit<|.J [] h (λv=>[(9,.vec 0 (List.length v))]) (λv=>[(0,.vec 9 1 (List.map D.str v))]) I (λk_103 h=>.S 2 I<|.p I (.zum I U9 I)<|.A 1 I<|.nil<|.ztM I h (λh=>.region<|.A 4 I<|bK h λx104 q104 h=>.p I (.zwx I I I U9 q104)<|bK h λx105 q105 h=>.p I (.idxV I I I I I U24 S9 q105)<|bK h λb0_106 hb0_106 h=>.zuJ (enc:=D.str) I I I I I I I I I C9 hb0_106<|.zuu 9 I (zag hb0_106)<|.zuu 99 I (zag hb0_106)<|.nil (ndE h I)) λh=>.skip (ndE h I)) (λb0_102 h=>.sA 2 I<|.K [2] I<|.ret (by cases h;exact zbU I (.vec I (by simp))))
theorem zjL (n r) (h:zbH n=some r):Pure pg 298 [] (GMap.dat (λl:List UInt8=>Value.string ⟨l.toArray⟩) D.bool r):=by
  refine Pure.ot Tryz.func298 I Tryz.ntmps298 I λA w=>.sA 1 I<|.sr<|.makeMap (λl:List UInt8=>Value.string ⟨l.toArray⟩) D.bool I I I I<|.A 1 I<|.nil<|.seq<|.sr<|.Z h I (zj0 _ _) λx1 h=>.e I<|.A 1 I<|.nil<|.block<|.L [1,5,6] h (λv=>[(7,.d (.int v.2))]) (λv=>[(0,GMap.blk (λl:List UInt8=>Value.string ⟨l.toArray⟩) D.bool v.1)]) I λ_ ⟨m0_8,x9⟩ h=>.sA 1 I<|.K [1,5,6,7,8] I<|.seq<|.ztM I h (λh=>.skip<|.seq<|.block<|.sr<|.X h I λx11 h=>.A 2 I<|.nil<|.region<|.A 2 I<|.zxH (k:=x11) (v:=true) I I I U278 KT9 I I I I<|.nil<|.rA 2 I (ndE h I)) λh=>.exit<|.sA 2 I<|.ret <| by cases h;exact zbU I (.mp I (GMap.wfm _))
theorem zhO (n t0 r) (h:zb8 n t0=some r):Pure pg 306 [.val (.int .u8 t0)] (.bool r):=by
  refine Pure.ot Tryz.func306 I Tryz.ntmps306 I λA w=>.sA 1 I<|.seq<|.plain 14 I<|.A 3 I<|.jO 2 (t0==9) I (λb1=>.A 2 I<|.nil I) <| .A 1 I<|.jO 2 (t0==10) I (λb2=>.A 2 I<|.nil I) <| .A 1 I<|.jO 2 (t0==13) I (λb3=>.A 2 I<|.nil I) <| .nil<|.A 1 I<|.nil<|.K [2] I<|.ret (rO h I)
theorem zgR (n t0) (t1:Int→Option Bool) (F1:D) (hF1:∀ (q0:Int) (y:Bool),t1 q0=some y→Dyn pg F1 [.val (.int .u8 q0)] (.bool y)) (r) (h:zcP n t0 t1=some r):Pure pg 302 [.str t0,F1] (.int r):=by
  refine Pure.ot Tryz.func302 I Tryz.ntmps302 I λA w=>.sA 1 I<|.sA 1 I<|.seq<|.block<|.L [0,1] h (λv=>[(5,.d (.int v))]) (λv=>[]) I λ_ x9 h=>.seq<|.seq<|.plain 11 I<|.A 2 I<|.p I (.zum I U9 I)<|.A 2 I<|gK h λc12 h=>gK h λc13 h=>.jA 5 (((t1 ((sidx t0 x9).getD default)).getD default)) I (λb11=>.A 3 I<|.q I (.sidx I I I U9 (zt0 (impT c12 b11)))<|.q I (.dyn I I I (hF1 _ _ (zt0 (impT c13 b11))))<|.nil I) <| .nil<|.nil<|.K [0,1,5,16] I<|.ztM I h (λh=>.skip<|.block<|.rA 3 I (ndE h I)) λh=>.exit<|.sA 2 I<|.ret (rO h I)
theorem zly (n t0 r) (h:zgS n t0=some r):Pure pg 309 [.val (.int .u8 t0)] (.bool r):=by
 refine Pure.ot Tryz.func309 I Tryz.ntmps309 I λA w=>.sA 1 I<|.sA 3 I<|.ret (rO h I)
theorem znu:Kd1 300 zc4 .str .int:=λn t0 r h=>.ot Tryz.func300 I Tryz.ntmps300 I λA w=>.sA 1 I<|.sA 1 I<|.seq<|.block<|.L [0] h (λv=>[(3,.d (.int v))]) (λv=>[]) I λ_ x13 h=>.seq<|.S 2 I<|.p I (.zum I U9 I)<|.A 1 I<|.nil<|.K [0,3,7] I<|.ztM I h (λh=>.skip<|.block<|.block<|.S 2 I<|bK h λx15 q15 h=>.p I (.sidx I I I U9 q15)<|.Z h I (zhO _ _) λx16 h=>.A 1 I<|.nil<|.ztM I h (λh=>.rA 3 I (ndE h I)) λh=>.S 2 I<|bK h λx17 q17 h=>.p I (.sidx I I I U9 q17)<|.A 2 I<|.nil<|.ztM I h (λh=>.region<|.A 3 I<|bK h λx18 q18 h=>.p I (.zwx I I I U9 q18)<|.Z h I (zgR _ _ _ _ (λq0 y hq=>⟨_,_,I,K309,zly _ q0 _ hq⟩)) λx19 h=>.A 2 I<|.nil (ndE h I)) λh=>.sA 2 I<|.ret (rO h I)) λh=>.exit<|.sA 2 I<|.ret (rO h I)
theorem zeR (n t0 r) (h:zcO n t0=some r):Pure pg 301 [.val (.int .u8 t0)] (.bool r):=by
  refine Pure.ot Tryz.func301 I Tryz.ntmps301 I λA w=>.sA 1 I<|.seq<|.plain 6 I<|.A 3 I<|.jA 2 (decide (t0≤122)) I (λb1=>.A 2 I<|.nil I) <| .nil<|.A 1 I<|.nil<|.ret (rO h I)
theorem zd4 (n t0 r) (h:zbo n t0=some r):Pure pg 304 [.val (.int .u8 t0)] (.bool r):=by
  refine Pure.ot Tryz.func304 I Tryz.ntmps304 I λA w=>.sA 1 I<|.seq<|.plain 6 I<|.A 3 I<|.jA 2 (decide (t0≤57)) I (λb1=>.A 2 I<|.nil I) <| .nil<|.A 1 I<|.nil<|.ret (rO h I)
theorem znt (n t0 r) (h:zjM n t0=some r):Pure pg 303 [.val (.int .u8 t0)] (.bool r):=by
  refine Pure.ot Tryz.func303 I Tryz.ntmps303 I λA w=>.sA 1 I<|.seq<|.plain 10 I<|.A 1 I<|.Z h I (zeR _ _) λx1 h=>.A 1 I<|gK h λc3 h=>.jO 2 (((zbo n t0).getD default)) I (λb2=>.A 1 I<|.q I (.call I (zt1 I) I (zd4 _ _ _ (zt0 (impF c3 b2))))<|.nil I) <| .A 1 I<|.jO 2 (t0==95) I (λb4=>.A 2 I<|.nil I) <| .nil<|.A 1 I<|.nil<|.ret (rO h I)
theorem zdD:Kd2 314 zbt .str .str .bool:=λn t0 t1 r h=>.ot Tryz.func314 I Tryz.ntmps314 I λA w=>.sA 1 I<|.seq<|.plain 13 I<|.A 1 I<|.p I (.zum I U9 I)<|.A 1 I<|.p I (.zum I U9 I)<|.A 2 I<|gK h λc2 h=>.jA 6 (decide (((cut t0 0 (t1.length:Int)).getD default)=t1)) I (λb1=>.A 2 I<|.q I (.zum I U9 I)<|.q I (.zx5 I I I U9 (zt0 (impT c2 b1)))<|.A 1 I<|.q I (.zwj I I I)<|.nil I) <| .nil<|.A 1 I<|.nil<|.ret (rO h I)
theorem zhF:Kd2 310 zc7 .str .str .bool:=λn t0 t1 r h=>.ot Tryz.func310 I Tryz.ntmps310 I λA w=>.sA 1 I<|.S 2 I<|.Z h I (zdD _ _ _) λx1 h=>.A 1 I<|.nil<|.ret (rO h I)
theorem zdE (n t0 t1 r) (h:zbu n t0 t1=some r):Pure pg 315 [.str t0,.val (.int .u8 t1)] (.int r):=by
 refine Pure.ot Tryz.func315 I Tryz.ntmps315 I λA w=>.sA 1 I<|.S 2 I<|.p I (.idxByte I IB317 I I)<|.A 1 I<|.nil<|.ret (rO h I)
theorem zhG (n t0 t1 r) (h:zck n t0 t1=some r):Pure pg 311 [.str t0,.val (.int .u8 t1)] (.int r):=by
 refine Pure.ot Tryz.func311 I Tryz.ntmps311 I λA w=>.sA 1 I<|.S 2 I<|.Z h I (zdE _ _ _) λx1 h=>.A 1 I<|.nil<|.ret (rO h I)
theorem zeS:Kd1 305 zbl .str .int:=λn t0 r h=>.ot Tryz.func305 I Tryz.ntmps305 I λA w=>.sA 1 I<|.seq<|.sr<|.p I (.ztY [_,_,_,_,_] I I E24 I (λ_=>I) I (enc:=D.str))<|.e I<|.A 1 I<|.nil<|.block<|.L [0,5,6] h (λv=>[(7,.d (.int v))]) (λv=>[]) I λ_ x7 h=>.sA 1 I<|.seq<|.ztM I h (λh=>.skip<|.seq<|.block<|.sr<|.X h I λx9 h=>.A 2 I<|.nil<|.S 2 I<|.Z h I (zhF _ _ _) λx10 h=>.nil<|.ztM I h (λh=>.sA 1 I<|.ret (rO h I)) λh=>.skip<|.rA 2 I (ndE h I)) λh=>.exit<|.seq<|.seq<|.plain 8 I<|.A 1 I<|.p I (.str_neq I I I)<|.A 1 I<|gK h λc12 h=>gK h λc13 h=>.jA 4 (decide (0≤((zck n [60,62,61,43,45,42,40,41,123,125,44,58,59] ((sidx t0 0).getD default)).getD default))) I (λb11=>.A 1 I<|.q I (.sidx I I I U9 (zt0 (impT c12 b11)))<|.q I (.call I (zt1 I) I (zhG _ _ _ _ (zt0 (impT c13 b11))))<|.A 1 I<|.nil I) <| .nil<|.nil<|.ztM I h (λh=>.sA 1 I<|.ret (rO h I)) λh=>.skip<|.sA 1 I<|.ret (rO h I)
theorem zlv:Kd1 307 zdq .str .bool:=λn t0 r h=>.ot Tryz.func307 I Tryz.ntmps307 I λA w=>.sA 1 I<|.seq<|.plain 13 I<|.A 1 I<|bK h λx1 q1 h=>.p I (.sidx I I I U9 q1)<|.Z h I (zeR _ _) λx2 h=>.A 1 I<|gK h λc4 h=>gK h λc5 h=>.jO 3 (((zbo n ((sidx t0 0).getD default)).getD default)) I (λb3=>.A 1 I<|.q I (.sidx I I I U9 (zt0 (impF c4 b3)))<|.q I (.call I (zt1 I) I (zd4 _ _ _ (zt0 (impF c5 b3))))<|.nil I) <| .A 1 I<|gK h λc7 h=>.jO 3 (decide (0<((zbl n t0).getD default))) I (λb6=>.A 1 I<|.q I (.call I (zt1 I) I (zeS _ _ _ (zt0 (impF c7 b6))))<|.A 1 I<|.nil I) <| .nil<|.A 1 I<|.nil<|.ret (rO h I)
theorem ziR (n:Nat) (t1:List UInt8) (t2:GMap (List UInt8) Bool) (F0:D) (C:Ctx) (hC:C.n=93) (hG:C.gn=0) (Q0:Exit→St→Prop) (r:Token) (h:zaz n t1 t2=some r)
  (hY:∀ (Q:Exit→St→Prop) (T:List (Nat×V)) (H:List Blk) (j:Nat),look 0 T=some (.d F0)→look 5 T=some (.loc j 0)→H[j]? = some (.box 271 (V.zuB (.d (Token.enc r))))→Tri pg C tokX Q ⟨T,H⟩) :
  Tri pg C (ziw pg 299) Q0 ⟨params 0 [F0,.ref (.str t1),.ref (GMap.dat (λl:List UInt8=>Value.string ⟨l.toArray⟩) D.bool t2)],[]⟩:=by
 obtain ⟨A0,own0,w0,n0,esc,gh,gn⟩:=C
 simp only at hC hG
 subst hC
 subst hG
 rw [zcL Tryz.func299 I]
 refine .sA 1 I<|.block<|.L [0,1,2,4] h (λv=>[]) (λv=>[]) I λ_ v h=>.block<|.S 4 I<|bK h λx45 q45 h=>.p I (.zwx I I I U9 q45)<|.Z h I (znu _ _) λx46 h=>.A 1 I<|.p I (.B (Token.enc ⟨0,0,ztJ 0 x46,0⟩) Zc271 I)<|.zua I I I I (.agg Zc271 (ds':=[.int 0,.int 0,.int 0,.int 0]) (.e (.e (.e .e1)))) I<|.so I<|.nil<|.K [0,1,2,5] I<|.S 3 I<|bK h λx47 q47 h=>.p I (.zwx I I I U9 q47)<|.A 1 I<|.nil<|.sA 1 I<|.J [0,1,2,5] h (λv=>[(7,.d (.int v.2))]) (λv=>[(0,.box 271 [.d (.int v.1),.d (.int 0),.d (.int (ztJ 0 x46)),.d (.int 0)])]) I (λk_50 h=>?_) (λv h=>?_)
 ·refine .block<|.S 1 I<|.p I (.zwj I I I)<|.A 1 I<|.nil<|.ztM I h (λh=>?_) λh=>?_
  ·refine .skip (ndE h I)
  ·refine .S 1 I<|bK h λx51 q51 h=>.p I (.sidx I I I U9 q51)<|.Z h I (zeR _ _) λx52 h=>.A 1 I<|.nil<|.ztM I h (λh=>?_) λh=>?_
   ·refine .S 1 I<|.Z h I (zgR _ _ _ _ (λq0 y hq=>⟨_,_,I,K303,znt _ q0 _ hq⟩)) λx53 h=>.A 2 I<|.so I<|.nil<|.K [0,1,2,5,6,7] I<|.seq<|.dr 5<|.A 3 I<|bK h λx54 q54 h=>.p I (.zx5 I I I U9 q54)<|.p I (.zyi (ke:=(λl:List UInt8=>Value.string ⟨l.toArray⟩)) (ve:=D.bool) I U278 KT9 I I (z:=(false:Bool)) (.val Zv4))<|.nil<|.nil<|.ztM I h (λh=>?_) λh=>?_
    ·refine .region<|.A 1 I<|.so I<|.nil (ndE h I)
    ·refine .skip (ndE h I)
   ·refine .S 1 I<|bK h λx55 q55 h=>.p I (.sidx I I I U9 q55)<|.Z h I (zd4 _ _) λx56 h=>.A 1 I<|.nil<|.K [0,1,2,5,6,63] I<|.ztM I h (λh=>?_) λh=>?_
    ·refine .region<|.A 1 I<|.Z h I (zgR _ _ _ _ (λq0 y hq=>⟨_,_,I,K304,zd4 _ q0 _ hq⟩)) λx57 h=>.A 2 I<|.so I<|.nil (ndE h I)
    ·refine .S 1 I<|.Z h I (zeS _ _) λx58 h=>.A 2 I<|.nil<|.ztM I h (λh=>?_) λh=>?_
     ·refine .region<|.A 1 I<|.Z h I (zeS _ _) λx59 h=>.A 2 I<|.so I<|.nil (ndE h I)
     ·refine .S 1 I<|.so I<|.nil<|.sA 1 I<|.block<|.L [0,1,2,5,6] h (λv=>[(7,.d (.int v))]) (λv=>[]) I λ_ x78 h=>.seq<|.seq<|.plain 24 I<|.A 2 I<|.p I (.zum I U9 I)<|.A 2 I<|gK h λc81 h=>gK h λc82 h=>.jA 5 (!((zb8 n ((sidx x47 x78).getD default)).getD default)) I (λb80=>?_) ?_
      ·refine .A 2 I<|.q I (.sidx I I I U9 (zt0 (impT c81 b80)))<|.q I (.call I (zt1 I) I (zhO _ _ _ (zt0 (impT c82 b80))))<|.A 1 I<|.nil I
      refine .A 1 I<|gK h λc84 h=>.jA 4 (((sidx x47 x78).getD default) != 35) I (λb83=>?_) ?_
      ·refine .A 2 I<|.q I (.sidx I I I U9 (zt0 (impT c84 b83)))<|.A 1 I<|.nil I
      refine .A 1 I<|gK h λc86 h=>gK h λc87 h=>.jA 5 (!((zdq n ((cut x47 x78 (x47.length:Int)).getD default)).getD default)) I (λb85=>?_) ?_
      ·refine .A 2 I<|.q I (.zwx I I I U9 (zt0 (impT c86 b85)))<|.q I (.call I (zt1 I) I (zlv _ _ _ (zt0 (impT c87 b85))))<|.A 1 I<|.nil I
      refine .nil<|.nil<|.K [0,1,2,5,6,7,44] I<|.ztM I h (λh=>?_) λh=>?_
      ·refine .skip<|.seq<|.block<|.skip<|.rA 3 I (ndE h I)
      ·refine .exit (ndE h I)
 ·obtain ⟨c0_0_48,x49⟩:=v
  refine .S 5 I<|.so I<|.nil<|.K [0,1,2,5] I<|.sA 3 I ?_
  cases h
  refine hY _ _ _ 0 ?_ ?_ ?_
  all_goals rfl
section
open Go Go.RowKit Go.Proofs
attribute [local go_sem] Oper.semAt_some
def kAsg : Code := (Code.region 4 #[{ dst := some 3, op := Op.alloc 271, type := 0, pos := "lexer.go:137", after := #[], guard := none }, { dst := none, op := Op.store 271 (Operand.tmp 3) (Operand.tmp 13), type := 0, pos := "lexer.go:137", after := #[{ on := 0, ground := Ground.data }, { on := 0, ground := Ground.phase }], guard := none }] false)
def zyb : Code := (Code.block 1 (((Code.region 5 #[{ dst := some 14, op := Op.fieldAddr 271 (Operand.tmp 3) 2, type := 0, pos := "lexer.go:138", after := #[], guard := none }, { dst := some 15, op := Op.load 3 (Operand.tmp 14), type := 3, pos := "lexer.go:138", after := #[{ on := 0, ground := Ground.data }], guard := none }, { dst := some 16, op := Op.binOp BinOp.neq 3 (Operand.tmp 15) (Operand.const (Value.int IntKind.i64 0)) 3, type := 4, pos := "lexer.go:138", after := #[{ on := 1, ground := Ground.data }], guard := none }, { dst := some 17, op := Op.move (Operand.tmp 16), type := 4, pos := "lexer.go:138", after := #[{ on := 2, ground := Ground.data }], guard := none }, { dst := some 18, op := Op.fieldAddr 271 (Operand.tmp 3) 3, type := 0, pos := "lexer.go:138", after := #[{ on := 3, ground := Ground.guard }], guard := some (3, false) }, { dst := some 19, op := Op.load 3 (Operand.tmp 18), type := 3, pos := "lexer.go:138", after := #[{ on := 4, ground := Ground.data }, { on := 3, ground := Ground.guard }], guard := some (3, false) }, { dst := some 20, op := Op.load 9 (Operand.tmp 1), type := 9, pos := "lexer.go:138", after := #[{ on := 3, ground := Ground.guard }], guard := some (3, false) }, { dst := some 21, op := Op.call { callee := Callee.builtin Builtin.len, args := #[Operand.tmp 20], argTypes := #[9] }, type := 3, pos := "lexer.go:138", after := #[{ on := 6, ground := Ground.data }, { on := 3, ground := Ground.guard }], guard := some (3, false) }, { dst := some 22, op := Op.binOp BinOp.neq 3 (Operand.tmp 19) (Operand.tmp 21) 3, type := 4, pos := "lexer.go:138", after := #[{ on := 5, ground := Ground.data }, { on := 7, ground := Ground.data }, { on := 3, ground := Ground.guard }], guard := some (3, false) }, { dst := some 23, op := Op.pick (Operand.tmp 17) (Operand.const (Value.bool true)) (Operand.tmp 22), type := 4, pos := "lexer.go:138", after := #[{ on := 3, ground := Ground.data }, { on := 8, ground := Ground.data }], guard := none }] false).seq (Code.cond (Operand.tmp 23) (Code.exit 0) Code.skip)).seq ((Code.region 6 #[{ dst := some 24, op := Op.fieldAddr 271 (Operand.tmp 3) 0, type := 0, pos := "lexer.go:141", after := #[], guard := none }, { dst := some 25, op := Op.load 3 (Operand.tmp 24), type := 3, pos := "lexer.go:141", after := #[{ on := 0, ground := Ground.data }], guard := none }, { dst := none, op := Op.store 3 (Operand.tmp 2) (Operand.tmp 25), type := 0, pos := "lexer.go:141", after := #[{ on := 1, ground := Ground.data }, { on := 0, ground := Ground.phase }, { on := 1, ground := Ground.phase }], guard := none }] false).seq Code.ret)))
def kRec (fn:FuncId) (tm:Array Value) (Dd:Nat) (st:LoopState) (pend:Option Code):Loop:=
  { state:=st,pending:=pend,fn,tmps:=tm,params:=#[13],assign:=kAsg,body:=zyb,defers:=Dd }
theorem ztw (fn) (l Dd B) (p1) (s) (k f a e) (x0 x3 x4 x5 x6 x7 x8 x9 x10 x11 x12 x13 x14 x15 x16 x17 x18 x19 x20 x21 x22 x23 x24 x25) (W) (hBl:B≠l) (hp:p1.block≠l)
    (hl:W.heap[l]? = some (.loop (kRec fn #[x0,.pointer (some p1),.pointer (some ⟨B,0,none⟩),x3,x4,x5,x6,x7,x8,x9,x10,x11,x12,x13,x14,x15,x16,x17,x18,x19,x20,x21,x22,x23,x24,x25] Dd .ready none))) (h1:W.cell? p1=some (.string s)) (hB:W.heap[B]? = some (.cells #[.int .i64 0] 3 (0,0))) :
    RoundIn Fence.wide 0 pg l fn #[x0,.pointer (some p1),.pointer (some ⟨B,0,none⟩),x3,x4,x5,x6,x7,x8,x9,x10,x11,x12,(.agg #[.int .i64 k,.int .i64 f,.int .i64 a,.int .i64 e]),x14,x15,x16,x17,x18,x19,x20,x21,x22,x23,x24,x25] kAsg zyb W (λen W'=>en = .returned (.bool false)∧Fr (λb=>b=l∨b=B) W W' ∧
      ((((a != 0)||(e != (s.size:Int)))=true∧W'.heap[l]? = some (.loop (kRec fn #[x0,.pointer (some p1),.pointer (some ⟨B,0,none⟩),x3,x4,x5,x6,x7,x8,x9,x10,x11,x12,x13,x14,x15,x16,x17,x18,x19,x20,x21,x22,x23,x24,x25] Dd .done (some (.exit 0))))∧W'.heap[B]? = some (.cells #[.int .i64 0] 3 (0,0))) ∨
       (((a != 0)||(e != (s.size:Int)))=false∧W'.heap[l]? = some (.loop (kRec fn #[x0,.pointer (some p1),.pointer (some ⟨B,0,none⟩),x3,x4,x5,x6,x7,x8,x9,x10,x11,x12,x13,x14,x15,x16,x17,x18,x19,x20,x21,x22,x23,x24,x25] Dd .done (some .ret)))∧W'.heap[B]? = some (.cells #[.int .i64 k] 3 (0,0))))):=by
  refine roundIn_of_wpIn trivial ?_
  unfold kAsg
  gi_wp2_with (grind)
  have hlt:l<W.heap.size:=(yn.1 hl).1
  have hBlt:B<W.heap.size:=(yn.1 hB).1
  have hplt:p1.block<W.heap.size:=by
    refine Nat.lt_of_not_le λh=>?_
    have e0:W.heap[p1.block]? = none:=Array.getElem?_eq_none_iff.2 h
    grind [World.cell?]
  obtain ⟨W1,hW1⟩:∃ W1,W.alloc (.cells #[.int .i64 k,.int .i64 f,.int .i64 a,.int .i64 e] 271)=W1:=⟨_,rfl⟩
  have hold:∀ q,q<W.heap.size→W1.heap[q]? = W.heap[q]?:=λq hq=>by grind [Below.heap_alloc]
  have hnew:W1.heap[W.heap.size]? = some (.cells #[.int .i64 k,.int .i64 f,.int .i64 a,.int .i64 e] 271):=by grind [World.alloc_heap_new]
  have hsz1:W1.heap.size=W.heap.size+1:=by rw [← hW1];simp
  have hfr1:Fr ze W W1:=by rw [← hW1];exact ⟨rfl,rfl,rfl,by simp,λb hb _=>Below.heap_alloc W _ b hb,λ_=>yk _⟩
  simp only [hW1]
  clear hW1
  have hL1:=(hold l hlt).trans hl
  have hbr:=run_beginRound (P:=pg) hL1 rfl
  obtain ⟨W2,hW2⟩:∃ W2,W1.putObj l (.loop { kRec fn #[x0,.pointer (some p1),.pointer (some ⟨B,0,none⟩),x3,x4,x5,x6,x7,x8,x9,x10,x11,x12,x13,x14,x15,x16,x17,x18,x19,x20,x21,x22,x23,x24,x25] Dd .ready none with state:=.busy })=W2:=⟨_,rfl⟩
  have hfr2:Fr (λb=>b=l) W1 W2:=by rw [← hW2];exact ⟨rfl,rfl,rfl,by simp,λb _ hne=>World.putObj_heap_other hne,λ_=>yk _⟩
  rw [hW2] at hbr
  have hput:∀ q,q≠l→W2.heap[q]? = W1.heap[q]?:=λq hq=>by rw [← hW2];exact World.putObj_heap_other hq
  have hL2:=(World.putObj_heap_same (w:=W1) (o:=.loop { kRec fn #[x0,.pointer (some p1),.pointer (some ⟨B,0,none⟩),x3,x4,x5,x6,x7,x8,x9,x10,x11,x12,x13,x14,x15,x16,x17,x18,x19,x20,x21,x22,x23,x24,x25] Dd .ready none with state:=.busy }) (by omega:l<W1.heap.size))
  rw [hW2] at hL2
  refine ⟨W2,hbr,?_⟩
  clear hW2 hbr
  have hT2:=(hput W.heap.size (by omega)).trans hnew
  have hB2:=((hput B hBl).trans (hold B hBlt)).trans hB
  have hp2:W2.cell? p1=some (.string s):=((World.cell?_of_block (hput p1.block hp)).trans (World.cell?_of_block (hold p1.block hplt))).trans h1
  have c0:W2.cell? ⟨W.heap.size,0,none⟩=some (.int .i64 k):=by rw [zV hT2];rfl
  have c2:W2.cell? ⟨W.heap.size,2,none⟩=some (.int .i64 a):=by rw [zV hT2];rfl
  have c3:W2.cell? ⟨W.heap.size,3,none⟩=some (.int .i64 e):=by rw [zV hT2];rfl
  have cB:W2.cell? ⟨B,0,none⟩=some (.int .i64 0):=by rw [zV hB2];rfl
  have fB:W2.frozen? ⟨B,0,none⟩=false:=by simp [World.frozen?,hB2]
  unfold zyb
  gi_wp2_with (rw [Oper.semAt_eq _ _ _ (λc h=>by cases h)];go_simp;try go_bits)
  all_goals first
    | (refine ⟨_,_,run_endRound (some (.exit 0)) hL2,rfl,?_,?_,(World.putObj_heap_other hBl).trans hB2⟩
       · refine ((hfr1.mono λ_ _ x=>x.elim).trans (hfr2.mono λ_ _ x=>.inl x)).trans ⟨rfl,rfl,rfl,by simp,λb _ hne=>World.putObj_heap_other (λh=>hne (.inl h)),λ_=>yk _⟩
       · exact World.putObj_heap_same (yn.1 hL2).1)
    | (have hL3:(W2.setCell ⟨B,0,none⟩ (.int .i64 k)).heap[l]? = some (.loop { kRec fn #[x0,.pointer (some p1),.pointer (some ⟨B,0,none⟩),x3,x4,x5,x6,x7,x8,x9,x10,x11,x12,x13,x14,x15,x16,x17,x18,x19,x20,x21,x22,x23,x24,x25] Dd .ready none with state:=.busy }):=(Below.heap_setCell W2 ⟨B,0,none⟩ _ l (Ne.symm hBl)).trans hL2
       refine ⟨_,_,run_endRound (some .ret) hL3,rfl,?_,?_,(World.putObj_heap_other hBl).trans ?_⟩
       · have f3:Fr (λb=>b=l∨b=B) W2 (W2.setCell ⟨B,0,none⟩ (.int .i64 k)):=⟨rfl,rfl,rfl,by simp,λb _ hne=>Below.heap_setCell W2 ⟨B,0,none⟩ _ b (λh=>hne (.inr h)),λ_=>yk _⟩
         exact (((hfr1.mono λ_ _ x=>x.elim).trans (hfr2.mono λ_ _ x=>.inl x)).trans f3).trans ⟨rfl,rfl,rfl,by simp,λb _ hne=>World.putObj_heap_other (λh=>hne (.inl h)),λ_=>yk _⟩
       · exact World.putObj_heap_same (yn.1 hL3).1
       · simp [World.setCell,Array.getElem?_modify,hB2])
def zrj : Code := .seq (Code.region 7 #[{ dst := none, op := Op.store 3 (Operand.tmp 2) (Operand.const (Value.int IntKind.i64 0)), type := 0, pos := "lexer.go:143", after := #[], guard := none }] false) .ret
theorem kTail (B) (x0 x1 x3 x4 x5 x6 x7 x8 x9 x10 x11 x12 x13 x14 x15 x16 x17 x18 x19 x20 x21 x22 x23 x24 x25) (df) (W) (Qf) (hB:W.heap[B]? = some (.cells #[.int .i64 0] 3 (0,0)))
  (h:Qf .ret { tmps:=#[x0,x1,.pointer (some ⟨B,0,none⟩),x3,x4,x5,x6,x7,x8,x9,x10,x11,x12,x13,x14,x15,x16,x17,x18,x19,x20,x21,x22,x23,x24,x25],defers:=df } (W.setCell ⟨B,0,none⟩ (.int .i64 0))):zrj.wp pg Qf { tmps:=#[x0,x1,.pointer (some ⟨B,0,none⟩),x3,x4,x5,x6,x7,x8,x9,x10,x11,x12,x13,x14,x15,x16,x17,x18,x19,x20,x21,x22,x23,x24,x25],defers:=df } W:=by
 have b:W.cell? ⟨B,0,none⟩=some (.int .i64 0):=by rw [zV hB];rfl
 have a:W.frozen? ⟨B,0,none⟩=false:=by grind [World.frozen?]
 refine (wpIn_wide (n:=0)).1 ?_
 unfold zrj
 gi_wp2
 exact h
theorem ztx (B) (tm) (hs:tm.size=26) (ht2:tm[2]? = some (.pointer (some ⟨B,0,none⟩))) (df) (W) (Qf) (hB:W.heap[B]? = some (.cells #[.int .i64 0] 3 (0,0)))
  (h:Qf .ret { tmps:=tm,defers:=df } (W.setCell ⟨B,0,none⟩ (.int .i64 0))):zrj.wp pg Qf { tmps:=tm,defers:=df } W:=by
 rcases tm with ⟨_ | ⟨z,_ | ⟨w,_ | ⟨x,_ | ⟨y,_ | ⟨A,_ | ⟨C,_ | ⟨E,_ | ⟨t,_ | ⟨u,_ | ⟨v,_ | ⟨c,_ | ⟨d,_ | ⟨e,_ | ⟨b,_ | ⟨f,_ | ⟨g,_ | ⟨i,_ | ⟨j,_ | ⟨a,_ | ⟨l,_ | ⟨m,_ | ⟨n,_ | ⟨k,_ | ⟨p,_ | ⟨o,_ | ⟨q,_ | ⟨r,s⟩⟩⟩⟩⟩⟩⟩⟩⟩⟩⟩⟩⟩⟩⟩⟩⟩⟩⟩⟩⟩⟩⟩⟩⟩⟩⟩⟩
 all_goals simp_all
 grind [kTail]
theorem Fr.past {w W0 W} {S} (h:Fr ze w W0) (k:Fr S W0 W) (hS:∀ b,S b→w.heap.size≤b):Fr ze w W:=
 ⟨k.os.trans h.os,k.tape.trans h.tape,k.output.trans h.output,yJ h.size k.size,λb a _=>(k.block b (yD a h.size) λc=>by grind).trans (h.block b a λx=>x.elim),λd=>yJ (h.drawn d) (k.drawn d)⟩
theorem zsC {A} {w W} {tm} {B Dd} {k} (hs:tm.size=26) (ht2:tm[2]? = some (.pointer (some ⟨B,0,none⟩))) (hB:W.heap[B]? = some (.cells #[.int .i64 k] 3 (0,0))) (hD:W.heap[Dd]? = some (.deferred (some []))) (hBD:B≠Dd)
  (hf:Fr ze w W) (hDw:w.heap.size≤Dd):LeavesInM Fence.wide 0 pg Tryz.f272 tm (zg3 A w (.int k)) [{ target:=.collected Dd,args:=#[] }] .returning W:=by
 refine ⟨by simp,.inl ⟨_,_,rfl,run_takeDeferred hD,?_⟩⟩
 have e:(W.putObj Dd (.deferred none)).heap[B]? = some (.cells #[.int .i64 k] 3 (0,0)):=(World.putObj_heap_other hBD).trans hB
 have c:=zco (P:=pg) (A:=λ_=>False) (w:=W.putObj Dd (.deferred none)) (t:=3) (k:=none) Y3 (b:=B) (off:=0) (d:=.int k) (u:=.int .i64 k) (by grind [D.rep]) rfl (λq i=>by
  grind [Value.cells,zV])
 simp only [Instr.loadAt,Instr.sureAddr,Sem.run_bind,Sem.run_pure] at c
 refine ⟨.int .i64 k,?_,_,rfl,?_,by grind [D.rep]⟩
 ·have g:tm.getD 2 undef = .pointer (some ⟨B,0,none⟩):=by
   simp_all
  have h:(zel tm (.cell 2 3)).run pg (W.putObj Dd (.deferred none)) = .ok (.int .i64 k) (W.putObj Dd (.deferred none)):=by
   grind [zel,asAddr,Result.andThen_ok]
  rw [zb1]
  simp_all
 ·exact hf.past (S:=λb=>b=Dd) ⟨rfl,rfl,rfl,by simp,λb _ a=>World.putObj_heap_other a,λ_=>yk _⟩ (λb f=>by grind)
theorem zsR (fn) (l Dd B) (p1) (s) (k f a e) (tm) (hs:tm.size=26) (ht1:tm[1]? = some (.pointer (some p1))) (ht2:tm[2]? = some (.pointer (some ⟨B,0,none⟩))) (W) (hBl:B≠l) (hp:p1.block≠l)
    (hl:W.heap[l]? = some (.loop (kRec fn tm Dd .ready none))) (h1:W.cell? p1=some (.string s)) (hB:W.heap[B]? = some (.cells #[.int .i64 0] 3 (0,0))) :
    RoundIn Fence.wide 0 pg l fn (tm.setIfInBounds 13 (.agg #[.int .i64 k,.int .i64 f,.int .i64 a,.int .i64 e])) kAsg zyb W (λen W'=>en = .returned (.bool false)∧Fr (λb=>b=l∨b=B) W W' ∧
      ((((a != 0)||(e != (s.size:Int)))=true∧W'.heap[l]? = some (.loop (kRec fn tm Dd .done (some (.exit 0))))∧W'.heap[B]? = some (.cells #[.int .i64 0] 3 (0,0))) ∨
       (((a != 0)||(e != (s.size:Int)))=false∧W'.heap[l]? = some (.loop (kRec fn tm Dd .done (some .ret)))∧W'.heap[B]? = some (.cells #[.int .i64 k] 3 (0,0))))):=by
  rcases tm with ⟨_ | ⟨x0,_ | ⟨x1,_ | ⟨x2,_ | ⟨x3,_ | ⟨x4,_ | ⟨x5,_ | ⟨x6,_ | ⟨x7,_ | ⟨x8,_ | ⟨x9,_ | ⟨x10,_ | ⟨x11,_ | ⟨x12,_ | ⟨x13,_ | ⟨x14,_ | ⟨x15,_ | ⟨x16,_ | ⟨x17,_ | ⟨x18,_ | ⟨x19,_ | ⟨x20,_ | ⟨x21,_ | ⟨x22,_ | ⟨x23,_ | ⟨x24,_ | ⟨x25,_ | ⟨x26,xs⟩⟩⟩⟩⟩⟩⟩⟩⟩⟩⟩⟩⟩⟩⟩⟩⟩⟩⟩⟩⟩⟩⟩⟩⟩⟩⟩⟩
  all_goals first | (exfalso;simp at hs;done) | skip
  all_goals first | (exfalso;simp at hs;omega) | skip
  simp at ht1 ht2
  subst ht1;subst ht2
  exact ztw fn l Dd B p1 s k f a e x0 x3 x4 x5 x6 x7 x8 x9 x10 x11 x12 x13 x14 x15 x16 x17 x18 x19 x20 x21 x22 x23 x24 x25 W hBl hp hl h1 hB
theorem hK298:ztT pg 298=true:=by kernel_rfl
theorem hK293:ztT pg 293=true:=by kernel_rfl
theorem hK299:ztT pg 299=true:=by kernel_rfl
theorem hZ278:zcd pg 278 none=true:=by kernel_rfl
abbrev KE:List UInt8→Value:=λl:List UInt8=>Value.string ⟨l.toArray⟩
theorem zlz (n) (t0) (kw) (h:zbH n=some kw):Pure pg 293 [.str t0] (.fn (.func 299) [] [.ref (.str t0),.ref (GMap.dat KE D.bool kw)]):=by
  refine Pure.zwB Tryz.func293 rfl (by simp_all) λA w=>.seq <| .region <| .op rfl rfl (.box rfl rfl) <| .op rfl rfl (.assign rfl rfl) <| .nil <| .seq <| .region <| .op rfl rfl (.call rfl hK298 rfl (zjL _ _ h)) <| .zvj rfl rfl rfl rfl rfl rfl rfl rfl (by simp) rfl rfl hZ278 <| .nil <| .seq <| .region <| .op rfl rfl (.makeFunc rfl rfl) <| .op rfl rfl (.assign rfl rfl) <| .nil <| .ret <| zbU rfl (.d _)
theorem zns (n) (t0) (r) (h:zeI n t0=some r):Pure pg 272 [.str t0] (.int r):=by
  unfold zeI at h
  refine Pure.zxv Tryz.func272 rfl (by rw [Tryz.ntmps272];simp) λA w=>?_
  rw [Tryz.ntmps272]
  refine .seq ?_
  refine .region ?_
  refine .op rfl rfl (.box rfl rfl) ?_
  refine .zua rfl rfl rfl rfl (.val Zv3) rfl ?_
  refine .nil ?_
  refine .seq ?_
  refine .seq ?_
  refine .plain 7 rfl ?_
  refine .op rfl rfl rfl rfl (.load rfl rfl Y9 rfl) ?_
  refine .op rfl rfl rfl rfl (.zwj rfl rfl rfl) ?_
  refine .op rfl rfl rfl rfl (.move rfl rfl) ?_
  refine .jOr 3 (b2:=decide (4096<(t0.length:Int))) rfl rfl rfl rfl (.inl rfl) (λ_ _ _ h1=>(by cases h1)) rfl rfl (λhb_1=>?_) ?_
  · refine .gop rfl rfl rfl rfl rfl rfl (.load rfl rfl Y9 rfl) ?_
    refine .gop rfl rfl rfl rfl rfl rfl (.zum rfl U9 rfl) ?_
    refine .gop rfl rfl rfl rfl rfl rfl (.gtr rfl rfl rfl) ?_
    exact .nil rfl
  refine .nil ?_
  refine .nil ?_
  refine .ztM rfl h (λh=>?_) (λh=>?_)
  · refine .seq ?_
    refine .region ?_
    refine .store rfl rfl rfl rfl rfl rfl (.ofD rfl) C3 rfl (yf rfl) ?_
    refine .nil ?_
    refine .ret ?_
    cases h
    exact zse rfl rfl Y3 (.d _)
  refine .skip ?_
  obtain ⟨kw,hkw,h⟩:=zvq h
  obtain ⟨tok,htok,h⟩:=zvq h
  refine Tri.le (t:=⟨[(1,.d (.ref (.str t0))),(2,.loc 0 0)],[.box 3 [.d (.int 0)]]⟩) ⟨rfl,rfl,rfl,trivial⟩ ?_
  refine ⟨λbs a w' hR=>?_⟩
  have hR0:R ⟨A,ze,w,26,λ_ _=>False,[],0,[]⟩ bs ⟨[(1,.d (.ref (.str t0))),(2,.loc 0 0)],[.box 3 [.d (.int 0)]]⟩ a w':=hR.noEsc
  refine wp_seq (wp_seq (Code.wp_mono ?_ (Tri.run (C:=⟨A,ze,w,26,λ_ _=>False,[],0,[]⟩) (Q:=λe s=>e = .normal∧look 12 s.T=some (.d (.fn (.func 299) [] [.ref (.str t0),.ref (GMap.dat KE D.bool kw)]))∧look 1 s.T=some (.d (.ref (.str t0)))∧look 2 s.T=some (.loc 0 0)∧s.H[0]? = some (.box 3 [.d (.int 0)])) ?_ bs a w' hR0)))
  case refine_2=>
    refine .region ?_
    refine .op rfl rfl (.load rfl rfl Y9 rfl) ?_
    refine .op rfl rfl (.call rfl hK293 rfl (zlz _ _ _ hkw)) ?_
    refine .nil ?_
    exact ⟨rfl,rfl,rfl,rfl,rfl⟩
  rintro e a3 w3 (⟨bs3,s3,⟨rfl,g12,g1,g2,gH⟩,hR3⟩ | ⟨_,hE⟩)
  case inr=>exact hE.elim
  simp only [Exit.then]
  have e12:=hR3.ev (x:=.tmp 12) (by simpa [ev] using g12)
  have e1:=hR3.ev (x:=.tmp 1) (by simpa [ev] using g1)
  have e2:=hR3.ev (x:=.tmp 2) (by simpa [ev] using g2)
  have hbox:=hR3.blk 0 _ gH
  simp only [V.rep,gH] at e2
  obtain ⟨B,hB0,e2⟩:=e2
  simp only [Blk.rep] at hbox
  obtain ⟨B',vs,hB1,hBh,hvs⟩:=hbox
  obtain rfl:B=B':=by rw [hB0] at hB1;simpa using hB1
  have hvs:vs = #[.int .i64 0]:=by
    simp only [V.reps,V.rep,D.rep] at hvs
    obtain ⟨v,vs',hv,rfl,rfl⟩:=hvs
    exact Array.toList_inj.1 hv
  subst hvs
  simp only [V.rep] at e12 e1
  simp only [D.rep] at e1
  obtain ⟨pb,po,pu,e1,hpA,hplt,hpu,hpc⟩:=e1
  subst hpu
  have hstr:w3.cell? ⟨pb,po,none⟩=some (.string ⟨t0.toArray⟩):=by have:=hpc 0 (by simp [Value.cells]);simpa [Value.cells] using this
  have e12':=e12
  simp only [D.rep] at e12
  obtain ⟨vs,us,e12,hv0,hus⟩:=e12
  simp only [D.reps] at hv0
  have hv0:vs = #[]:=by simpa using hv0
  subst hv0
  have hsz:a3.tmps.size=26:=hR3.size
  have hdf:a3.defers=[]:=hR3.defers
  have hown:=hR3.own
  have hBlt:B<w3.heap.size:=(yn.1 hBh).1
  refine (wpIn_wide (n:=0)).1 (wpIn_block (wpIn_rangeFunc ?_))
  intro fn _
  obtain ⟨w4,hw4⟩:∃ w4,(w3.alloc (.deferred (some []))).alloc (.loop (kRec fn a3.tmps w3.heap.size .ready none))=w4:=⟨_,rfl⟩
  have hold:∀ q,q<w3.heap.size→w4.heap[q]? = w3.heap[q]?:=λq hq=>by rw [← hw4];exact (Below.heap_alloc _ _ q (by simp;omega)).trans (Below.heap_alloc _ _ q hq)
  have hL4:w4.heap[w3.heap.size+1]? = some (.loop (kRec fn a3.tmps w3.heap.size .ready none)):=by rw [← hw4];have:=World.alloc_heap_new (w3.alloc (.deferred (some []))) (.loop (kRec fn a3.tmps w3.heap.size .ready none));rwa [World.size_alloc] at this
  have hD4:w4.heap[w3.heap.size]? = some (.deferred (some [])):=by rw [← hw4];exact (Below.heap_alloc _ _ _ (by simp)).trans (World.alloc_heap_new w3 _)
  have hs4:w4.heap.size=w3.heap.size+2:=by rw [← hw4];simp
  have hfr4:Fr ze w3 w4:=by
    rw [← hw4]
    exact (⟨rfl,rfl,rfl,by simp,λb hb _=>Below.heap_alloc _ _ b hb,λ_=>yk _⟩:Fr ze w3 (w3.alloc (.deferred (some [])))).trans ⟨rfl,rfl,rfl,by simp,λb hb _=>Below.heap_alloc _ _ b hb,λ_=>yk _⟩
  refine ⟨w3.heap.size+1,[{ target:=.collected w3.heap.size,args:=#[] }],w4,{ target:=.fn (.func 299) us,args:=#[.func (.yield (w3.heap.size+1)) #[] #[]] },w4,299,#[.func (.yield (w3.heap.size+1)) #[] #[]]++us,w4,?_,?_,λ_ _=>trivial,?_,λh=>by simp [Fence.wide] at h,?_⟩
  · rw [← hw4];exact run_enterLoop_outer _ _ _ _ _
  · have ek:∀ v,a3.eval (.const v)=v:=λ_=>rfl
    simp [resolve,e12,Deferred.ofValue,ek]
  · simp only [invoke];exact zaW hK299 _ w4
  obtain ⟨A',hA'⟩:∃ A':Nat→Prop,A'=λb=>Own A bs3 b∨b=w3.heap.size∨b=w3.heap.size+1:=⟨_,rfl⟩
  have hAlt:∀ b,A' b→b<w4.heap.size:=λb hb=>by
    subst hA'
    rcases hb with (hb | hb) | rfl | rfl
    · have:=hown.zt4 b hb;omega
    · have:=hown.lt b hb;omega
    · omega
    · omega
  have hAin:∀ b,b<w3.heap.size→A' b→Own A bs3 b:=λb hb hb'=>by
    subst hA'
    rcases hb' with hb' | rfl | rfl
    · exact hb'
    · omega
    · omega
  have hG4:zdo A' w4:=hown.glob.fr hfr4 (λ_ x=>x.elim) hAin
  have hargs:D.reps A' w4 [.fn (.yield (w3.heap.size+1)) [] [],.ref (.str t0),.ref (GMap.dat KE D.bool kw)] ((#[Value.func (.yield (w3.heap.size+1)) #[] #[]]:Array Value)++us).toList:=by
    have:=D.zut hfr4 (λ_ x=>x.elim) hAin _ _ hus
    simp only [Array.toList_append,ug,yU,D.reps,D.rep] at this ⊢
    exact ⟨_,_,rfl,⟨#[],#[],rfl,rfl,rfl⟩,this⟩
  have hstr4:w4.cell? ⟨pb,po,none⟩=some (.string ⟨t0.toArray⟩):=by rw [World.cell?_of_block (hold pb hplt)];exact hstr
  have hB4:w4.heap[B]? = some (.cells #[.int .i64 0] 3 (0,0)):=(hold B hBlt).trans hBh
  have ht1:a3.tmps[1]? = some (.pointer (some ⟨pb,po,none⟩)):=by
    have:a3.tmps.getD 1 undef = .pointer (some ⟨pb,po,none⟩):=e1
    simpa [Array.getD,hsz] using this
  have ht2:a3.tmps[2]? = some (.pointer (some ⟨B,0,none⟩)):=by
    have:a3.tmps.getD 2 undef = .pointer (some ⟨B,0,none⟩):=e2
    simpa [Array.getD,hsz] using this
  obtain ⟨Post,hPost⟩:∃ Post:World→Prop,Post=(λW'=>∃ W0,Fr ze w4 W0∧Fr (λb=>b=w3.heap.size+1∨b=B) W0 W' ∧
      ((((tok.at_ != 0)||(tok.end_ != (t0.length:Int)))=true∧W'.heap[w3.heap.size+1]? = some (.loop (kRec fn a3.tmps w3.heap.size .done (some (.exit 0))))∧W'.heap[B]? = some (.cells #[.int .i64 0] 3 (0,0))) ∨
       (((tok.at_ != 0)||(tok.end_ != (t0.length:Int)))=false∧W'.heap[w3.heap.size+1]? = some (.loop (kRec fn a3.tmps w3.heap.size .done (some .ret)))∧W'.heap[B]? = some (.cells #[.int .i64 tok.kind] 3 (0,0))))):=⟨_,rfl⟩
  refine callsIn_wide.2 ((zna (A:=A') (w:=w4) (Post:=Post) Tryz.func299 rfl rfl (by rw [Tryz.ntmps299];exact yf rfl) hAlt hG4 hargs ?_).mono ?_)
  · have htri:=ziR n t0 kw (.fn (.yield (w3.heap.size+1)) [] []) ⟨A',ze,w4,93,λa W'=>a.defers=[]∧Post W',[],0,[]⟩ rfl rfl (λ_ _=>False) tok htok (λQ T H j q0 q5 qj=>zsm (Post:=Post) (w3.heap.size+1) tok ?_ Q T H j q0 q5 qj)
    · rw [zcL Tryz.func299 rfl] at htri
      exact htri
    · intro W v hf hv
      simp only [Token.enc,D.rep,D.reps] at hv
      obtain ⟨vs,rfl,v1,l1,hvs,rfl,v2,l2,rfl,rfl,v3,l3,rfl,rfl,v4,l4,rfl,rfl,rfl⟩:=hv
      have hvs:vs = #[.int .i64 tok.kind,.int .i64 tok.from_,.int .i64 tok.at_,.int .i64 tok.end_]:=Array.toList_inj.1 (by simpa using hvs)
      subst hvs
      have hLW:W.heap[w3.heap.size+1]? = some (.loop (kRec fn a3.tmps w3.heap.size .ready none)):=(hf.block _ (by omega) (λx=>x.elim)).trans hL4
      refine ⟨fn,a3.tmps.setIfInBounds 13 (.agg #[.int .i64 tok.kind,.int .i64 tok.from_,.int .i64 tok.at_,.int .i64 tok.end_]),kAsg,zyb,?_,(zsR fn (w3.heap.size+1) w3.heap.size B ⟨pb,po,none⟩ ⟨t0.toArray⟩ tok.kind tok.from_ tok.at_ tok.end_ a3.tmps hsz ht1 ht2 W (by omega) (by simp only;omega) hLW ?_ ?_).mono ?_⟩
      · have:=run_yield (P:=pg) (args:=#[.agg #[.int .i64 tok.kind,.int .i64 tok.from_,.int .i64 tok.at_,.int .i64 tok.end_]]) hLW rfl
        simpa [kRec] using this
      · rw [World.cell?_of_block (hf.block pb (by omega) (λx=>x.elim))];exact hstr4
      · exact (hf.block B (by omega) (λx=>x.elim)).trans hB4
      · rintro e W' ⟨rfl,hf2,hcase⟩
        exact ⟨rfl,by rw [hPost];exact ⟨W,hf,hf2,hcase⟩⟩
  · rintro e W ⟨⟨u,rfl⟩,hP⟩
    rw [hPost] at hP
    obtain ⟨W0,f1,f2,hcase⟩:=hP
    have hs0:w4.heap.size≤W0.heap.size:=f1.size
    have hD0:W0.heap[w3.heap.size]? = some (.deferred (some [])):=(f1.block w3.heap.size (by omega) (λx=>x.elim)).trans hD4
    have hDW:W.heap[w3.heap.size]? = some (.deferred (some [])):=(f2.block w3.heap.size (by omega) (by rintro (h | h) <;> omega)).trans hD0
    have hww:w.heap.size≤w3.heap.size:=hR3.fr.size
    have hBw:w.heap.size≤B:=(hR3.new B (yx hB0)).resolve_left (λh=>h)
    have hfr3:Fr ze w w3:=hR3.fr
    have hfW:Fr ze w W:=((hfr3.trans hfr4).trans f1).past f2 (by rintro b (rfl | rfl) <;> omega)
    rcases hcase with ⟨hc,hL,hBW⟩ | ⟨hc,hL,hBW⟩
    · rw [if_pos hc] at h
      cases h
      refine ⟨some (.exit 0),_,run_endLoop hL (by simp [kRec]),?_⟩
      have hB5:(W.putObj (w3.heap.size+1) (.loop { kRec fn a3.tmps w3.heap.size .done (some (.exit 0)) with state:=.exhausted })).heap[B]? = some (.cells #[.int .i64 0] 3 (0,0)):=(World.putObj_heap_other (by omega)).trans hBW
      have hD5:(W.putObj (w3.heap.size+1) (.loop { kRec fn a3.tmps w3.heap.size .done (some (.exit 0)) with state:=.exhausted })).heap[w3.heap.size]? = some (.deferred (some [])):=(World.putObj_heap_other (by omega)).trans hDW
      have hf5:Fr ze w (W.putObj (w3.heap.size+1) (.loop { kRec fn a3.tmps w3.heap.size .done (some (.exit 0)) with state:=.exhausted })):=hfW.past (S:=λb=>b=w3.heap.size+1) ⟨rfl,rfl,rfl,by simp,λb _ hne=>World.putObj_heap_other hne,λ_=>yk _⟩ (by rintro b rfl;omega)
      generalize W.putObj (w3.heap.size+1) (.loop { kRec fn a3.tmps w3.heap.size .done (some (.exit 0)) with state:=.exhausted })=W5 at hB5 hD5 hf5 ⊢
      refine wpIn_exit ?_
      simp only [Exit.inBlock,if_true,Exit.then]
      have hB6:(W5.setCell ⟨B,0,none⟩ (.int .i64 0)).heap[B]? = some (.cells #[.int .i64 0] 3 (0,0)):=by simp [World.setCell,Array.getElem?_modify,hB5]
      have hD6:(W5.setCell ⟨B,0,none⟩ (.int .i64 0)).heap[w3.heap.size]? = some (.deferred (some [])):=(Below.heap_setCell W5 ⟨B,0,none⟩ _ _ (by simp only;omega)).trans hD5
      have hf6:Fr ze w (W5.setCell ⟨B,0,none⟩ (.int .i64 0)):=by
        have k6:Fr (λb=>b=B) W5 (W5.setCell ⟨B,0,none⟩ (.int .i64 0)):=⟨rfl,rfl,rfl,by simp,λb _ hne=>Below.heap_setCell W5 ⟨B,0,none⟩ _ b hne,λ_=>yk _⟩
        exact hf5.past k6 (by rintro b rfl;exact hBw)
      exact ztx B a3.tmps hsz ht2 _ W5 _ hB5 (.inr ⟨rfl,by rw [hdf];exact zsC hsz ht2 hB6 hD6 (by omega) hf6 hww⟩)
    · rw [if_neg (by rw [hc];simp)] at h
      cases h
      refine ⟨some .ret,_,run_endLoop hL (by simp [kRec]),?_⟩
      have hB5:(W.putObj (w3.heap.size+1) (.loop { kRec fn a3.tmps w3.heap.size .done (some .ret) with state:=.exhausted })).heap[B]? = some (.cells #[.int .i64 tok.kind] 3 (0,0)):=(World.putObj_heap_other (by omega)).trans hBW
      have hD5:(W.putObj (w3.heap.size+1) (.loop { kRec fn a3.tmps w3.heap.size .done (some .ret) with state:=.exhausted })).heap[w3.heap.size]? = some (.deferred (some [])):=(World.putObj_heap_other (by omega)).trans hDW
      have hf5:Fr ze w (W.putObj (w3.heap.size+1) (.loop { kRec fn a3.tmps w3.heap.size .done (some .ret) with state:=.exhausted })):=hfW.past (S:=λb=>b=w3.heap.size+1) ⟨rfl,rfl,rfl,by simp,λb _ hne=>World.putObj_heap_other hne,λ_=>yk _⟩ (by rintro b rfl;omega)
      generalize W.putObj (w3.heap.size+1) (.loop { kRec fn a3.tmps w3.heap.size .done (some .ret) with state:=.exhausted })=W5 at hB5 hD5 hf5 ⊢
      refine wpIn_ret ?_
      simp only [Exit.inBlock,Exit.then]
      exact .inr ⟨rfl,by rw [hdf];exact zsC hsz ht2 hB5 hD5 (by omega) hf5 hww⟩
end
abbrev wE1 a:=(.vec 221 2 (List.map Place.enc a):Blk)
theorem ziQ:Kd1 234 zfK .str .bool:=λn t0 r h=>.ot Tryz.func234 I Tryz.ntmps234 I λA w=>.sA 1 I<|.seq<|.plain 8 I<|.A 1 I<|.p I (.zum I U9 I)<|.A 2 I<|gK h λc2 h=>.jA 3 (((zeI n t0).getD default)==1) I (λb1=>.A 1 I<|.q I (.call I (zt1 I) I (zns _ _ _ (zt0 (impT c2 b1))))<|.A 1 I<|.nil I) <| .nil<|.A 1 I<|.nil<|.ret (rO h I)
theorem zh6 (n t0 t1 r) (h:zcv n t0 t1=some r):Pure pg 273 [.int t0,.ref (eA t1)] (.bool r):=by
  refine Pure.ot Tryz.func273 I Tryz.ntmps273 I λA w=>.sA 1 I<|.seq<|.plain 8 I<|.A 3 I<|.jO 4 (decide ((t1.length:Int)≤t0)) I (λb1=>.A 2 I<|.qe I<|.A 1 I<|.nil I) <| .nil<|.A 1 I<|.nil<|.ret (rO h I)
theorem zju:Kd2 236 zd2 eA eA .bool:=λn t0 t1 r h=>.ot Tryz.func236 I Tryz.ntmps236 I λA w=>.sA 2 I<|.seq<|.plain 9 I<|.A 1 I<|.e I<|.A 2 I<|gK h λc2 h=>.jA 4 (!((zj n t1 (λq0=>zcv n q0 t0)).getD default)) I (λb1=>.A 1 I<|.q I (.makeFunc I I)<|.q I (.call I (zt1 I) I (zab _ _ _ _ (λq0 y hq=>⟨_,_,I,K273,zh6 _ q0 _ _ hq⟩) _ (zt0 (impT c2 b1))))<|.A 1 I<|.nil I) <| .nil<|.A 1 I<|.nil<|.ret (rO h I)
theorem zlc:Kd1 237 zfc Table.enc .bool:=λn t0 r h=>.ot Tryz.func237 I Tryz.ntmps237 I λA w=>.sA 2 I<|.seq<|.sA 2 I<|.block<|.J [1] h (λv=>[(5,.d (.bool v))]) (λv=>[]) I (λk_2 h=>.sA 2 I<|.ztM I h (λh=>.skip (ndE h I)) λh=>.sA 2 I<|.ztM I h (λh=>.skip (ndE h I)) λh=>.rA 2 I (ndE h I)) (λx1 h=>.ztM I h (λh=>.seq<|.plain 19 I<|.p I (.fa I (zeL _))<|.A 2 I<|.p I (.fa I (zeL _))<|.A 4 I<|.jA 4 (decide ((-9999)≤t0.range.lo)) I (λb3=>.q I (.fa I (zeL _))<|.A 3 I<|.nil I) <| .A 1 I<|.jA 4 (decide (t0.range.hi≤9999)) I (λb4=>.q I (.fa I (zeL _))<|.A 3 I<|.nil I) <| .nil<|.A 1 I<|.nil<|.K [2] I<|.ret (rO h I)) λh=>.skip<|.K [1] I<|.sr<|.p I (.fa I (zeL _))<|.A 1 I<|.p I (.B (Range.enc ⟨0,1⟩) Zc83 I)<|.p I (.seql I SE83 I I (xs:=Range.vals _) (ys:=Range.vals _) I I I I (SQ83 _ _))<|.A 1 I<|.nil<|.ret (rO h I))
theorem zdR:Kd1 207 zb6 Table.enc .bool:=λn t0 r h=>.ot Tryz.func207 I Tryz.ntmps207 I λA w=>.sA 2 I<|.seq<|.plain 8 I<|.A 4 I<|.jO 3 (t0.kind==1) I (λb1=>.A 3 I<|.nil I) <| .nil<|.A 1 I<|.nil<|.ret (rO h I)
theorem zd3:Kd2 209 zba eA eA .int:=λn t0 t1 r h=>.ot Tryz.func209 I Tryz.ntmps209 I λA w=>.sA 1 I<|.sA 1 I<|.seq<|.S 1 I<|.e I<|.A 1 I<|.nil<|.block<|.L [0,8,9] h (λv=>[(5,.d (.int v.1)),(10,.d (.int v.2))]) (λv=>[]) I λ_ ⟨x9,x10⟩ h=>.sA 1 I<|.seq<|.ztM I h (λh=>.skip<|.seq<|.block<|.sr<|.X h I λx12 h=>.A 2 I<|.nil<|.region<|.A 3 I<|.X h I λx13 h=>.A 3 I<|.nil<|.rA 2 I (ndE h I)) λh=>.exit<|.sA 2 I<|.ret (rO h I)
theorem zfu:Kd2 201 zbN eA eB .bool:=λn t0 t1 r h=>by
  refine .ot Tryz.func201 I Tryz.ntmps201 I λA w=>.sA 1 I<|.seq<|.S 1 I<|.e I<|.A 2 I<|.e I<|.A 2 I<|.Z h I (zmg _ _) λx1 h=>.p I (.ztY [_,_,_] I I E173 I (λ_=>I) I (enc:=D.bool))<|.Z h I (zke _ _) λx2 h=>.A 1 I<|.nil<|.ztM I h (λh=>.sA 1 I<|.ret (rO h I)) λh=>.skip<|.sr<|.makeMap (λl:List UInt8=>Value.string ⟨l.toArray⟩) D.bool I I I I<|.A 1 I<|.nil<|.sr<|.zua I I I I (.val Zv3) I<|.zua I I I I (.val Zv3) I<|.so I<|.so I<|.nil<|.K [0,1,5,6,7] I<|.seq<|.S 1 I<|.e I<|.A 1 I<|.nil<|.block<|.L [0,5,6,7,23,24] h (λv=>[(25,.d (.int v.2.2.2))]) (λv=>[(0,GMap.blk (λl:List UInt8=>Value.string ⟨l.toArray⟩) D.bool v.1),(1,.box 3 [.d (.int v.2.1)]),(2,.box 3 [.d (.int v.2.2.1)])]) I λ_ ⟨m0_37,c1_0_38,c2_0_39,x40⟩ h=>.sA 1 I<|.K [0,5,6,7,23,24,25,26] I<|.seq<|.ztM I h (λh=>?_) λh=>?_
  · refine .skip<|.J [0,5,6,7,23,24,25] h (λv=>[]) (λv=>[(0,GMap.blk (λl:List UInt8=>Value.string ⟨l.toArray⟩) D.bool v.1),(1,.box 3 [.d (.int v.2.1)]),(2,.box 3 [.d (.int v.2.2)])]) I (λk_45 h=>?_) (λv h=>?_)
    · refine .block<|.sr<|.X h I λx46 h=>.A 1 I<|.aS I<|.nil<|.seq<|.seq<|.dr 20<|.A 2 I<|.Z h I (ziQ _ _) λx47 h=>.A 3 I<|.p I (.zxk I U278 KT9 I I I (z:=(false:Bool)) (.val Zv4))<|.A 3 I<|.Z h I (zgB _ _ _ _) λx48 h=>.A 3 I<|.Z h I (zju _ _ _) λx49 h=>.A 1 I<|.Z h I (zlc _ _) λx50 h=>.p I (.ztY [_,_,_,_,_] I I E173 I (λ_=>I) I (enc:=D.bool))<|.Z h I (zke _ _) λx51 h=>.A 1 I<|.nil<|.nil<|.K [0,5,6,7,9,23,24,25,48] I<|.ztM I h (λh=>.sA 1 I<|.ret (rO h I)) λh=>.skip<|.S 3 I<|.zxH (k:=x46.name) (v:=true) I I I U278 KT9 I I I I<|.nil<|.sA 1 I<|.seq<|.S 1 I<|.Z h I (zdR _ _) λx52 h=>.nil<|.ztM I h (λh=>.rA 1 I<|.seq<|.seq<|.dr 6<|.A 6 I<|.nil<|.nil<|.ztM I h (λh=>.sA 1 I<|.ret (rO h I)) λh=>.skip<|.dr 9<|.A 6 I<|.Z h I (zd3 _ _ _) λx53 h=>.A 2 I<|.nil<|.so I<|.nil (ndE h I)) λh=>.skip<|.seq<|.seq<|.dr 6<|.A 6 I<|.nil<|.nil<|.ztM I h (λh=>.sA 1 I<|.ret (rO h I)) λh=>.skip<|.dr 9<|.A 6 I<|.Z h I (zd3 _ _ _) λx54 h=>.A 2 I<|.nil<|.so I<|.nil (ndE h I)
    · obtain ⟨m0_42,c1_0_43,c2_0_44⟩:=v
      refine .rA 2 I (ndE h I)
  · refine .exit<|.seq<|.plain 6 I<|.A 3 I<|.jA 2 (decide (c2_0_39≤64)) I (λb55=>.A 2 I<|.nil I) <| .nil<|.A 1 I<|.nil<|.ret (rO h I)
theorem zfM:Kd1 202 zap eC .bool:=λn t0 r h=>.ot Tryz.func202 I Tryz.ntmps202 I λA w=>.sA 1 I<|.sr<|.makeMap (λl:List UInt8=>Value.string ⟨l.toArray⟩) D.bool I I I I<|.A 1 I<|.nil<|.seq<|.S 1 I<|.e I<|.A 1 I<|.nil<|.block<|.L [3,7,8] h (λv=>[(9,.d (.int v.2))]) (λv=>[(0,GMap.blk (λl:List UInt8=>Value.string ⟨l.toArray⟩) D.bool v.1)]) I λ_ ⟨m0_11,x12⟩ h=>.sA 1 I<|.K [3,7,8,9,10] I<|.seq<|.ztM I h (λh=>.skip<|.seq<|.block<|.sr<|.X h I λx14 h=>.A 2 I<|.nil<|.seq<|.seq<|.plain 8 I<|.A 1 I<|.Z h I (ziQ _ _) λx15 h=>.A 2 I<|.jO 3 ((m0_11.get? x14).getD false) I (λb16=>.A 2 I<|.q I (.zxk I U278 KT9 I I I (z:=(false:Bool)) (.val Zv4))<|.nil I) <| .nil<|.nil<|.ztM I h (λh=>.sA 1 I<|.ret (rO h I)) λh=>.skip<|.region<|.A 2 I<|.zxH (k:=x14) (v:=true) I I I U278 KT9 I I I I<|.nil<|.rA 2 I (ndE h I)) λh=>.exit<|.sA 1 I<|.ret (rO h I)
theorem ziS (n t0 t1 r) (h:zeV n t0 t1=some r):Pure pg 281 [.val (.int .u64 t0),.val (.int .u64 t1)] (.tup [.val (.int .u64 r.1),.val (.int .u64 r.2)]):=by
  refine Pure.ot Tryz.func281 I Tryz.ntmps281 I λA w=>.sA 2 I<|.S 1 I<|.p I (.band I I I)<|.A 1 I<|.nil<|.S 1 I<|bK h λx1 q1 h=>.p I (.shr I I I q1)<|.A 1 I<|.nil<|.S 1 I<|.p I (.band I I I)<|.A 1 I<|.nil<|.S 1 I<|bK h λx2 q2 h=>.p I (.shr I I I q2)<|.A 1 I<|.nil<|.S 2 I<|.p I (.mul I I I)<|.A 1 I<|.nil<|.K [0,1,6,7,8,9,10] I<|.S 2 I<|.p I (.mul I I I)<|.A 1 I<|bK h λx3 q3 h=>.p I (.shr I I I q3)<|.p I (.add I I I)<|.A 1 I<|.nil<|.S 1 I<|.p I (.band I I I)<|.A 1 I<|.nil<|.S 1 I<|bK h λx4 q4 h=> .p I (.shr I I I q4)<|.A 1 I<|.nil<|.S 3 I<|.p I (.mul I I I)<|.p I (.add I I I)<|.A 1 I<|.nil<|.K [0,1,7,9,12,13] I<|.S 2 I<|.p I (.mul I I I)<|.A 1 I<|.p I (.add I I I)<|.A 1 I<|bK h λx5 q5 h=>.p I (.shr I I I q5)<|.p I (.add I I I)<|.A 1 I<|.nil<|.S 2 I<|.p I (.mul I I I)<|.A 1 I<|.nil<|.ret <| by cases h;exact zfo I I (.d _) (.d _)
theorem zkE (n t0 t1 r) (h:zeE n t0 t1=some r):Pure pg 247 [.val (.int .u64 t0),.val (.int .u64 t1)] (.tup [.val (.int .u64 r.1),.val (.int .u64 r.2)]):=by
 refine Pure.ot Tryz.func247 I Tryz.ntmps247 I λA w=>.sA 2 I<|.seq<|.zwX I<|.skip<|.S 2 I<|.Z h I (ziS _ _ _) λx1 h=>.A 5 I<|.nil<|.sA 4 I<|.ret ?_
 cases h
 exact zfo I I (.d _) (.d _)
theorem zdK:Kd2 208 zN eI .int eI:=λn t0 t1 r h=>.ot Tryz.func208 I Tryz.ntmps208 I λA w=>.sr<|.p I (.nilS 2 (α:=Range) Range.enc I)<|.nil<|.seq<|.sA 2 I<|.ztM I h (λh=>.region <| by cases h) λh=>.skip<|.S 1 I<|.e I<|.p I (.conv I U3 U260 I)<|.A 1 I<|.p I (.conv I U3 U260 I)<|.Z h I (zkE _ _ _) λx1 h=>.A 5 I<|.nil<|.seq<|.seq<|.plain 6 I<|.A 3 I<|.jO 2 (decide (9223372036854775807<x1.2)) I (λb2=>.A 2 I<|.nil I) <| .nil<|.nil<|.K [0,6,26] I<|.ztM I h (λh=>.region <| by cases h) λh=>.skip<|.S 1 I<|.p I (.conv I U260 U3 I)<|bK h λx3 q3 h=>.zvy (enc:=Range.enc) (z:=(⟨0,0⟩:Range)) I I I I E80 I I I (.agg Zc83 (ds':=[.int 0,.int 0]) (.e .e1)) q3<|.A 1 I<|.nil<|.S 2 I<|.asSub 31 I<|.zx4 (enc:=Range.enc) (l:=x3) (ys:=t0) I I I I E80 I I I (.d I) (λ_=>I)<|.zuu 7 I (zlg _ t0).symm<|.zuu 30 I (zlg _ t0).symm<|.A 1 I<|.nil<|.seq<|.block<|.L [] h (λv=>[(7,.vec 0 (List.length v.1)),(8,.d (.int v.2))]) (λv=>[(0,.vec 83 2 (List.map Range.enc v.1))]) I λ_ ⟨b0_12,x13⟩ h=>.seq<|.S 2 I<|.p I (.lenV I U80 I I I)<|.A 1 I<|.nil<|.K [7,8,37] I<|.ztM I h (λh=>.skip<|.block<|.drawF 7 [0] Hm (by kernel_rfl) (by kernel_rfl)<|.A 3 I<|bK h λx15 q15 h=>.p I (.subL I I I I I U80 S83 q15)<|.A 2 I<|bK h λx16 q16 h=>.p I (.subH I I I I I U80 S83 q16)<|.nil ⟨.move I I .nil,(.zx4 (enc:=Range.enc) (l:=b0_12) (ys:=((b0_12.drop 0).take (x13.toNat - 0))) I I I I E80 I I I (.sub I I I) (λ_=>I)<|.zuu 7 I (zh8 q15 ((b0_12.drop 0).take (x13.toNat - 0))).symm<|.zuu 39 I (zh8 q15 ((b0_12.drop 0).take (x13.toNat - 0))).symm<|.zuu 42 I (zh8 q15 ((b0_12.drop 0).take (x13.toNat - 0))).symm<|.A 2 I<|.nil (ndE h I))⟩) λh=>.exit<|.sA 2 I<|.ret <| by cases h;exact zbU I (.vec I (by simp))
theorem zgz:Kd3 164 zbE eA eB .bool eI:=λn t0 t1 t2 r h=>.ot Tryz.func164 I Tryz.ntmps164 I λA w=>.sr<|.p I (.nilS 2 (α:=Range) Range.enc I)<|.nil<|.seq<|.S 2 I<|.Z h I (zfu _ _ _) λx1 h=>.A 1 I<|.nil<|.ztM I h (λh=>.sr<|.p I (.nilS 2 (α:=Range) Range.enc I)<|.nil<|.ret <| by cases h;exact zbU I (.d _)) λh=>.skip<|.S 1 I<|.zve 7 2 83 I<|.nil<|.seq<|.S 1 I<|.e I<|.A 1 I<|.nil<|.block<|.L [0,2,14,15] h (λv=>[(7,.vec 0 (List.length v.1)),(16,.d (.int v.2))]) (λv=>[(0,.vec 83 2 (List.map Range.enc v.1))]) I λ_ ⟨b0_20,x21⟩ h=>.sA 1 I<|.K [0,2,7,14,15,16,17] I<|.seq<|.ztM I h (λh=>.skip<|.J [0,2,14,15,16] h (λv=>[(7,.vec 0 (List.length v))]) (λv=>[(0,.vec 83 2 (List.map Range.enc v))]) I (λk_24 h=>.block<|.sr<|.X h I λx25 h=>.A 1 I<|.aS I<|.nil<|.S 1 I<|.Z h I (zdR _ _) λx26 h=>.A 1 I<|.p I (.beq I U4 I I)<|.nil<|.ztM I h (λh=>.dr 9<|.A 1 I<|.p I (.fa I (zeL _))<|.A 1 I<|.p I (.ztY [_] I I E80 I (λ_=>I) I (enc:=Range.enc))<|.A 3 I<|.Z h I (zd3 _ _ _) λx27 h=>.Z h I (zdK _ _ _) λx28 h=>.nil<|bK h λx29 q29 h=>.app I I I I I I I I E80 I (λ_=>I) q29<|.A 1 I<|.nil (ndE h I)) λh=>.skip (ndE h I)) (λb0_23 h=>.rA 2 I (ndE h I))) λh=>.exit<|.sA 2 I<|.ret <| by cases h;exact zbU I (.vec I (by simp))
theorem zcA:Kd2 238 zao .int .int .bool:=λn t0 t1 r h=>.ot Tryz.func238 I Tryz.ntmps238 I λA w=>.sA 1 I<|.seq<|.plain 7 I<|.A 3 I<|.jA 3 (decide (t0<t1)) I (λb1=>.A 3 I<|.nil I) <| .nil<|.A 1 I<|.nil<|.ret (rO h I)
theorem zdH:Kd2 243 zaA .int .int .bool:=λn t0 t1 r h=>.ot Tryz.func243 I Tryz.ntmps243 I λA w=>.sA 1 I<|.seq<|.plain 9 I<|.A 2 I<|.p I (.neg6 I I)<|.A 2 I<|.jA 3 (decide (t0≤t1)) I (λb1=>.A 3 I<|.nil I) <| .nil<|.A 1 I<|.nil<|.ret (rO h I)
theorem zfi:Kd2 239 zax zuD.enc Row.enc .bool:=λn t0 t1 r h=>.ot Tryz.func239 I Tryz.ntmps239 I λA w=>.sA 3 I<|.sA 1 I<|.seq<|.S 2 I<|.e I<|.A 1 I<|.nil<|.block<|.L [2,3,9,10] h (λv=>[(5,.d (.int v.1)),(11,.d (.int v.2))]) (λv=>[]) I λ_ ⟨x15,x16⟩ h=>.sA 1 I<|.seq<|.ztM I h (λh=>.skip<|.seq<|.block<|.sr<|.X h I λx18 h=>.A 1 I<|.aS I<|.nil<|.seq<|.seq<|.plain 23 I<|.A 5 I<|.jO 6 (decide ((t0.strict.length:Int)≤x18.cell)) I (λb19=>.A 4 I<|.qe I<|.A 1 I<|.nil I) <| .A 1 I<|.jO 3 (x18.ztV==0) I (λb20=>.A 3 I<|.nil I) <| .A 1 I<|gK h λc22 h=>.jO 4 (!((zaA n x18.ztV 1000).getD default)) I (λb21=>.A 2 I<|.q I (.call I (zt1 I) I (zdH _ _ _ _ (zt0 (impF c22 b21))))<|.A 1 I<|.nil I) <| .nil<|.nil<|.K [2,3,7,9,10,11,37] I<|.ztM I h (λh=>.sA 1 I<|.ret (rO h I)) λh=>.skip<|.rA 3 I<|.rA 2 I (ndE h I)) λh=>.exit<|.S 2 I<|.Z h I (zdH _ _ _) λx23 h=>.A 1 I<|.nil<|.ret (rO h I)
theorem zgv (n t0 t1 t2 r) (h:zbp n t0 t1 t2=some r):Pure pg 275 [Table.enc t0,.ref (Constraint.enc t1),.ref (zuD.enc t2)] (.bool r):=by
  refine Pure.ot Tryz.func275 I Tryz.ntmps275 I λA w=>.sA 2 I<|.seq<|.dr 42<|.A 4 I<|.jA 4 ((t0.ztK.length:Int)==2) I (λb1=>.A 2 I<|.qe I<|.A 1 I<|.nil I) <| .A 1 I<|gK h λc3 h=>gK h λc4 h=>.jA 9 (((idx t0.ztK 0).getD default)==((idx t0.ztK 1).getD default)) I (λb2=>.A 2 I<|.q I (.ix I U22 S3 (zt0 (impT c3 b2)))<|.A 3 I<|.q I (.ix I U22 S3 (zt0 (impT c4 b2)))<|.A 2 I<|.nil I) <| .A 1 I<|.jA 5 (t0.first==t1.first) I (λb5=>.A 5 I<|.nil I) <| .A 1 I<|gK h λc7 h=>gK h λc8 h=>.jA 12 (((idx t2.model.ztR ((idx t0.ztK 0).getD default)).getD default)==t1.size) I (λb6=>.q I (.fa I (zce _))<|.A 4 I<|.q I (.ix I U22 S3 (zt0 (impT c7 b6)))<|.A 1 I<|.q I (.ix I U22 S3 (zt0 (impT c8 b6)))<|.A 4 I<|.nil I) <| .A 1 I<|.nil<|.nil<|.K [4] I<|.ret (rO h I)
theorem zdf (n t0) (t1:Table→Option Bool) (F1:D) (hF1:∀ (q0:Table) (y:Bool),t1 q0=some y→Dyn pg F1 [Table.enc q0] (.bool y)) (r) (h:zy n t0 t1=some r):Pure pg 294 [eB t0,F1] (.int r):=by
  refine Pure.ot Tryz.func294 I Tryz.ntmps294 I λA w=>.sA 1 I<|.seq<|.S 1 I<|.e I<|.A 1 I<|.nil<|.block<|.L [0,1,7] h (λv=>[(8,.d (.int v))]) (λv=>[]) I λ_ x7 h=>.sA 1 I<|.seq<|.ztM I h (λh=>.skip<|.seq<|.block<|.sA 2 I<|.S 3 I<|.X h I λx9 h=>.A 1 I<|bK h λx10 q10 h=>.p I (.dyn I I I (hF1 _ _ q10))<|.nil<|.ztM I h (λh=>.sA 2 I<|.ret (rO h I)) λh=>.skip<|.rA 2 I (ndE h I)) λh=>.exit<|.sA 1 I<|.ret (rO h I)
theorem zc0 (n t0) (t1:Table→Option Bool) (F1:D) (hF1:∀ (q0:Table) (y:Bool),t1 q0=some y→Dyn pg F1 [Table.enc q0] (.bool y)) (r) (h:zT n t0 t1=some r):Pure pg 274 [eB t0,F1] (.bool r):=by
 refine Pure.ot Tryz.func274 I Tryz.ntmps274 I λA w=>.sA 1 I<|.S 2 I<|.Z h I (zdf _ _ _ _ hF1) λx1 h=>.A 2 I<|.nil<|.ret (rO h I)
theorem zhC:Kd2 240 zbM zuD.enc Constraint.enc .bool:=λn t0 t1 r h=>.ot Tryz.func240 I Tryz.ntmps240 I λA w=>.sA 3 I<|.seq<|.plain 18 I<|.p I (.fa I (G57_2 _))<|.A 2 I<|.e I<|.A 2 I<|.jA 4 (t1.row.bound==0) I (λb1=>.q I (.fa I (G57_2 _))<|.A 3 I<|.nil I) <| .A 1 I<|gK h λc3 h=>.jA 5 (((zT n t0.model.tables (λq0=>zbp n q0 t1 t0)).getD default)) I (λb2=>.q I (.fa I (zce _))<|.A 2 I<|.q I (.makeFunc I I)<|.q I (.call I (zt1 I) I (zc0 _ _ _ _ (λq0 y hq=>⟨_,_,I,K275,zgv _ q0 _ _ _ hq⟩) _ (zt0 (impT c3 b2))))<|.nil I) <| .nil<|.A 1 I<|.nil<|.K [4] I<|.ret (rO h I)
theorem zen:Kd2 276 zS eJ eJ .bool:=λn t0 t1 r h=>.ot Tryz.func276 I Tryz.ntmps276 I λA w=>.sA 1 I<|.seq<|.S 1 I<|.e I<|.A 1 I<|.e I<|.A 1 I<|.nil<|.ztM I h (λh=>.sA 1 I<|.ret (rO h I)) λh=>.skip<|.seq<|.S 1 I<|.e I<|.A 1 I<|.nil<|.block<|.L [0,1,12] h (λv=>[(13,.d (.int v))]) (λv=>[]) I λ_ x7 h=>.sA 1 I<|.seq<|.ztM I h (λh=>.skip<|.seq<|.block<|.sA 2 I<|.seq<|.dr 9<|.A 2 I<|.X h I λx9 h=>.A 3 I<|.X h I λx10 h=>.A 1 I<|.p I (.sneq I SE109 I I (xs:=Term.vals _) (ys:=Term.vals _) I I I I (SQ109 _ _))<|.nil<|.nil<|.ztM I h (λh=>.sA 1 I<|.ret (rO h I)) λh=>.skip<|.rA 2 I (ndE h I)) λh=>.exit<|.sA 1 I<|.ret (rO h I)
theorem zlJ:Kd4 241 zds Row.enc .int .int .int .bool:=λn t0 t1 t2 t3 r h=>.ot Tryz.func241 I Tryz.ntmps241 I λA w=>.sA 2 I<|.seq<|.plain 13 I<|.A 4 I<|.p I (.B (Term.enc ⟨t1,t2⟩) zxZ I)<|.p I (.ztY [_] I I E53 I (λ_=>I) I (enc:=Term.enc))<|.Z h I (zen _ _ _) λx1 h=>.A 1 I<|.jA 4 (t0.bound==t3) I (λb2=>.A 4 I<|.nil I) <| .nil<|.A 1 I<|.nil<|.K [8] I<|.ret (rO h I)
theorem ze9:Kd1 203 z0 zuD.enc .bool:=λn t0 r h=>by
  refine .ot Tryz.func203 I Tryz.ntmps203 I λA w=>.sA 2 I<|.seq<|.seq<|.plain 16 I<|.p I (.fa I (zce _))<|.A 2 I<|.e I<|.A 2 I<|.jO 9 (decide ((t0.model.constraints.length:Int)<ztZ 2 (t0.strict.length:Int))) I (λb1=>.q I (.fa I (zce _))<|.A 2 I<|.qe I<|.A 2 I<|.qe I<|.A 2 I<|.nil I) <| .nil<|.nil<|.K [1,23] I<|.ztM I h (λh=>.sA 1 I<|.ret (rO h I)) λh=>.skip<|.seq<|.sr<|.p I (.fa I (zce _))<|.A 2 I<|.e I<|.A 1 I<|.nil<|.block<|.L [1,26,27] h (λv=>[(28,.d (.int v))]) (λv=>[]) I λ_ x42 h=>.sA 1 I<|.seq<|.ztM I h (λh=>?_) λh=>?_
  · refine .skip<|.J [1,26,27,28] h (λv=>[]) (λv=>[]) I (λk_44 h=>?_) (λv h=>?_)
    · refine .block<|.S 1 I<|.X h I λx45 h=>.A 1 I<|.zua I I I I (.agg Zc57 (ds':=[.int 0,.int 0,eJ [],.int 0,.int 0,.int 0]) (.e (.e (.o (.e (.e .e1)))))) I<|.A 1 I<|.so I<|.nil<|.J [1,3,4,26,27,28] h (λv=>[]) (λv=>[]) I (λk_46 h=>?_) (λv h=>?_)
      · refine .block<|.S 2 I<|.p I (.fa I (zce _))<|.A 2 I<|.e I<|.Z h I (zcA _ _ _) λx47 h=>.A 2 I<|.nil<|.ztM I h (λh=>.sA 1 I<|.K [2] I<|.ret (rO h I)) λh=>.sA 4 I<|.K [1,3,4,26,27,28,42] I<|.ztM I h (λh=>.seq<|.plain 15 I<|.A 4 I<|.jO 3 (x45.size != 0) I (λb48=>.A 3 I<|.nil I) <| .A 1 I<|gK h λc50 h=>.jO 5 (!((zax n t0 x45.row).getD default)) I (λb49=>.A 1 I<|.q I (.ztW I I I zwQ)<|.q I (.zue I I I Y55 (yf I) (v:=.d (Row.enc x45.row)) I)<|.q I (.call I (zt1 I) I (zfi _ _ _ _ (zt0 (impF c50 b49))))<|.A 1 I<|.nil I) <| .nil<|.nil<|.ztM I h (λh=>.sA 1 I<|.K [2] I<|.ret (rO h I)) λh=>.skip (ndE h I)) λh=>.seq<|.plain 9 I<|.A 4 I<|gK h λc52 h=>.jO 4 (!((zbM n t0 x45).getD default)) I (λb51=>.A 1 I<|.q I (.zue I I I Y57 (yf I) (v:=.d (Constraint.enc x45)) I)<|.q I (.call I (zt1 I) I (zhC _ _ _ _ (zt0 (impF c52 b51))))<|.A 1 I<|.nil I) <| .nil<|.A 1 I<|.nil<|.ztM I h (λh=>.sA 1 I<|.ret (rO h I)) λh=>.skip (ndE h I)
      · refine .S 1 I<|bK h λx53 q53 h=>.p I (.quo6 I I I q53)<|.A 2 I<|.e I<|.A 1 I<|.nil<|.K [1,3,4,26,27,28,76] I<|.ztM I h (λh=>?_) λh=>?_
        · refine .S 3 I<|bK h λx54 q54 h=>.p I (.quo6 I I I q54)<|.X h I λx55 h=>.A 1 I<|.aS I<|.A 2 I<|.nil<|.J [1,3,4,26,27,28] h (λv=>[(6,.d (.int v.1)),(7,.d (.int v.2))]) (λv=>[]) I (λk_58 h=>.sA 3 I<|.S 1 I<|bK h λx59 q59 h=>.p I (.rem6 I I I q59)<|.A 1 I<|.nil<|.K [1,3,4,5,6,7,26,27,28,87] I<|.ztM I h (λh=>.dr 5<|.A 2 I<|.p I (.neg6 I I)<|.A 2 I<|.nil<|.nil (ndE h I)) λh=>.skip (ndE h I)) (λv h=>?_)
          obtain ⟨x56,x57⟩:=v
          refine .seq<|.plain 13 I<|.A 4 I<|gK h λc61 h=>gK h λc62 h=>.jO 8 (!((zds n x45.row ((zvm x42 2).getD default) x56 x57).getD default)) I (λb60=>.q I (.ztW I I I zwQ)<|.q I (.zue I I I Y55 (yf I) (v:=.d (Row.enc x45.row)) I)<|.A 1 I<|.q I (.quo6 I I I (zt0 (impF c61 b60)))<|.A 2 I<|.q I (.call I (zt1 I) I (zlJ _ _ _ _ _ _ (zt0 (impF c62 b60))))<|.A 1 I<|.nil I) <| .nil<|.nil<|.K [1,26,27,28,103] I<|.ztM I h (λh=>.sA 1 I<|.ret (rO h I)) λh=>.skip (ndE h I)
        · refine .skip (ndE h I)
    · refine .rA 2 I (ndE h I)
  · refine .exit<|.sA 1 I<|.ret (rO h I)
theorem zeY (n t0 t1 r) (h:za3 n t0 t1=some r):Pure pg 242 [.int t0,.ref (zuD.enc t1)] (.bool r):=by
  refine Pure.ot Tryz.func242 I Tryz.ntmps242 I λA w=>.sA 1 I<|.seq<|.plain 10 I<|.A 3 I<|.jO 6 (decide ((t1.model.ztR.length:Int)≤t0)) I (λb1=>.A 1 I<|.q I (.fa I (zce _))<|.A 2 I<|.qe I<|.A 1 I<|.nil I) <| .nil<|.A 1 I<|.nil<|.ret (rO h I)
theorem zfw:Kd1 204 zK zuD.enc .bool:=λn t0 r h=>.ot Tryz.func204 I Tryz.ntmps204 I λA w=>.sA 2 I<|.S 1 I<|.zve 3 1 9 I<|.nil<|.seq<|.sr<|.p I (.fa I (zce _))<|.A 2 I<|.e I<|.A 1 I<|.nil<|.block<|.L [1,8,9] h (λv=>[(3,.vec 0 (List.length v.1)),(10,.d (.int v.2))]) (λv=>[(0,.vec 9 1 (List.map D.str v.1))]) I λ_ ⟨b0_13,x14⟩ h=>.sA 1 I<|.K [1,3,8,9,10,11] I<|.seq<|.ztM I h (λh=>.skip<|.seq<|.block<|.sr<|.X h I λx16 h=>.A 1 I<|.aS I<|.nil<|.S 3 I<|.p I (.ztY [_] I I E24 I (λ_=>I) I (enc:=D.str))<|bK h λx17 q17 h=>.app I I I I I I I I E24 I (λ_=>I) q17<|.A 1 I<|.nil<|.seq<|.plain 10 I<|.A 2 I<|.e I<|.A 2 I<|gK h λc19 h=>.jO 4 (((zj n x16.ztR (λq0=>za3 n q0 t0)).getD default)) I (λb18=>.A 2 I<|.q I (.makeFunc I I)<|.q I (.call I (zt1 I) I (zab _ _ _ _ (λq0 y hq=>⟨_,_,I,K242,zeY _ q0 _ _ hq⟩) _ (zt0 (impF c19 b18))))<|.nil I) <| .nil<|.nil<|.K [1,3,8,9,10,28] I<|.ztM I h (λh=>.sA 1 I<|.ret (rO h I)) λh=>.skip<|.rA 2 I (ndE h I)) λh=>.exit<|.seq<|.plain 7 I<|.A 1 I<|.p I (.lenV I U24 I I I)<|.A 2 I<|gK h λc21 h=>.jA 2 (((zap n b0_13).getD default)) I (λb20=>.A 1 I<|.q I (.zwW I (zt1 I) (.cons I (.vec I (by simp)) .nil) I (zfM _ _ _ (zt0 (impT c21 b20))))<|.nil I) <| .nil<|.A 1 I<|.nil<|.ret (rO h I)
section
variable [Drw]
theorem zgm:Kd1 258 zdz .int .bool:=λn t0 r h=>.ot Tryz.func258 I Tryz.ntmps258 I λA w=>.sA 1 I<|.sA 4 I<|.ret (rO h I)
end
section
variable [Drw]
theorem zfd:Kd2 215 zcf .int .int .int:=λn t0 t1 r h=>.ot Tryz.func215 I Tryz.ntmps215 I λA w=>.sA 1 I<|.S 1 I<|.Z h I (zgm _ _) λx1 h=>.A 1 I<|.nil<|.S 1 I<|.Z h I (zgm _ _) λx2 h=>.A 1 I<|.nil<|.seq<|.sA 1 I<|.ztM I h (λh=>.seq<|.sA 1 I<|.ztM I h (λh=>.sA 1 I<|.ret (rO h I)) λh=>.skip<|.sA 1 I<|.ret (rO h I)) λh=>.skip<|.seq<|.sA 1 I<|.ztM I h (λh=>.sA 1 I<|.ret (rO h I)) λh=>.skip<|.seq<|.sA 3 I<|.ztM I h (λh=>.sA 1 I<|.ret (rO h I)) λh=>.skip<|.seq<|.sA 3 I<|.ztM I h (λh=>.sA 1 I<|.K [4] I<|.ret (rO h I)) λh=>.skip<|.sA 1 I<|.K [4] I<|.ret (rO h I)
end
section
variable [Drw]
theorem zc9:Kd2 216 zn eA eA .int:=λn t0 t1 r h=>.ot Tryz.func216 I Tryz.ntmps216 I λA w=>.sA 1 I<|.seq<|.S 1 I<|.e I<|.A 1 I<|.nil<|.block<|.L [0,1,9,10] h (λv=>[(11,.d (.int v))]) (λv=>[]) I λ_ x9 h=>.sA 1 I<|.seq<|.ztM I h (λh=>.skip<|.seq<|.block<|.S 1 I<|.X h I λx11 h=>.A 3 I<|.nil<|.seq<|.S 2 I<|.e I<|.A 1 I<|.nil<|.ztM I h (λh=>.sA 1 I<|.ret (rO h I)) λh=>.skip<|.S 2 I<|.X h I λx12 h=>.A 2 I<|.nil<|.S 2 I<|.Z h I (zfd _ _ _) λx13 h=>.A 1 I<|.nil<|.K [0,1,8,9,10,11] I<|.sA 2 I<|.ztM I h (λh=>.sA 2 I<|.ret (rO h I)) λh=>.skip<|.rA 2 I (ndE h I)) λh=>.exit<|.seq<|.S 1 I<|.e I<|.A 1 I<|.e I<|.A 1 I<|.nil<|.ztM I h (λh=>.sA 1 I<|.ret (rO h I)) λh=>.skip<|.sA 1 I<|.ret (rO h I)
end
theorem zme (n t0 t1 t2 t3 r) (h:za9 n t0 t1 t2 t3=some r):Pure pg 295 [eA t0,eB t1,.bool t2,.int t3] (.tup [.int r.1,eA r.2.1,.bool r.2.2]):=by
  refine Pure.ot Tryz.func295 I Tryz.ntmps295 I λA w=>.S 1 I<|.p I (.nilS 1 (α:=Int) D.int I)<|.A 1 I<|.nil<|.seq<|.seq<|.plain 8 I<|.A 2 I<|.Z h I (zfu _ _ _) λx1 h=>.A 2 I<|.jO 2 (decide (t3<0)) I (λb2=>.A 2 I<|.nil I) <| .nil<|.nil<|.ztM I h (λh=>.S 1 I<|.p I (.nilS 1 (α:=Int) D.int I)<|.A 1 I<|.nil<|.ret <| by cases h;exact znK I I I (.d _) (.d _) (.d _)) λh=>.skip<|.seq<|.S 1 I<|.e I<|.A 1 I<|.nil<|.block<|.L [0,2,3,25,26] h (λv=>[(27,.d (.int v))]) (λv=>[]) I λ_ x73 h=>.sA 1 I<|.seq<|.ztM I h (λh=>?_) λh=>?_
  · refine .skip<|.seq<|.block<|.S 1 I<|.X h I λx75 h=>.A 1 I<|.zua I I I I (.agg Zc107 (ds':=[.str [],.int 0,eA [],.int 0,.int 0,.int 0]) (.e (.e (.o (.e (.e .e1)))))) I<|.A 1 I<|.so I<|.nil<|.sA 5 I<|.seq<|.seq<|.plain 16 I<|.p I (.zue I I I Y107 (yf I) (v:=.d (Table.enc x75)) I)<|.Z h I (zdR _ _) λx76 h=>.A 1 I<|.p I (.bne I U4 I I)<|.A 1 I<|.jO 2 (decide (zt2 t3 x75.first<0)) I (λb77=>.A 2 I<|.nil I) <| .A 1 I<|gK h λc79 h=>.jO 6 (decide (((zba n t0 x75.ztK).getD default)≤zt2 t3 x75.first)) I (λb78=>.A 4 I<|.q I (.call I (zt1 I) I (zd3 _ _ _ _ (zt0 (impF c79 b78))))<|.A 1 I<|.nil I) <| .nil<|.nil<|.K [0,2,3,11,12,13,25,26,27,51] I<|.ztM I h (λh=>.exit<|.rA 2 I (ndE h I)) λh=>.skip<|.S 2 I<|.e I<|bK h λx80 q80 h=>.zvy (enc:=D.int) (z:=(0:Int)) I I I I E22 I I I (.val Zv3) q80<|.A 1 I<|.nil<|.seq<|.S 1 I<|.p I (.lenV I U22 I I I)<|.A 2 I<|.nil<|.block<|.L [0,11,12] h (λv=>[(13,.d (.int v.2.1)),(14,.vec 1 (List.length v.1)),(15,.d (.int v.2.2))]) (λv=>[(1,.vec 3 1 (List.map D.int v.1))]) I λ_ ⟨b1_99,x100,x101⟩ h=>.seq<|.sA 2 I<|.K [0,11,12,13,14,15,60] I<|.ztM I h (λh=>.skip<|.seq<|.block<|.S 4 I<|.X h I λx103 h=>.A 1 I<|.X h I λx104 h=>.A 2 I<|.nil<|.drawF 9 [5,6,7] Hm (by kernel_rfl) (by kernel_rfl)<|.A 4 I<|bK h λx105 q105 h=>.p I (.rem6 I I I q105)<|.A 2 I<|bK h λx106 q106 h=>.p I (.quo6 I I I q106)<|bK h λx107 q107 h=>.p I (.idxV I I I I I U22 S3 q107)<|.nil ⟨.move I I (.move I I (.ints I I I I .nil)),(bK h λb1_108 hb1_108 h=>.zuJ (enc:=D.int) I I I I I I I I I C3 hb1_108<|.zuu 14 I (zag hb1_108)<|.zuu 71 I (zag hb1_108)<|.A 1 I<|.nil<|.K [0,11,12,13,14,15] I<|.rA 3 I (ndE h I))⟩) λh=>.exit<|.sA 5 I<|.ret <| by cases h;exact znK I I I (.d _) (.vec I (by simp)) (.d _)
  · refine .exit<|.S 1 I<|.p I (.nilS 1 (α:=Int) D.int I)<|.A 1 I<|.nil<|.ret <| by cases h;exact znK I I I (.d _) (.d _) (.d _)
theorem zg0:Kd2 277 zby zuD.enc zvd.enc .bool:=λn t0 t1 r h=>.ot Tryz.func277 I Tryz.ntmps277 I λA w=>.sA 3 I<|.sr<|.p I (.fa I (zce _))<|.A 2 I<|.p I (.fa I (zce _))<|.A 4 I<|.Z h I (zme _ _ _ _ _) λx1 h=>.A 7 I<|.nil<|.K [2,3,5,7] I<|.seq<|.sA 2 I<|.ztM I h (λh=>.sA 1 I<|.ret (rO h I)) λh=>.skip<|.sr<|.p I (.fa I (zce _))<|.A 3 I<|.X h I λx2 h=>.A 1 I<|.aS I<|.nil<|.sA 2 I<|.block<|.J [3,8] h (λv=>[(51,.d (.bool v))]) (λv=>[]) I (λk_4 h=>.sA 2 I<|.ztM I h (λh=>.skip (ndE h I)) λh=>.rA 2 I (ndE h I)) (λx3 h=>.ztM I h (λh=>.seq<|.plain 13 I<|.A 4 I<|.jO 3 (t1.kind==1) I (λb5=>.A 3 I<|.nil I) <| .A 1 I<|.jA 3 (t1.value==0) I (λb6=>.A 3 I<|.nil I) <| .nil<|.A 1 I<|.nil<|.K [4] I<|.ret (rO h I)) λh=>.seq<|.plain 19 I<|.A 4 I<|.jA 6 (decide (x2.range.lo≤t1.value)) I (λb7=>.A 2 I<|.q I (.fa I (zeL _))<|.A 3 I<|.nil I) (.A 1 I<|.jA 6 (decide (t1.value≤x2.range.hi)) I (λb8=>.A 2 I<|.q I (.fa I (zeL _))<|.A 3 I<|.nil I) (.nil<|.A 1 I<|.nil<|.K [4] I<|.ret (rO h I))))
theorem zga (n t0 t1 r) (h:zbi n t0 t1=some r):Pure pg 278 [Row.enc t0,.ref (zuD.enc t1)] (.bool r):=by
 refine Pure.ot Tryz.func278 I Tryz.ntmps278 I λA w=>.sA 2 I<|.S 2 I<|.Z h I (zfi _ _ _) λx1 h=>.A 2 I<|.nil<|.ret (rO h I)
theorem zdQ (n t0) (t1:Row→Option Bool) (F1:D) (hF1:∀ (q0:Row) (y:Bool),t1 q0=some y→Dyn pg F1 [Row.enc q0] (.bool y)) (r) (h:zm n t0 t1=some r):Pure pg 217 [eK t0,F1] (.int r):=by
  refine Pure.ot Tryz.func217 I Tryz.ntmps217 I λA w=>.sA 1 I<|.seq<|.S 1 I<|.e I<|.A 1 I<|.nil<|.block<|.L [0,1,7] h (λv=>[(8,.d (.int v))]) (λv=>[]) I λ_ x7 h=>.sA 1 I<|.seq<|.ztM I h (λh=>.skip<|.seq<|.block<|.sA 2 I<|.S 3 I<|.X h I λx9 h=>.A 1 I<|bK h λx10 q10 h=>.p I (.dyn I I I (hF1 _ _ q10))<|.nil<|.ztM I h (λh=>.sA 2 I<|.ret (rO h I)) λh=>.skip<|.rA 2 I (ndE h I)) λh=>.exit<|.sA 1 I<|.ret (rO h I)
theorem za2 (n t0) (t1:Row→Option Bool) (F1:D) (hF1:∀ (q0:Row) (y:Bool),t1 q0=some y→Dyn pg F1 [Row.enc q0] (.bool y)) (r) (h:zk n t0 t1=some r):Pure pg 170 [eK t0,F1] (.bool r):=by
 refine Pure.ot Tryz.func170 I Tryz.ntmps170 I λA w=>.sA 1 I<|.S 2 I<|.Z h I (zdQ _ _ _ _ hF1) λx1 h=>.A 2 I<|.nil<|.ret (rO h I)
theorem zgY:Kd2 244 zR zuD.enc zur.enc .bool:=λn t0 t1 r h=>.ot Tryz.func244 I Tryz.ntmps244 I λA w=>.sA 3 I<|.sA 1 I<|.seq<|.S 2 I<|.e I<|.A 1 I<|.nil<|.block<|.L [2,3,11,12] h (λv=>[(5,.d (.int v.1)),(13,.d (.int v.2))]) (λv=>[]) I λ_ ⟨x15,x16⟩ h=>.sA 1 I<|.seq<|.ztM I h (λh=>.skip<|.seq<|.block<|.sr<|.X h I λx18 h=>.A 1 I<|.aS I<|.nil<|.seq<|.seq<|.plain 23 I<|.A 5 I<|.jO 6 (decide ((t0.strict.length:Int)≤x18.cell)) I (λb19=>.A 4 I<|.qe I<|.A 1 I<|.nil I) <| .A 1 I<|.jO 3 (x18.add==0) I (λb20=>.A 3 I<|.nil I) <| .A 1 I<|gK h λc22 h=>.jO 4 (!((zaA n x18.add 1000000000).getD default)) I (λb21=>.A 2 I<|.q I (.call I (zt1 I) I (zdH _ _ _ _ (zt0 (impF c22 b21))))<|.A 1 I<|.nil I) <| .nil<|.nil<|.K [2,3,7,11,12,13,39] I<|.ztM I h (λh=>.sA 1 I<|.ret (rO h I)) λh=>.skip<|.rA 3 I<|.rA 2 I (ndE h I)) λh=>.exit<|.sA 1 I<|.seq<|.S 2 I<|.e I<|.A 1 I<|.nil<|.block<|.L [2,3,44,45] h (λv=>[(5,.d (.int v.1)),(46,.d (.int v.2))]) (λv=>[]) I λ_ ⟨x33,x34⟩ h=>.sA 1 I<|.seq<|.ztM I h (λh=>.skip<|.seq<|.block<|.sr<|.X h I λx36 h=>.A 1 I<|.aS I<|.nil<|.seq<|.seq<|.plain 10 I<|.A 5 I<|gK h λc38 h=>.jO 4 (!((zby n t0 x36).getD default)) I (λb37=>.A 2 I<|.q I (.call I (zt1 I) I (zg0 _ _ _ _ (zt0 (impF c38 b37))))<|.A 1 I<|.nil I) <| .nil<|.nil<|.ztM I h (λh=>.sA 1 I<|.ret (rO h I)) λh=>.skip<|.rA 3 I<|.K [2,3,5,44,45,46] I<|.rA 2 I (ndE h I)) λh=>.exit<|.seq<|.plain 17 I<|.A 2 I<|.e I<|.A 2 I<|.jA 4 (decide ((t1.ztU.length:Int)≤32)) I (λb39=>.A 2 I<|.qe I<|.A 1 I<|.nil I) <| .A 1 I<|gK h λc41 h=>.jA 5 (!((zk n t1.hold (λq0=>zbi n q0 t0)).getD default)) I (λb40=>.A 2 I<|.q I (.makeFunc I I)<|.q I (.call I (zt1 I) I (za2 _ _ _ _ (λq0 y hq=>⟨_,_,I,K278,zga _ q0 _ _ hq⟩) _ (zt0 (impT c41 b40))))<|.A 1 I<|.nil I) <| .nil<|.A 1 I<|.nil<|.K [4] I<|.ret (rO h I)
theorem zgu:Kd1 205 zC zuD.enc .bool:=λn t0 r h=>by
  refine .ot Tryz.func205 I Tryz.ntmps205 I λA w=>.sA 2 I<|.seq<|.sr<|.p I (.fa I (zce _))<|.A 2 I<|.e I<|.A 1 I<|.nil<|.ztM I h (λh=>.sA 1 I<|.ret (rO h I)) λh=>.skip<|.seq<|.sr<|.p I (.fa I (zce _))<|.A 2 I<|.e I<|.A 1 I<|.nil<|.block<|.L [1,16,17] h (λv=>[(18,.d (.int v))]) (λv=>[]) I λ_ x81 h=>.sA 1 I<|.seq<|.ztM I h (λh=>?_) λh=>?_
  · refine .skip<|.seq<|.block<|.S 1 I<|.X h I λx83 h=>.A 1 I<|.zua I I I I (.agg Zc79 (ds':=[.int 0,eA [],eL [],eK [],eM []]) (.e (.o (.o (.o .o1))))) I<|.A 1 I<|.so I<|.nil<|.seq<|.seq<|.dr 23<|.A 2 I<|.p I (.fa I (zce _))<|.A 2 I<|.e I<|.Z h I (zcA _ _ _) λx84 h=>.A 2 I<|gK h λc86 h=>.jO 13 ((x83.arguments.length:Int) != ((((idx t0.model.ztN x83.operation).getD default).ztR).length:Int)) I (λb85=>.A 2 I<|.qe I<|.q I (.fa I (zce _))<|.A 4 I<|.q I (.ix I U26 S111 (zt0 (impF c86 b85)))<|.A 2 I<|.qe I<|.A 1 I<|.nil I) <| .nil<|.nil<|.K [1,3,4,16,17,18,45] I<|.ztM I h (λh=>.sA 1 I<|.ret (rO h I)) λh=>.skip<|.seq<|.sr<|.p I (.fa I (zce _))<|.A 4 I<|.X h I λx87 h=>.A 2 I<|.e I<|.A 1 I<|.nil<|.block<|.L [1,3,4,16,17,18,53,54] h (λv=>[(55,.d (.int v))]) (λv=>[]) I λ_ x106 h=>.sA 1 I<|.seq<|.ztM I h (λh=>?_) λh=>?_
    · refine .skip<|.seq<|.block<|.S 1 I<|.X h I λx108 h=>.A 3 I<|.nil<|.S 3 I<|.X h I λx109 h=>.A 2 I<|.nil<|.seq<|.plain 22 I<|.A 3 I<|gK h λc111 h=>.jA 3 (!((zaA n x109 9999).getD default)) I (λb110=>.A 1 I<|.q I (.call I (zt1 I) I (zdH _ _ _ _ (zt0 (impT c111 b110))))<|.A 1 I<|.nil I) <| .A 1 I<|gK h λc114 h=>gK h λc115 h=>.jO 13 ((decide (0≤x108))&&(!((zao n x109 ((idx t0.model.ztR x108).getD default)).getD default))) I (λb112=>.A 3 I<|.jAnd 9 (b2:=!((zao n x109 ((idx t0.model.ztR x108).getD default)).getD default)) I I I I (.inr ⟨_,_,_,I,I,I⟩) (λ_ _ _ h1 h2=>by cases h1;cases h2;decide) I I (λb113=>.A 1 I<|.q I (.fa I (zce _))<|.A 3 I<|.q I (.ix I U22 S3 (zt0 (impT (impF c114 b112) b113)))<|.A 1 I<|.q I (.call I (zt1 I) I (zcA _ _ _ _ (zt0 (impT (impF c115 b112) b113))))<|.A 1 I<|.nil I) <| .nil I) <| .nil<|.nil<|.K [1,3,4,16,17,18,53,54,55,86] I<|.ztM I h (λh=>.sA 1 I<|.ret (rO h I)) λh=>.skip<|.rA 2 I (ndE h I)
    · refine .exit<|.J [1,4,16,17,18] h (λv=>[]) (λv=>[]) I (λk_116 h=>.sA 2 I<|.ztM I h (λh=>.sr<|.p I (.fa I (zce _))<|.A 4 I<|.X h I λx117 h=>.A 1 I<|.aS I<|.nil<|.seq<|.plain 20 I<|.A 6 I<|gK h λc120 h=>.jO 13 ((x117.operation==x83.operation)&&(decide (0≤((zn n x117.arguments x83.arguments).getD default)))) I (λb118=>.A 6 I<|.jAnd 6 (b2:=decide (0≤((zn n x117.arguments x83.arguments).getD default))) I I I I (.inr ⟨_,_,_,I,I,I⟩) (λ_ _ _ h1 h2=>by cases h1;cases h2;decide) I I (λb119=>.A 4 I<|.q I (.call I (zt1 I) I (zc9 _ _ _ _ (zt0 (impT (impF c120 b118) b119))))<|.A 1 I<|.nil I) <| .nil I) <| .nil<|.nil<|.K [1,4,16,17,18,116] I<|.ztM I h (λh=>.sA 1 I<|.ret (rO h I)) λh=>.skip (ndE h I)) λh=>.skip (ndE h I)) (λv h=>.S 1 I<|.p I (.ztW I I I F79_2)<|.p I (.zue I I I Y77 (yf I) (v:=.d (zur.enc x83.effect)) I)<|.Z h I (zgY _ _ _) λx121 h=>.A 1 I<|.nil<|.K [1,16,17,18,121] I<|.ztM I h (λh=>.sA 1 I<|.ret (rO h I)) λh=>.skip<|.rA 2 I (ndE h I))
  · refine .exit<|.sA 1 I<|.ret (rO h I)
theorem zgb (n t0 t1 t2 r) (h:zdb n t0 t1 t2=some r):Pure pg 246 [Hide.enc t0,.ref (.int t1),.ref (GMap.dat (λn:Int=>Value.int .i64 n) D.bool t2)] (.bool r):=by
  refine Pure.ot Tryz.func246 I Tryz.ntmps246 I λA w=>.sA 2 I<|.seq<|.plain 10 I<|.A 5 I<|.jA 4 ((t2.get? t0.to).getD false) I (λb1=>.A 3 I<|.q I (.zyi (ke:=(λn:Int=>Value.int .i64 n)) (ve:=D.bool) I U283 KT3 I I (z:=(false:Bool)) (.val Zv4))<|.nil I) <| .nil<|.A 1 I<|.nil<|.ret (rO h I)
theorem zdv (n t0) (t1:Hide→Option Bool) (F1:D) (hF1:∀ (q0:Hide) (y:Bool),t1 q0=some y→Dyn pg F1 [Hide.enc q0] (.bool y)) (r) (h:zF n t0 t1=some r):Pure pg 279 [eG t0,F1] (.int r):=by
  refine Pure.ot Tryz.func279 I Tryz.ntmps279 I λA w=>.sA 1 I<|.seq<|.S 1 I<|.e I<|.A 1 I<|.nil<|.block<|.L [0,1,7] h (λv=>[(8,.d (.int v))]) (λv=>[]) I λ_ x7 h=>.sA 1 I<|.seq<|.ztM I h (λh=>.skip<|.seq<|.block<|.sA 2 I<|.S 3 I<|.X h I λx9 h=>.A 1 I<|bK h λx10 q10 h=>.p I (.dyn I I I (hF1 _ _ q10))<|.nil<|.ztM I h (λh=>.sA 2 I<|.ret (rO h I)) λh=>.skip<|.rA 2 I (ndE h I)) λh=>.exit<|.sA 1 I<|.ret (rO h I)
theorem zdc (n t0) (t1:Hide→Option Bool) (F1:D) (hF1:∀ (q0:Hide) (y:Bool),t1 q0=some y→Dyn pg F1 [Hide.enc q0] (.bool y)) (r) (h:zay n t0 t1=some r):Pure pg 245 [eG t0,F1] (.bool r):=by
 refine Pure.ot Tryz.func245 I Tryz.ntmps245 I λA w=>.sA 1 I<|.S 2 I<|.Z h I (zdv _ _ _ _ hF1) λx1 h=>.A 2 I<|.nil<|.ret (rO h I)
theorem zgZ:Kd1 206 zg zuD.enc .bool:=λn t0 r h=>by
  refine .ot Tryz.func206 I Tryz.ntmps206 I λA w=>.sA 2 I<|.seq<|.sr<|.p I (.fa I (zce _))<|.A 2 I<|.e I<|.A 1 I<|.nil<|.ztM I h (λh=>.sA 1 I<|.ret (rO h I)) λh=>.skip<|.seq<|.sr<|.p I (.fa I (zce _))<|.A 2 I<|.e I<|.A 1 I<|.nil<|.block<|.L [1,18,19] h (λv=>[(20,.d (.int v))]) (λv=>[]) I λ_ x31 h=>.sA 1 I<|.K [1,18,19,20,21] I<|.seq<|.ztM I h (λh=>?_) λh=>?_
  · refine .skip<|.seq<|.block<|.sr<|.X h I λx33 h=>.A 1 I<|.aS I<|.nil<|.seq<|.seq<|.plain 25 I<|.A 2 I<|.p I (.fa I (zce _))<|.A 2 I<|.e I<|.Z h I (zcA _ _ _) λx34 h=>.A 2 I<|gK h λc36 h=>.jO 8 (!((zao n x33.to (t0.model.tables.length:Int)).getD default)) I (λb35=>.A 2 I<|.q I (.fa I (zce _))<|.A 2 I<|.qe I<|.q I (.call I (zt1 I) I (zcA _ _ _ _ (zt0 (impF c36 b35))))<|.A 1 I<|.nil I) <| .A 1 I<|.jO 5 (x33.table==x33.to) I (λb37=>.A 5 I<|.nil I) <| .nil<|.nil<|.K [1,4,18,19,20,48] I<|.ztM I h (λh=>.sA 1 I<|.ret (rO h I)) λh=>.skip<|.seq<|.dr 18<|.p I (.fa I (zce _))<|.A 4 I<|.X h I λx38 h=>.A 1 I<|.p I (.fa I (zce _))<|.A 4 I<|.X h I λx39 h=>.A 1 I<|.alloc I I I I ZZ107<|.alloc I I I I ZZ107<|.store I I I I I I Z107<|.store I I I I I I Z107<|.nil<|.zud [0,1] (.cons (t:=5) (d:=.ref (Table.enc x38)) I (.loc (zuG I) I (.v (.v (.v (.v (.v .v1)))))) (.cons (t:=6) (d:=.ref (Table.enc x39)) I (.loc (zuG I) I (.v (.v (.v (.v (.v .v1)))))) .nil))<|.nil<|.K [1,4,5,6,18,19,20] I<|.seq<|.dr 36<|.A 4 I<|.jO 3 (x39.kind != 0) I (λb40=>.A 3 I<|.nil I) <| .A 1 I<|gK h λc42 h=>.jO 7 (!((zao n x33.column (x38.ztK.length:Int)).getD default)) I (λb41=>.A 4 I<|.qe I<|.q I (.call I (zt1 I) I (zcA _ _ _ _ (zt0 (impF c42 b41))))<|.A 1 I<|.nil I) <| .A 1 I<|.jO 4 ((x39.ztK.length:Int) != 1) I (λb43=>.A 2 I<|.qe I<|.A 1 I<|.nil I) <| .A 1 I<|gK h λc45 h=>gK h λc46 h=>.jO 11 (((idx x39.ztK 0).getD default) != ((idx x38.ztK x33.column).getD default)) I (λb44=>.A 2 I<|.q I (.ix I U22 S3 (zt0 (impF c45 b44)))<|.A 5 I<|.q I (.ix I U22 S3 (zt0 (impF c46 b44)))<|.A 2 I<|.nil I) <| .nil<|.nil<|.K [1,18,19,20,98] I<|.ztM I h (λh=>.sA 1 I<|.ret (rO h I)) λh=>.skip<|.rA 2 I (ndE h I)
  · refine .exit<|.sr<|.makeMap (λn:Int=>Value.int .i64 n) D.bool I I I I<|.zua I I I I (.val Zv283) I<|.store I I I I I I (.cons (.mp I) .nil) C283 I (yf I)<|.nil<|.seq<|.sr<|.p I (.fa I (zce _))<|.A 2 I<|.e I<|.A 1 I<|.nil<|.block<|.L [1,7,103,104] h (λv=>[(105,.d (.int v.2))]) (λv=>[(0,GMap.blk (λn:Int=>Value.int .i64 n) D.bool v.1)]) I λ_ ⟨m0_53,x54⟩ h=>.sA 1 I<|.K [1,7,103,104,105,106] I<|.seq<|.ztM I h (λh=>.skip<|.seq<|.block<|.sr<|.X h I λx56 h=>.A 1 I<|.aS I<|.nil<|.region<|.A 3 I<|.zxH (k:=x56.table) (v:=true) I I I U283 KT3 I I I I<|.nil<|.rA 2 I (ndE h I)) λh=>.exit<|.seq<|.sr<|.p I (.fa I (zce _))<|.A 2 I<|.e I<|.A 1 I<|.nil<|.block<|.L [1,7,116] h (λv=>[(117,.d (.int v.2))]) (λv=>[(0,GMap.blk (λn:Int=>Value.int .i64 n) D.bool v.1)]) I λ_ ⟨m0_139,x140⟩ h=>.sA 1 I<|.K [1,7,116,117,118] I<|.seq<|.ztM I h (λh=>?_) λh=>?_
    · refine .skip<|.seq<|.block<|.S 1 I<|.mapRange I I I I U283 I I<|.nil<|.block<|.L [1,7,116,117,120] h (λv=>[]) (λv=>[(0,GMap.blk (λn:Int=>Value.int .i64 n) D.bool v.1),(2,.it 0 m0_139.clock v.2.1 v.2.2)]) I λ_ ⟨m0_171,m2_172,m2_173⟩ h=>.seq<|.region ?_
      obtain ⟨hold_176,hend_177,hstep_178⟩:=zs7 h
      refine .mapNext I I I I I I I hold_176 (λhz=>?_) (λen_175 hen_175=>?_)
      · have h:=hend_177 hz
        refine .A 1 I<|.nil<|.K [1,7,116,117,120,122] I<|.seq<|.zwX I<|.exit<|.rA 2 I (ndE h I)
      · have h:=hstep_178 en_175 hen_175
        refine .A 1 I<|.nil<|.K [1,7,116,117,120,122] I<|.seq<|.zx3 I<|.skip<|.block<|.sr<|gK h λhn_179 h=>.p I (.entry I I I I (List.mem_filter.1 hen_175).1 (of_decide_eq_true hn_179))<|.A 1 I<|.zvj I I I I I I I I (by simp) I I Z3<|.nil<|.sr<|.p I (.fa I (zce _))<|.A 2 I<|.p I (.zu8 I I)<|bK h λx180 q180 h=>.p I (.zwW I (zt1 I) (.cons I (.d _) (.cons I (.fn .nil (.v (.cons (.loc1 I (.mp I (GMap.wfm _)) I) .nil))) .nil)) I (zdc _ _ _ _ (λq0 y hq=>⟨_,_,I,K246,zgb _ q0 _ _ _ hq⟩) _ q180))<|.A 1 I<|.nil<|.ztM I h (λh=>.region<|.A 2 I<|.mapDel (k:=en_175.2.1) I I I U283 KT3 I I I<|.nil (ndE h I)) λh=>.skip (ndE h I)
    · refine .exit<|.S 1 I<|.p I (.mapLen I U283 I I)<|.A 2 I<|.nil<|.ret (rO h I)
theorem zhQ:Kd1 162 zeX Model.enc .bool:=λn t0 r h=>.ot Tryz.func162 I Tryz.ntmps162 I λA w=>.sA 2 I<|.seq<|.seq<|.plain 18 I<|.A 4 I<|.Z h I (zfu _ _ _) λx1 h=>.A 2 I<|.jO 4 (decide (24<(t0.ztX.length:Int))) I (λb2=>.A 2 I<|.qe I<|.A 1 I<|.nil I) <| .A 1 I<|gK h λc4 h=>.jO 4 (!((zap n t0.ztX).getD default)) I (λb3=>.A 2 I<|.q I (.call I (zt1 I) I (zfM _ _ _ (zt0 (impF c4 b3))))<|.A 1 I<|.nil I) <| .nil<|.nil<|.K [1,21] I<|.ztM I h (λh=>.sA 1 I<|.ret (rO h I)) λh=>.skip<|.seq<|.dr 9<|.A 5 I<|.Z h I (zgz _ _ _ _) λx5 h=>.p I (.B (zuD.enc ⟨t0,x5⟩) Zc255 I)<|.alloc I I I I ZZ255<|.store I I I I I I Z255<|.nil<|.zud [0] (.cons (t:=3) (d:=.ref (zuD.enc (⟨t0,x5⟩:zuD))) I (.loc (zuG I) I (.v (.v (.v (.v (.v (.v (.v .v1)))))))) .nil)<|.nil<|.seq<|.plain 14 I<|.A 1 I<|.Z h I (ze9 _ _) λx6 h=>.A 1 I<|gK h λc8 h=>.jA 2 (((zK n (⟨t0,x5⟩:zuD)).getD default)) I (λb7=>.A 1 I<|.q I (.call I (zt1 I) I (zfw _ _ _ (zt0 (impT c8 b7))))<|.nil I) <| .A 1 I<|gK h λc10 h=>.jA 2 (((zC n (⟨t0,x5⟩:zuD)).getD default)) I (λb9=>.A 1 I<|.q I (.call I (zt1 I) I (zgu _ _ _ (zt0 (impT c10 b9))))<|.nil I) <| .A 1 I<|gK h λc12 h=>.jA 2 (((zg n (⟨t0,x5⟩:zuD)).getD default)) I (λb11=>.A 1 I<|.q I (.call I (zt1 I) I (zgZ _ _ _ (zt0 (impT c12 b11))))<|.nil I) <| .nil<|.A 1 I<|.nil<|.K [2] I<|.ret (rO h I)
theorem zkR (n t0 r) (h:zq n t0=some r):Pure pg 112 [Model.enc t0] (.tup [optD zu7.enc r.1,.bool r.2]):=by
  refine Pure.ot Tryz.func112 I Tryz.ntmps112 I λA w=>.sA 3 I<|.seq<|.S 1 I<|.Z h I (zhQ _ _) λx1 h=>.A 1 I<|.nil<|.ztM I h (λh=>.sA 2 I<|.ret <| by cases h;exact zfo I I (.d _) (.d _)) λh=>.skip<|.S 1 I<|.p I (.build I Pl218 (.agg Zc218 (ds':=[_,_,_,_,_,_,_,.val (.slice none 0 0),.val (.slice none 0 0)]) (.e (.e (.e (.e (.e (.e (.e (.e .e1))))))))) I I)<|.box I I I I I (.ofD I)<|.zuC 0 7 2 221 I I<|.zuC 0 8 2 221 I I<|.A 1 I<|.nil<|.seq<|.S 2 I<|.e I<|.A 1 I<|.nil<|.block<|.L [1,4,23,24] h (λv=>[(25,.d (.int v.2.2))]) (λv=>[(0,.box 218 [.d (eA t0.ztR),.d (eB t0.tables),.d (eC t0.ztX),.d (eD t0.constraints),.d (eE t0.ztN),.d (eF t0.ztL),.d (eG t0.zt3),.vec 1 (List.length v.1),.vec 2 (List.length v.2.1)]),(1,wE1 v.1),(2,wE1 v.2.1)]) I λ_ ⟨b1_452,b2_453,x454⟩ h=>.sA 1 I<|.K [1,4,23,24,25,26] I<|.seq<|.ztM I h (λh=>?_) λh=>?_
  · refine .skip<|.seq<|.block<|.S 1 I<|.X h I λx456 h=>.A 1 I<|.zua I I I I (.agg Zc107 (ds':=[.str [],.int 0,eA [],.int 0,.int 0,.int 0]) (.e (.e (.o (.e (.e .e1)))))) I<|.A 1 I<|.so I<|.nil<|.sr<|.p I (.zuA [[]] I I E51 I .o1 (λ_=>I) I (enc:=eA))<|.A 1 I<|.nil<|.seq<|.S 2 I<|.e I<|.A 1 I<|.nil<|.block<|.L [1,4,5,6,23,24,25,32,33] h (λv=>[(7,.d (eN v.1)),(34,.d (.int v.2))]) (λv=>[]) I λ_ ⟨x585,x586⟩ h=>.sA 1 I<|.K [1,4,5,6,7,23,24,25,32,33,34,35] I<|.seq<|.ztM I h (λh=>?_) λh=>?_
    · refine .skip<|.seq<|.block<|.sr<|.X h I λx588 h=>.A 2 I<|.nil<|.S 1 I<|.zve 10 1 22 I<|.nil<|.seq<|.S 1 I<|.e I<|.A 1 I<|.nil<|.block<|.L [1,4,5,6,9,23,24,25,32,33,34,38,39] h (λv=>[(10,.vec 4 (List.length v.1)),(40,.d (.int v.2))]) (λv=>[(4,.vec 22 1 (List.map eA v.1))]) I λ_ ⟨b4_629,x630⟩ h=>.sA 1 I<|.K [1,4,5,6,9,10,23,24,25,32,33,34,38,39,40,41] I<|.seq<|.ztM I h (λh=>?_) λh=>?_
      · refine .skip<|.seq<|.block<|.sr<|.X h I λx632 h=>.A 2 I<|.nil<|.S 3 I<|.X h I λx633 h=>.A 2 I<|.nil<|.block<|.L [1,4,5,6,9,12,23,24,25,32,33,34,38,39,40,48] h (λv=>[(10,.vec 4 (List.length v.1)),(49,.d (.int v.2))]) (λv=>[(4,.vec 22 1 (List.map eA v.1))]) I λ_ ⟨b4_644,x645⟩ h=>.sA 1 I<|.K [1,4,5,6,9,10,12,23,24,25,32,33,34,38,39,40,48,49,50] I<|.seq<|.ztM I h (λh=>.skip<|.seq<|.block<|.sA 2 I<|.region<|.A 2 I<|bK h λx647 q647 h=>.clone (enc:=D.int) I I I I (zt1 I) Tryz.func163 I I I I E22 I (λ_=>I) (λ_=>I) q647 I I<|.A 1 I<|.p I (.ztY [_] I I E22 I (λ_=>I) I (enc:=D.int))<|bK h λx648 q648 h=>.app I I I I I I I I E22 I (λ_=>I) q648<|.zud [5] (.cons (t:=57) I (.vec (zuG I) I (by simp)) .nil)<|.p I (.ztY [_] I I E51 I (λ_=>I) I (enc:=eA))<|bK h λx649 q649 h=>.app I I I I I I I I E51 I (λ_=>I) q649<|.A 1 I<|.nil<|.rA 2 I (ndE h I)) λh=>.exit<|.rA 2 I (ndE h I)
      · refine .exit<|.region<|.A 1 I<|.zud [4] (.cons (t:=62) I (.vec (zuG I) I (by simp)) .nil)<|.A 1 I<|.nil<|.rA 2 I (ndE h I)
    · refine .exit<|.S 1 I<|.e I<|.A 1 I<|.nil<|.block<|.L [1,4,5,6,23,24,25,64,65] h (λv=>[(66,.d (.int v.2.2))]) (λv=>[(0,.box 218 [.d (eA t0.ztR),.d (eB t0.tables),.d (eC t0.ztX),.d (eD t0.constraints),.d (eE t0.ztN),.d (eF t0.ztL),.d (eG t0.zt3),.vec 1 (List.length v.1),.vec 2 (List.length v.2.1)]),(1,wE1 v.1),(2,wE1 v.2.1)]) I λ_ ⟨b1_668,b2_669,x670⟩ h=>.sA 1 I<|.K [1,4,5,6,23,24,25,64,65,66,67] I<|.seq<|.ztM I h (λh=>?_) λh=>?_
      · refine .skip<|.J [1,4,5,6,23,24,25,64,65,66] h (λv=>[]) (λv=>[(0,.box 218 [.d (eA t0.ztR),.d (eB t0.tables),.d (eC t0.ztX),.d (eD t0.constraints),.d (eE t0.ztN),.d (eF t0.ztL),.d (eG t0.zt3),.vec 1 (List.length v.1),.vec 2 (List.length v.2)]),(1,wE1 v.1),(2,wE1 v.2)]) I (λk_674 h=>.block<|.sr<|.X h I λx675 h=>.A 2 I<|.nil<|.sA 3 I<|.ztM I h (λh=>.region<|.A 7 I<|.p I (.B (Place.enc ⟨x454,x675⟩) Zc221 I)<|.p I (.ztY [_] I I E216 I (λ_=>I) I (enc:=Place.enc))<|bK h λx676 q676 h=>.app I I I I I I I I E216 I (λ_=>I) q676<|.A 2 I<|.store I I I I I I (.cons (.vec I (by simp)) .nil) C216 I (yf I)<|.nil (ndE h I)) λh=>.region<|.A 7 I<|.p I (.B (Place.enc ⟨x454,x675⟩) Zc221 I)<|.p I (.ztY [_] I I E216 I (λ_=>I) I (enc:=Place.enc))<|bK h λx677 q677 h=>.app I I I I I I I I E216 I (λ_=>I) q677<|.A 2 I<|.store I I I I I I (.cons (.vec I (by simp)) .nil) C216 I (yf I)<|.nil (ndE h I)) (λv h=>?_)
        obtain ⟨b1_672,b2_673⟩:=v
        refine .rA 2 I (ndE h I)
      · refine .exit<|.rA 2 I (ndE h I)
  · refine .exit<|.sA 3 I<|.ret <| by cases h;exact zfo I I (.loc I (.v (.v (.v (.v (.v (.v (.v (.cons (.vec I (by simp)) (.cons (.vec I (by simp)) .nil)))))))))) (.d _)
theorem zfV (n t0 t1 r) (h:zbx n t0 t1=some r):Pure pg 113 [.ref (zu7.enc t0),Question.enc t1] (.bool r):=by
  refine Pure.ot Tryz.func113 I Tryz.ntmps113 I λA w=>.sA 2 I<|.S 2 I<|.p I (.fa I (zqL _))<|.A 2 I<|.e I<|.A 1 I<|.nil<|.seq<|.seq<|.plain 26 I<|.A 4 I<|.jO 3 (decide (t1.f<0)) I (λb1=>.A 3 I<|.nil I) <| .A 1 I<|.jO 4 (decide ((t0.m.ztL.length:Int)≤t1.e)) I (λb2=>.A 4 I<|.nil I) <| .A 1 I<|.jO 4 (decide ((t0.m.ztL.length:Int)≤t1.f)) I (λb3=>.A 4 I<|.nil I) <| .A 1 I<|.jO 4 (decide (t1.target.index<0)) I (λb4=>.q I (.fa I (zwR _))<|.A 3 I<|.nil I) <| .nil<|.nil<|.K [0,3,37] I<|.ztM I h (λh=>.sA 1 I<|.ret (rO h I)) λh=>.skip<|.seq<|.sr<|.p I (.fa I (zwR _))<|.A 2 I<|.nil<|.ztM I h (λh=>.seq<|.dr 17<|.p I (.fa I (zwR _))<|.A 4 I<|.p I (.fa I (zqL _))<|.A 4 I<|.X h I λx5 h=>.p I (.fa I (zxp _))<|.A 2 I<|.e I<|.A 2 I<|.nil<|.nil<|.K [4] I<|.ret (rO h I)) λh=>.skip<|.seq<|.dr 18<|.A 6 I<|.jA 10 (decide (t1.target.index<(t0.m.constraints.length:Int))) I (λb6=>.q I (.fa I (zwR _))<|.A 4 I<|.q I (.fa I (zqL _))<|.A 2 I<|.qe I<|.A 1 I<|.nil I) <| .A 1 I<|.nil<|.nil<|.K [4] I<|.ret (rO h I)
theorem zj1:Kd2 51 zd6 Model.enc Question.enc .bool:=λn t0 t1 r h=>.ot Tryz.func51 I Tryz.ntmps51 I λA w=>.sA 3 I<|.S 1 I<|.Z h I (zkR _ _) λx1 h=>.A 5 I<|.nil<|.seq<|.plain 6 I<|.A 2 I<|gK h λc3 h=>gK h λc4 h=>.jA 3 (((zbx n ((x1.1).getD default) t1).getD default)) I (λb2=>.A 2 I<|.q I (.zwl I (zt1 I) I (.cons (.ofEq (zs1 (zt0 (impT c3 b2)))) .e1) (zfV _ _ _ _ (zt0 (impT c4 b2))))<|.nil I) <| .nil<|.A 1 I<|.nil<|.K [4] I<|.ret (rO h I)
theorem zlI:Kd2 114 zg1 Model.enc .bool eI:=λn t0 t1 r h=>.ot Tryz.func114 I Tryz.ntmps114 I λA w=>.S 1 I<|.p I (.nilS 2 (α:=Range) Range.enc I)<|.nil<|.seq<|.S 1 I<|.Z h I (zhQ _ _) λx1 h=>.A 1 I<|.nil<|.ztM I h (λh=>.sr<|.p I (.nilS 2 (α:=Range) Range.enc I)<|.nil<|.ret <| by cases h;exact zbU I (.d _)) λh=>.skip<|.S 5 I<|.Z h I (zgz _ _ _ _) λx2 h=>.A 1 I<|.nil<|.ret <| by cases h;exact zbU I (.d _)
theorem zlF:Kd1 52 zfh Model.enc eI:=λn t0 r h=>by
 refine .ot Tryz.func52 I Tryz.ntmps52 I λA w=>.S 1 I<|.p I (.nilS 2 (α:=Range) Range.enc I)<|.nil<|.S 1 I<|.Z h I (zlI _ _ _) λx1 h=>.A 1 I<|.nil<|.ret ?_
 cases h
 exact zbU I (.d _)
theorem zaU:Kd2 66 zL Action.enc .int .int:=λn t0 t1 r h=>.ot Tryz.func66 I Tryz.ntmps66 I λA w=>.sA 2 I<|.seq<|.sr<|.p I (.fa I (zxp _))<|.A 2 I<|.e I<|.A 1 I<|.nil<|.block<|.L [1,9,10] h (λv=>[(11,.d (.int v))]) (λv=>[]) I λ_ x5 h=>.sA 1 I<|.seq<|.ztM I h (λh=>.skip<|.seq<|.block<|.sr<|.X h I λx7 h=>.A 1 I<|.aS I<|.nil<|.sA 4 I<|.ztM I h (λh=>.sA 3 I<|.ret (rO h I)) λh=>.skip<|.rA 2 I (ndE h I)) λh=>.exit<|.sA 1 I<|.ret (rO h I)
theorem zbO:Kd2 53 zI Action.enc Row.enc .int:=λn t0 t1 r h=>.ot Tryz.func53 I Tryz.ntmps53 I λA w=>.sA 3 I<|.sA 1 I<|.seq<|.S 2 I<|.e I<|.A 1 I<|.nil<|.block<|.L [2,9,10] h (λv=>[(5,.d (.int v.1)),(11,.d (.int v.2))]) (λv=>[]) I λ_ ⟨x9,x10⟩ h=>.sA 1 I<|.seq<|.ztM I h (λh=>.skip<|.seq<|.block<|.sr<|.X h I λx12 h=>.A 1 I<|.aS I<|.nil<|.dr 10<|.A 6 I<|.Z h I (zaU _ _ _) λx13 h=>.A 3 I<|.nil<|.nil<|.rA 2 I (ndE h I)) λh=>.exit<|.sA 2 I<|.ret (rO h I)
theorem zfS:Kd2 115 zas eA .int .int:=λn t0 t1 r h=>.ot Tryz.func115 I Tryz.ntmps115 I λA w=>.sA 1 I<|.seq<|.S 1 I<|.e I<|.A 1 I<|.nil<|.block<|.L [0,1,7] h (λv=>[(8,.d (.int v))]) (λv=>[]) I λ_ x5 h=>.sA 1 I<|.seq<|.ztM I h (λh=>.skip<|.seq<|.block<|.sA 2 I<|.S 3 I<|.X h I λx7 h=>.A 2 I<|.nil<|.ztM I h (λh=>.sA 2 I<|.ret (rO h I)) λh=>.skip<|.rA 2 I (ndE h I)) λh=>.exit<|.sA 1 I<|.ret (rO h I)
theorem zc1:Kd2 54 zaE eA .int .bool:=λn t0 t1 r h=>.ot Tryz.func54 I Tryz.ntmps54 I λA w=>.sA 1 I<|.S 2 I<|.Z h I (zfS _ _ _) λx1 h=>.A 2 I<|.nil<|.ret (rO h I)
theorem zh7 (n t0 t1 r) (h:zer n t0 t1=some r):Pure pg 116 [.int t0,.ref (.int t1)] (.int r):=by
 refine Pure.ot Tryz.func116 I Tryz.ntmps116 I λA w=>.sA 1 I<|.sA 4 I<|.ret (rO h I)
theorem zjx (n:Nat) (t0:Int):Pure pg 57 [.int t0] (.fn (.func 116) [] [.ref (.int t0)]):=by
 refine Pure.ot Tryz.func57 I Tryz.ntmps57 I λA w=>.sA 2 I<|.sr<|.p I (.makeFunc I I)<|.A 1 I<|.nil<|.ret (zbU I (.d _))
theorem zcc (n t0) (t1:Int→Option Int) (t2:Int→Option Int) (F1:D) (hF1:∀ (q0:Int) (y:Int),t1 q0=some y→Dyn pg F1 [.int q0] (.int y)) (F2:D) (hF2:∀ (q0:Int) (y:Int),t2 q0=some y→Dyn pg F2 [.int q0] (.int y)) (r) (h:zU n t0 t1 t2=some r):Pure pg 55 [Row.enc t0,F1,F2] (Row.enc r):=by
  refine Pure.ot Tryz.func55 I Tryz.ntmps55 I λA w=>.S 1 I<|.zua I I I I (.agg Zc55 (ds':=[eJ [],.int 0]) (.o .e1)) I<|.nil<|.S 3 I<|bK h λx1 q1 h=>.p I (.dyn I I I (hF2 _ _ q1))<|.p I (.build I Pl55 (.agg Zc55 (ds':=[.val (.slice none 0 0),_]) (.e .e1)) I I)<|.zua I I I I (.agg Zc55 (ds':=[.val (.slice none 0 0),.int 0]) (.e .e1)) I<|.zuC 1 0 2 109 I I<|.so I<|.zuC 1 0 2 109 I I<|.nil<|.seq<|.S 2 I<|.e I<|.A 1 I<|.nil<|.K [1,6,7,16,17,18] I<|.block<|.L [1,6,7,16,17] h (λv=>[(18,.d (.int v.2))]) (λv=>[(1,.box 55 [.vec 3 (List.length v.1),.d (.int x1)]),(3,.vec 109 2 (List.map Term.enc v.1))]) I λ_ ⟨b3_12,x13⟩ h=>.sA 1 I<|.K [1,6,7,16,17,18,19] I<|.seq<|.ztM I h (λh=>.skip<|.seq<|.block<|.sr<|.X h I λx15 h=>.A 1 I<|.aS I<|.nil<|.dr 10<|.A 7 I<|bK h λx16 q16 h=>.p I (.dyn I I I (hF1 _ _ q16))<|.p I (.B (Term.enc ⟨x15.cell,x16⟩) zxZ I)<|.p I (.ztY [_] I I E53 I (λ_=>I) I (enc:=Term.enc))<|.nil<|bK h λx17 q17 h=>.app I I I I I I I I E53 I (λ_=>I) q17<|.A 1 I<|.store I I I I I I (.cons (.vec I (by simp)) .nil) C53 I (yf I)<|.nil<|.K [1,6,7,16,17,18] I<|.rA 2 I (ndE h I)) λh=>.exit<|.sr<|.p I (.zue I I I Y55 (yf I) I)<|.store I I I I I I (.cons (.vec I (by simp)) (.cons (.d I) .nil)) C55 I (yf I)<|.nil<|.ret <| by cases h;exact zet I I Y55 (.cons (.vec I (by simp)) .v1)
theorem zdS:Kd1 56 zbr .int .int:=λn t0 r h=>.ot Tryz.func56 I Tryz.ntmps56 I λA w=>.sA 1 I<|.sA 2 I<|.ret (rO h I)
theorem zdA (n t0 t1 r) (h:zam n t0 t1=some r):Pure pg 61 [.int t0,.ref (.int t1)] (.int r):=by
 refine Pure.ot Tryz.func61 I Tryz.ntmps61 I λA w=>.sA 1 I<|.S 1 I<|.p I (.neg6 I I)<|.A 4 I<|.nil<|.ret (rO h I)
theorem zex:Kd1 60 zaN .int .int:=λn t0 r h=>.ot Tryz.func60 I Tryz.ntmps60 I λA w=>.sA 1 I<|.S 1 I<|.p I (.neg6 I I)<|.A 1 I<|.nil<|.ret (rO h I)
theorem zdB (n t0) (t1:Int→Option Int) (F1:D) (hF1:∀ (q0:Int) (y:Int),t1 q0=some y→Dyn pg F1 [.int q0] (.int y)) (r) (h:zH n t0 t1=some r):Pure pg 62 [Constraint.enc t0,F1] (zuc.enc r):=by
  refine Pure.ot Tryz.func62 I Tryz.ntmps62 I λA w=>.S 1 I<|.zua I I I I (.agg zx0 (ds':=[.int 0,.int 0,eA []]) (.e (.e .o1))) I<|.nil<|.S 4 I<|.p I (.build I Pl124 (.agg zx0 (ds':=[_,_,.val (.slice none 0 0)]) (.e (.e .e1))) I I)<|.zua I I I I (.agg zx0 (ds':=[.int 0,.int 0,.val (.slice none 0 0)]) (.e (.e .e1))) I<|.zuC 1 2 1 3 I I<|.so I<|.zuC 1 2 1 3 I I<|.nil<|.seq<|.sA 6 I<|.K [1,2,4,5,16,17] I<|.block<|.L [1,2,4,5,16] h (λv=>[(17,.d (.int v.2))]) (λv=>[(1,.box 124 [.d (.int t0.first),.d (.int t0.size),.vec 3 (List.length v.1)]),(3,.vec 3 1 (List.map D.int v.1))]) I λ_ ⟨b3_9,x10⟩ h=>.sA 1 I<|.K [1,2,4,5,16,17,18] I<|.seq<|.ztM I h (λh=>.skip<|.seq<|.block<|.sA 2 I<|.dr 10<|.A 7 I<|bK h λx12 q12 h=>.p I (.dyn I I I (hF1 _ _ q12))<|.A 1 I<|.p I (.ztY [_] I I E22 I (λ_=>I) I (enc:=D.int))<|.nil<|bK h λx13 q13 h=>.app I I I I I I I I E22 I (λ_=>I) q13<|.A 1 I<|.store I I I I I I (.cons (.vec I (by simp)) .nil) C22 I (yf I)<|.nil<|.rA 2 I (ndE h I)) λh=>.exit<|.sr<|.p I (.zue I I I Y124 (yf I) I)<|.store I I I I I I (.cons (.d I) (.cons (.d I) (.cons (.vec I (by simp)) .nil))) C124 I (yf I)<|.nil<|.ret <| by cases h;exact zet I I Y124 (.v (.v (.cons (.vec I (by simp)) .nil)))
theorem zgE:Kd1 63 zaT .int .int:=λn t0 r h=>.ot Tryz.func63 I Tryz.ntmps63 I λA w=>.sA 1 I<|.sA 1 I<|.ret (rO h I)
theorem zeO:Kd2 64 zz Action.enc Constraint.enc eA:=λn t0 t1 r h=>.ot Tryz.func64 I Tryz.ntmps64 I λA w=>.S 2 I<|.p I (.nilS 1 (α:=Int) D.int I)<|.nil<|.S 1 I<|.zve 5 1 3 I<|.nil<|.seq<|.sA 6 I<|.block<|.L [2,3,11] h (λv=>[(5,.vec 0 (List.length v.1)),(12,.d (.int v.2))]) (λv=>[(0,.vec 3 1 (List.map D.int v.1))]) I λ_ ⟨b0_13,x14⟩ h=>.sA 1 I<|.K [2,3,5,11,12,13] I<|.seq<|.ztM I h (λh=>.skip<|.J [2,3,11,12] h (λv=>[(5,.vec 0 (List.length v))]) (λv=>[(0,.vec 3 1 (List.map D.int v))]) I (λk_17 h=>.block<|.sA 2 I<|.S 5 I<|.Z h I (zaU _ _ _) λx18 h=>.A 1 I<|.nil<|.ztM I h (λh=>.region<|.A 2 I<|.p I (.ztY [_] I I E22 I (λ_=>I) I (enc:=D.int))<|bK h λx19 q19 h=>.app I I I I I I I I E22 I (λ_=>I) q19<|.A 1 I<|.nil (ndE h I)) λh=>.skip (ndE h I)) (λb0_16 h=>.rA 2 I (ndE h I))) λh=>.exit<|.sA 2 I<|.ret <| by cases h;exact zbU I (.vec I (by simp))
theorem zgF (n t0 t1 r) (h:zP n t0 t1=some r):Pure pg 65 [.int t0,.ref (Action.enc t1)] (.int r):=by
 refine Pure.ot Tryz.func65 I Tryz.ntmps65 I λA w=>.sA 1 I<|.S 2 I<|.Z h I (zaU _ _ _) λx1 h=>.A 1 I<|.nil<|.ret (rO h I)
theorem zgG (n t0 t1 r) (h:zac n t0 t1=some r):Pure pg 67 [.int t0,.ref (Action.enc t1)] (.int r):=by
 refine Pure.ot Tryz.func67 I Tryz.ntmps67 I λA w=>.sA 1 I<|.S 2 I<|.Z h I (zaU _ _ _) λx1 h=>.A 1 I<|.nil<|.ret (rO h I)
theorem zew (n t0 t1 t2 t3 r) (h:zaM n t0 t1 t2 t3=some r):Pure pg 117 [.int t0,.ref (Action.enc t1),.ref (Constraint.enc t2),.ref (Action.enc t3)] (.int r):=by
 refine Pure.ot Tryz.func117 I Tryz.ntmps117 I λA w=>.sA 1 I<|.seq<|.dr 14<|.A 5 I<|.Z h I (zaU _ _ _) λx1 h=>.A 5 I<|.Z h I (zaU _ _ _) λx2 h=>.A 2 I<|.nil<|.nil<|.ret (rO h I)
theorem zgK (n t0 t1 r) (h:zb2 n t0 t1=some r):Pure pg 165 [.int t0,eH t1] (.tup [zuQ.enc r.1,.bool r.2]):=by
  refine Pure.ot Tryz.func165 I Tryz.ntmps165 I λA w=>.sr<|.zua I I I I (.agg Zc223 (ds':=[.int 0,eH []]) (.e .o1)) I<|.A 1 I<|.nil<|.seq<|.plain 17 I<|.A 2 I<|.p I (.B (zuQ.enc ⟨t0,t1⟩) Zc223 I)<|.A 3 I<|.jA 2 (decide (t0≤6)) I (λb1=>.A 2 I<|.nil I) <| .A 1 I<|.jA 6 ((t1.length:Int)==(ztZ t0 t0)) I (λb2=>.A 1 I<|.qe I<|.A 4 I<|.nil I) <| .nil<|.so I<|.A 1 I<|.nil<|.K [4,5] I<|.ret <| by cases h;exact za6 I I Y223 (.v .v1) I (.d _)
theorem zey:Kd3 211 zaO zuQ.enc .int .int .bool:=λn t0 t1 t2 r h=>.ot Tryz.func211 I Tryz.ntmps211 I λA w=>.sA 2 I<|.S 8 I<|.X h I λx1 h=>.A 2 I<|.nil<|.ret (rO h I)
section
variable [Drw]
theorem znd:Kd1 214 zc2 eA .int:=λn t0 r h=>.ot Tryz.func214 I Tryz.ntmps214 I λA w=>.sA 1 I<|.sA 1 I<|.seq<|.S 1 I<|.e I<|.A 1 I<|.nil<|.block<|.L [3,6,7] h (λv=>[(8,.d (.int v))]) (λv=>[]) I λ_ x5 h=>.sA 1 I<|.seq<|.ztM I h (λh=>.skip<|.seq<|.block<|.sr<|.X h I λx7 h=>.A 2 I<|.nil<|.sA 3 I<|.ztM I h (λh=>.sA 2 I<|.ret (rO h I)) λh=>.skip<|.rA 2 I (ndE h I)) λh=>.exit<|.sA 2 I<|.ret (rO h I)
end
section
variable [Drw]
theorem ziC:Kd2 168 zcg eA eA .int:=λn t0 t1 r h=>.ot Tryz.func168 I Tryz.ntmps168 I λA w=>.sA 1 I<|.S 1 I<|.e I<|.A 1 I<|.e I<|.Z h I (zfd _ _ _) λx1 h=>.A 2 I<|.Z h I (zc9 _ _ _) λx2 h=>.p I (.ztY [_,_] I I E22 I (λ_=>I) I (enc:=D.int))<|.Z h I (znd _ _) λx3 h=>.A 1 I<|.nil<|.ret (rO h I)
end
abbrev LI (l:List Int):D:=.sl 1 (l.map D.int)
abbrev yfn (l:Nat):D:=.fn (.yield l) [] []
abbrev HT (out:List (List Int)):List Blk:=[.box 51 [.vec 1 out.length],.vec 22 1 (out.map LI)]
abbrev HH (g:zuQ) (l:Nat) (out:List (List Int)):List Blk:=[.box 51 [.vec 1 out.length],.vec 22 1 (out.map LI),.box 60 [.fn (.func 210) [] [.d (.ref g.enc),.d (.ref (yfn l)),.loc 2 0]]]
theorem dK210:ztT pg 210=true:=by kernel_rfl
theorem dK166:ztT pg 166=true:=by kernel_rfl
theorem dK167:ztT pg 167=true:=by kernel_rfl
theorem dK168:ztT pg 168=true:=by kernel_rfl
theorem dK165:ztT pg 165=true:=by kernel_rfl
theorem zx7:ztT pg 211=true:=by kernel_rfl
theorem dK54:ztT pg 54=true:=by kernel_rfl
theorem zxs:ztT pg 163=true:=by kernel_rfl
theorem dY60:zZ pg 60=some none:=by kernel_rfl
theorem dY51:zZ pg 51=some none:=by kernel_rfl
theorem dC60:cellsOf pg 60=some 1:=by kernel_rfl
theorem dC51:cellsOf pg 51=some 1:=by kernel_rfl
theorem dZa60:zbC pg 60=some .nilFunc:=by kernel_rfl
theorem dZa51:zbC pg 51=some (.slice none 0 0):=by kernel_rfl
theorem dZ223:zcd pg 223 (some 2)=true:=by kernel_rfl
def Tryz.zxU:Go.Shelf.Ren:=⟨fun | 6=>167 | 15=>213 | 14=>212 | 28=>256 | 29=>257 | 20=>248 | 21=>249 | 22=>250 | 23=>251 | 24=>252 | 25=>253 | 26=>254 | 27=>255 | 46=>282 | 47=>283 | 48=>284 | 49=>285 | 50=>286 | 57=>296 | n=>n,fun | 22=>51 | 24=>22 | 25=>166 | 3=>3 | 39=>260 | 0=>0 | 53=>296 | 55=>298 | 4=>4 | 46=>290 | 45=>289 | 50=>160 | 5=>5 | 9=>9 | 66=>317 | 70=>279 | 76=>328 | 77=>302 | n=>n,fun | n=>n⟩
theorem Tryz.sortLL:Go.Proofs.SlLaysF.n6 pg Tryz.zxU:=by
 constructor <;> first | kernel_rfl | (intro w;kernel_rfl) | exact zsu (by kernel_rfl) (by kernel_rfl) (by kernel_rfl)
theorem dE51:zbq pg 51 22 1 24=true:=by kernel_rfl
theorem Tri.seqJ [ztS] {P} {C} {Q} {s} {x y} (J) (hy:∀ s,J s→Tri P C y Q s) (hx:Tri P C x (zwL J Q) s):Tri P C (.seq x y) Q s:=
 .seq (hx.mono λe s h=>by cases e <;> first | exact hy s h | exact h)
theorem TriL.visit {G:ztS} {g} {l} {rec} {xs} {out out2} {T1}
  (IH:∀ (A0 own0) (w0) (gh),zvW ⟨A0,own0,w0,57,λ_ _=>False,gh,3,[]⟩ l rec T1→Tri pg ⟨A0,own0,w0,57,λ_ _=>False,gh,3,[]⟩ (ziw pg 210) (retV [.tmp 5] λv H2=>v = .d (.bool true)∧∃ X,H2=HH g l out2++X)
   ⟨zbQ 0 [.d (LI xs),.d (.ref g.enc),.d (.ref (yfn l)),.loc 2 0],HH g l out⟩)
  {C} {ops} {o:Oper} {rest} {Q} {T} {d:Nat} (hg:o.guard=none) (hd:o.dst=some d) (hdn:Nat.blt d C.n=true) (hc:zvx pg o (ev T) 210 [.d (LI xs),.d (.ref g.enc),.d (.ref (yfn l)),.loc 2 0])
  (hu:(T.all λp=>p.2.under 3)=true) (hgn:Nat.ble C.gn 3=true) (hs:zvW C l rec T1) (hT:Sub ((d,.d (.bool true))::T) ((d,.d (.bool true))::T))
  (kk:TriL pg C ops rest Q ⟨(d,.d (.bool true))::T,HH g l out2⟩):TriL pg C ops (o::rest) Q ⟨T,HH g l out⟩:=by
 refine TriL.zya (rs:=[.tmp 5]) hg (by grind [zup]) hc Tryz.func210 rfl Tryz.ntmps210 rfl rfl hu hgn λown0 w gh f c=>?_
 have a:=IH C.A0 own0 w gh ⟨f _ hs.1,λq h=>c _ (hs.2 q h)⟩
 rw [zcL Tryz.func210 rfl] at a
 refine a.mono λe s ⟨i,j,k,m,X,b⟩=>⟨i,j,k,?_⟩
 rw [m,b,hd]
 exact TriL.ge (t:=⟨(d,.d (.bool true))::T,HH g l out2⟩) ⟨X,rfl,rfl,by grind [V.under],hT⟩ hgn kk
set_option maxRecDepth 10000 in
theorem zoU {G1} [G:ztS] {l} {rec} {ia ib ic} {ra rb} (hGs : @ztS.gs G=(l,.loop rec)::@ztS.gs G1) (hGE:∀ q∈@ztS.gs G1,q.1≠l) (hsub:∀ p∈@ztS.gs globs,p∈@ztS.gs G)
  (hrec:rec.state = .ready∧rec.pending=none∧rec.params = #[19]∧rec.tmps.size=27) (hasg:rec.assign = .region ia ra.toArray false) (hbd:rec.body = .block ib (.region ic rb.toArray false)) (hda:(ra.all zdY)=true) (hdb:(rb.all zdY)=true) (n) (g)
  (hY:∀ (A0 own0) (w) (gh) (out out') (z),app 24 out [z]=some out'→@TriL G1 _ pg ⟨A0,own0,w,27,λ_ _=>False,gh,3,[]⟩ ra.toArray ra (λe s1=>e = .normal∧∀ (own0) (w),
   @TriL G1 _ pg ⟨A0,own0,w,27,λ_ _=>False,gh,3,[]⟩ rb.toArray rb (λe s2=>e = .normal∧s2.H=HH g l out') s1) ⟨(19,.d (LI z))::[(7,.loc 0 0)],HH g l out⟩) :
  ∀ (k) (xs) (out out2),zD n g k xs out=some out2→∀ (A0 own0) (w0) (gh),zvW ⟨A0,own0,w0,57,λ_ _=>False,gh,3,[]⟩ l rec [(7,.loc 0 0)] →
   Tri pg ⟨A0,own0,w0,57,λ_ _=>False,gh,3,[]⟩ (ziw pg 210) (retV [.tmp 5] λv H2=>v = .d (.bool true)∧∃ X,H2=HH g l out2++X) ⟨zbQ 0 [.d (LI xs),.d (.ref g.enc),.d (.ref (yfn l)),.loc 2 0],HH g l out⟩
 | 0,xs,out,out2,h,_,_,_,_,_=>by grind [zD]
 | k+1,xs,out,out2,h,A0,own0,w0,gh,hs=>by
  have hasP:∀ n (g:zuQ) a b r,zaO n g a b=some r→Pure pg 211 [zuQ.enc g,.int a,.int b] (.bool r):=λ_ _ _ _ _ h=>Pure.widen hsub (zey _ _ _ _ _ h)
  have hasP:∀ n a b r,zaO n g a b=some r→Pure pg 211 [zuQ.enc g,.int a,.int b] (.bool r):=λn a b r h=>hasP n g a b r h
  have contP:∀ n b r,zaE n xs b=some r→Pure pg 54 [eA xs,.int b] (.bool r):=λ_ _ _ h=>Pure.widen hsub (zc1 _ _ _ _ h)
  have cloneP:∀ ys zs,app 8 [] ys=some zs→Pure pg 163 [eA ys] (eA zs):=λ_ _ h=>zqp Tryz.func163 rfl Tryz.ntmps163 rfl E22 rfl (λ_=>rfl) (λ_=>rfl) h
  have hgn3:Nat.ble (Ctx.gn ⟨A0,own0,w0,57,λ_ _=>False,gh,3,[]⟩) 3=true:=rfl
  have IH:=zoU hGs hGE hsub hrec hasg hbd hda hdb n g hY k
  rw [zcL Tryz.func210 rfl]
  simp only [zD] at h
  refine .sr <| .z I <| .nil <| .sr <| .m I <| .m I <| .p I (.len I U22 I) <| .p I (.sb I) <| bK h λlast ql h=>.p I (.ix I U22 S3 ql) <| .p I (.ld Y3 I) <| .z I <| .nil ?_
  obtain ⟨first,qf,h⟩:=zvq h
  obtain ⟨e,he,h⟩:=zvq h
  refine Tri.seqJ (λs=>∃ out1,ztO (zD.l1 n g (zD n g k) xs last) n (ztJ first 1,out1)=some out2∧s=⟨[(0,.d (LI xs)),(1,.d (.ref g.enc)),(2,.d (.ref (yfn l))),(3,.loc 2 0),(6,.d (.int last)),(26,.d (.bool false))],HH g l out1⟩) ?_ ?_
  ·rintro s ⟨out1,h,rfl⟩
   refine .seq <| .seq <| .region <| .m I <| .p I (.ix I U22 S3 qf) <| .p I (.ld Y3 I) <| .p I (.ad I) <| .z I <| .nil ?_
   refine .block <| .loopS [0,1,2,3,6] (λ(v:Int×List (List Int))=>[(7,.d (.int v.1))]) (λv=>[(0,.box 51 [.vec 1 v.2.length]),(1,.vec 22 1 (v.2.map LI))]) (.c4 I <| .c I .nil) h ⟨_,Fz8 I <| FzE⟩ (λrec' v h=>?_)
   refine .seq <| .seq <| .region <| .m I <| .p I (.fa I (zss _)) <| .p I (.ld Y3 I) <| .p I (.ls I) <| .nil <| .keep (HH g l v.2) [0,1,2,3,6,7,34] (.c4 I <| .c2 I <| .c I .nil) I <| .ztM I h (λh=>?_) λh=>?_
   ·obtain ⟨e2,he2,h⟩:=zvq h
    refine .skip <| Tri.seqJ (λs=>∃ out1,rec' (ztJ v.1 1,out1)=some out2∧s=⟨[(0,.d (LI xs)),(1,.d (.ref g.enc)),(2,.d (.ref (yfn l))),(3,.loc 2 0),(6,.d (.int last)),(7,.d (.int v.1)),(56,.d (.bool false))],HH g l out1⟩) ?_ ?_
    ·rintro s ⟨out1,h,rfl⟩
     refine .region <| .m I <| .p I (.ad I) <| .z I <| .nil ⟨_,h,⟨_,Fz8 I <| FzE⟩⟩
    refine .block <| .seq <| .drawI 20 Hm I ?_
    cases e2 with
    | false=>
     rw [if_neg (by simp)] at h
     refine .first 1 rfl (by decide +kernel) rfl (.none rfl) ?_
     refine .first 2 rfl (by decide +kernel) rfl (.none rfl) ?_
     refine .step 0 [] (by decide +kernel) (.cons (i:=0) rfl (OneI.of rfl (.p I (.ld Y223 I) (.nil ⟨rfl,rfl⟩))) ?_ .nil)
     refine .step 3 [] (by decide +kernel) (.cons (i:=3) rfl (OneI.of rfl (.p I (.call I zx7 I (hasP _ _ _ _ he2)) (.nil ⟨rfl,rfl⟩))) ?_ .nil)
     refine .first 4 rfl (by decide +kernel) rfl (.none rfl) ?_
     refine .skip 5 rfl (by decide +kernel) rfl rfl (.some rfl) ?_
     refine .skip 6 rfl (by decide +kernel) rfl rfl (.some rfl) ?_
     refine .step 7 [] (by decide +kernel) (.cons (i:=7) rfl (OneI.no rfl (.some rfl)) ?_ .nil)
     refine .skip 8 rfl (by decide +kernel) rfl rfl (.some rfl) ?_
     refine .step 9 [] (by decide +kernel) (.cons (i:=9) rfl (OneI.of rfl (.p I (.pick (b:=false) (v:=.d (.bool false)) I I (λh=>by cases h) (λ_=>rfl)) (.nil ⟨rfl,rfl⟩))) ?_ .nil)
     refine .first 10 rfl (by decide +kernel) rfl (.none rfl) ?_
     refine .skip 11 rfl (by decide +kernel) rfl rfl (.some rfl) ?_
     refine .skip 12 rfl (by decide +kernel) rfl rfl (.some rfl) ?_
     refine .skip 14 rfl (by decide +kernel) rfl rfl (.some rfl) ?_
     refine .skip 15 rfl (by decide +kernel) rfl rfl (.some rfl) ?_
     refine .step 13 [] (by decide +kernel) (.cons (i:=13) rfl (OneI.no rfl (.some rfl)) ?_ .nil)
     refine .step 16 [] (by decide +kernel) (.cons (i:=16) rfl (OneI.no rfl (.some rfl)) ?_ .nil)
     refine .step 17 [] (by decide +kernel) (.cons (i:=17) rfl (OneI.no rfl (.some rfl)) ?_ .nil)
     refine .skip 18 rfl (by decide +kernel) rfl rfl (.some rfl) ?_
     refine .step 19 [] (by decide +kernel) (.cons (i:=19) rfl (OneI.of rfl (.p I (.pick (b:=false) (v:=.d (.bool false)) I I (λh=>by cases h) (λ_=>rfl)) (.nil ⟨rfl,rfl⟩))) ?_ .nil)
     refine .done (by decide +kernel) ?_
     refine .keep (HH g l v.2) [0,1,2,3,6,7,56] (.c4 I <| .c2 I <| .c I .nil) I ?_
     refine .cond (t:=false) rfl (λh=>by cases h) (λ_=>.skip ?_)
     exact ⟨_,h,rfl⟩
    | true=>
     rw [if_pos rfl] at h
     obtain ⟨f,hf,h⟩:=zvq h
     cases f with
     | true=>
      rw [if_pos rfl] at h
      refine .first 1 rfl (by decide +kernel) rfl (.none rfl) ?_
      refine .first 2 rfl (by decide +kernel) rfl (.none rfl) ?_
      refine .step 0 [] (by decide +kernel) (.cons (i:=0) rfl (OneI.of rfl (.p I (.ld Y223 I) (.nil ⟨rfl,rfl⟩))) ?_ .nil)
      refine .step 3 [] (by decide +kernel) (.cons (i:=3) rfl (OneI.of rfl (.p I (.call I zx7 I (hasP _ _ _ _ he2)) (.nil ⟨rfl,rfl⟩))) ?_ .nil)
      refine .first 4 rfl (by decide +kernel) rfl (.none rfl) ?_
      refine .first 5 rfl (by decide +kernel) rfl (.some rfl) ?_
      refine .first 6 rfl (by decide +kernel) rfl (.some rfl) ?_
      refine .step 7 [] (by decide +kernel) (.cons (i:=7) rfl (OneI.ofG rfl (.some rfl) (.p I (.call I dK54 I (contP _ _ _ hf)) (.nil ⟨rfl,rfl⟩))) ?_ .nil)
      refine .step 8 [] (by decide +kernel) (.cons (i:=8) rfl (OneI.ofG rfl (.some rfl) (.p I (.nt I) (.nil ⟨rfl,rfl⟩))) ?_ .nil)
      refine .step 9 [] (by decide +kernel) (.cons (i:=9) rfl (OneI.of rfl (.p I (.pick (b:=true) (v:=.d (.bool false)) I I (λ_=>rfl) (λh=>by cases h)) (.nil ⟨rfl,rfl⟩))) ?_ .nil)
      refine .first 10 rfl (by decide +kernel) rfl (.none rfl) ?_
      refine .skip 11 rfl (by decide +kernel) rfl rfl (.some rfl) ?_
      refine .skip 12 rfl (by decide +kernel) rfl rfl (.some rfl) ?_
      refine .skip 14 rfl (by decide +kernel) rfl rfl (.some rfl) ?_
      refine .skip 15 rfl (by decide +kernel) rfl rfl (.some rfl) ?_
      refine .step 13 [] (by decide +kernel) (.cons (i:=13) rfl (OneI.no rfl (.some rfl)) ?_ .nil)
      refine .step 16 [] (by decide +kernel) (.cons (i:=16) rfl (OneI.no rfl (.some rfl)) ?_ .nil)
      refine .step 17 [] (by decide +kernel) (.cons (i:=17) rfl (OneI.no rfl (.some rfl)) ?_ .nil)
      refine .skip 18 rfl (by decide +kernel) rfl rfl (.some rfl) ?_
      refine .step 19 [] (by decide +kernel) (.cons (i:=19) rfl (OneI.of rfl (.p I (.pick (b:=false) (v:=.d (.bool false)) I I (λh=>by cases h) (λ_=>rfl)) (.nil ⟨rfl,rfl⟩))) ?_ .nil)
      refine .done (by decide +kernel) ?_
      refine .keep (HH g l v.2) [0,1,2,3,6,7,56] (.c4 I <| .c2 I <| .c I .nil) I ?_
      refine .cond (t:=false) rfl (λh=>by cases h) (λ_=>.skip ?_)
      exact ⟨_,h,rfl⟩
     | false=>
      rw [if_neg (by simp)] at h
      obtain ⟨c2,hc2,h⟩:=zvq h
      obtain ⟨l2,hl2,h⟩:=zvq h
      obtain ⟨out3,ho3,h⟩:=zvq h
      refine TriI.via 3 (bN 20 131071) ⟨[(0,.d (LI xs)),(1,.d (.ref g.enc)),(2,.d (.ref (yfn l))),(3,.loc 2 0),(6,.d (.int last)),(7,.d (.int v.1)),(47,.d (.bool true)),(48,.fn (.func 210) [] [.d (.ref g.enc),.d (.ref (yfn l)),.loc 2 0]),(53,.d (LI l2))],HH g l v.2⟩ ?_ λtail=>?_
      ·have visitCall:∀ {C:Ctx} {ops:Array Oper} {o:Oper} {rest:List Oper} {Q:Exit→St→Prop} {T:List (Nat×V)} {d:Nat},o.guard=none→o.dst=some d→Nat.blt d C.n=true→zvx pg o (ev T) 210 [.d (LI l2),.d (.ref g.enc),.d (.ref (yfn l)),.loc 2 0]→(T.all λp=>p.2.under 3)=true→Nat.ble C.gn 3=true →
         zvW C l rec [(7,.loc 0 0)]→Sub ((d,.d (.bool true))::T) ((d,.d (.bool true))::T)→TriL pg C ops rest Q ⟨(d,.d (.bool true))::T,HH g l out3⟩→TriL pg C ops (o::rest) Q ⟨T,HH g l v.2⟩:=λa1 a2 a3 a4 a5 a6 a7 a8 a9=>TriL.visit (IH _ _ _ ho3) a1 a2 a3 a4 a5 a6 a7 a8 a9
       refine .step 17 [] (by decide +kernel) (.cons (i:=17) rfl (OneI.ofG rfl (.some rfl) (visitCall rfl rfl rfl (zvx.clos (xs:=[.d (LI l2)]) (caps:=[.d (.ref g.enc),.d (.ref (yfn l)),.loc 2 0]) rfl rfl dK210 rfl) rfl rfl hs (Fz8 I <| Fz2 I trivial) (.nil ⟨rfl,rfl⟩))) ?_ .nil)
       refine .step 18 [] (by decide +kernel) (.cons (i:=18) rfl (OneI.ofG rfl (.some rfl) (.p I (.nt I) (.nil ⟨rfl,rfl⟩))) ?_ .nil)
       refine .step 19 [] (by decide +kernel) (.cons (i:=19) rfl (OneI.of rfl (.p I (.pick (b:=true) (v:=.d (.bool false)) I I (λ_=>rfl) (λh=>by cases h)) (.nil ⟨rfl,rfl⟩))) ?_ .nil)
       refine .done (by decide +kernel) ?_
       refine .keep (HH g l out3) [0,1,2,3,6,7,56] (.c4 I <| .c2 I <| .c I .nil) I ?_
       refine .cond (t:=false) rfl (λh=>by cases h) (λ_=>.skip ?_)
       exact ⟨_,h,rfl⟩
      refine .first 1 rfl (by decide +kernel) rfl (.none rfl) ?_
      refine .first 2 rfl (by decide +kernel) rfl (.none rfl) ?_
      refine .step 0 [] (by decide +kernel) (.cons (i:=0) rfl (OneI.of rfl (.p I (.ld Y223 I) (.nil ⟨rfl,rfl⟩))) ?_ .nil)
      refine .step 3 [] (by decide +kernel) (.cons (i:=3) rfl (OneI.of rfl (.p I (.call I zx7 I (hasP _ _ _ _ he2)) (.nil ⟨rfl,rfl⟩))) ?_ .nil)
      refine .first 4 rfl (by decide +kernel) rfl (.none rfl) ?_
      refine .first 5 rfl (by decide +kernel) rfl (.some rfl) ?_
      refine .first 6 rfl (by decide +kernel) rfl (.some rfl) ?_
      refine .step 7 [] (by decide +kernel) (.cons (i:=7) rfl (OneI.ofG rfl (.some rfl) (.p I (.call I dK54 I (contP _ _ _ hf)) (.nil ⟨rfl,rfl⟩))) ?_ .nil)
      refine .step 8 [] (by decide +kernel) (.cons (i:=8) rfl (OneI.ofG rfl (.some rfl) (.p I (.nt I) (.nil ⟨rfl,rfl⟩))) ?_ .nil)
      refine .step 9 [] (by decide +kernel) (.cons (i:=9) rfl (OneI.of rfl (.p I (.pick (b:=true) (v:=.d (.bool true)) I I (λ_=>rfl) (λh=>by cases h)) (.nil ⟨rfl,rfl⟩))) ?_ .nil)
      refine .first 10 rfl (by decide +kernel) rfl (.none rfl) ?_
      refine .first 12 rfl (by decide +kernel) rfl (.some rfl) ?_
      refine .first 14 rfl (by decide +kernel) rfl (.some rfl) ?_
      refine .step 11 [13,15] (by decide +kernel) (.cons (i:=11) rfl (OneI.ofG rfl (.some rfl) (.p I (.zuf I I I dY60 I) (.nil ⟨rfl,rfl⟩))) ?_ (.cons (i:=13) rfl (OneI.ofG rfl (.some rfl) (.clone I I I I zxs Tryz.func163 I Tryz.ntmps163 I I E22 I (λ_=>I) (λ_=>I) hc2 I hgn3 (.nil ⟨rfl,rfl⟩))) ?_ (.cons (i:=15) rfl (OneI.ofG rfl (.some rfl) (.p I (.ztY [_] I I E22 I (λ_=>I) I (enc:=D.int)) (.nil ⟨rfl,rfl⟩))) ?_ .nil)))
      ·refine .step 13 [15] (by decide +kernel) (.cons (i:=13) rfl (OneI.ofG rfl (.some rfl) (.clone I I I I zxs Tryz.func163 I Tryz.ntmps163 I I E22 I (λ_=>I) (λ_=>I) hc2 I hgn3 (.nil ⟨rfl,rfl⟩))) ?_ (.cons (i:=15) rfl (OneI.ofG rfl (.some rfl) (.p I (.ztY [_] I I E22 I (λ_=>I) I (enc:=D.int)) (.nil ⟨rfl,rfl⟩))) ?_ .nil))
       ·refine .step 15 [] (by decide +kernel) (.cons (i:=15) rfl (OneI.ofG rfl (.some rfl) (.p I (.ztY [_] I I E22 I (λ_=>I) I (enc:=D.int)) (.nil ⟨rfl,rfl⟩))) ?_ .nil)
        refine .step 16 [] (by decide +kernel) (.cons (i:=16) rfl (OneI.ofG rfl (.some rfl) (.app I I I I I I I I E22 I (λ_=>I) hl2 (.zud [3] (.cons (t:=53) rfl (.vec (zuG rfl) rfl (by simp)) .nil) (.nil ⟨rfl,rfl⟩)))) ?_ .nil)
        exact .zvU [0,1,2,3,6,7,47,48,53] (.c8 I <| .c I .nil) (.cut (HH g l v.2) ⟨_,rfl⟩ rfl rfl (Fz8 I <| FzE) hgn3 (.to _ (by decide +kernel) tail))
       ·refine .step 13 [] (by decide +kernel) (.cons (i:=13) rfl (OneI.ofG rfl (.some rfl) (.clone I I I I zxs Tryz.func163 I Tryz.ntmps163 I I E22 I (λ_=>I) (λ_=>I) hc2 I hgn3 (.nil ⟨rfl,rfl⟩))) ?_ .nil)
        refine .step 16 [] (by decide +kernel) (.cons (i:=16) rfl (OneI.ofG rfl (.some rfl) (.app I I I I I I I I E22 I (λ_=>I) hl2 (.zud [3] (.cons (t:=53) rfl (.vec (zuG rfl) rfl (by simp)) .nil) (.nil ⟨rfl,rfl⟩)))) ?_ .nil)
        exact .zvU [0,1,2,3,6,7,47,48,53] (.c8 I <| .c I .nil) (.cut (HH g l v.2) ⟨_,rfl⟩ rfl rfl (Fz8 I <| FzE) hgn3 (.to _ (by decide +kernel) tail))
      ·refine .step 11 [15] (by decide +kernel) (.cons (i:=11) rfl (OneI.ofG rfl (.some rfl) (.p I (.zuf I I I dY60 I) (.nil ⟨rfl,rfl⟩))) ?_ (.cons (i:=15) rfl (OneI.ofG rfl (.some rfl) (.p I (.ztY [_] I I E22 I (λ_=>I) I (enc:=D.int)) (.nil ⟨rfl,rfl⟩))) ?_ .nil))
       ·refine .step 15 [] (by decide +kernel) (.cons (i:=15) rfl (OneI.ofG rfl (.some rfl) (.p I (.ztY [_] I I E22 I (λ_=>I) I (enc:=D.int)) (.nil ⟨rfl,rfl⟩))) ?_ .nil)
        refine .step 16 [] (by decide +kernel) (.cons (i:=16) rfl (OneI.ofG rfl (.some rfl) (.app I I I I I I I I E22 I (λ_=>I) hl2 (.zud [3] (.cons (t:=53) rfl (.vec (zuG rfl) rfl (by simp)) .nil) (.nil ⟨rfl,rfl⟩)))) ?_ .nil)
        exact .zvU [0,1,2,3,6,7,47,48,53] (.c8 I <| .c I .nil) (.cut (HH g l v.2) ⟨_,rfl⟩ rfl rfl (Fz8 I <| FzE) hgn3 (.to _ (by decide +kernel) tail))
       ·refine .step 11 [16] (by decide +kernel) (.cons (i:=11) rfl (OneI.ofG rfl (.some rfl) (.p I (.zuf I I I dY60 I) (.nil ⟨rfl,rfl⟩))) ?_ (.cons (i:=16) rfl (OneI.ofG rfl (.some rfl) (.app I I I I I I I I E22 I (λ_=>I) hl2 (.zud [3] (.cons (t:=53) rfl (.vec (zuG rfl) rfl (by simp)) .nil) (.nil ⟨rfl,rfl⟩)))) ?_ .nil))
        ·refine .step 16 [] (by decide +kernel) (.cons (i:=16) rfl (OneI.ofG rfl (.some rfl) (.app I I I I I I I I E22 I (λ_=>I) hl2 (.zud [3] (.cons (t:=53) rfl (.vec (zuG rfl) rfl (by simp)) .nil) (.nil ⟨rfl,rfl⟩)))) ?_ .nil)
         exact .zvU [0,1,2,3,6,7,47,48,53] (.c8 I <| .c I .nil) (.cut (HH g l v.2) ⟨_,rfl⟩ rfl rfl (Fz8 I <| FzE) hgn3 (.to _ (by decide +kernel) tail))
        ·refine .step 11 [] (by decide +kernel) (.cons (i:=11) rfl (OneI.ofG rfl (.some rfl) (.p I (.zuf I I I dY60 I) (.nil ⟨rfl,rfl⟩))) ?_ .nil)
         exact .zvU [0,1,2,3,6,7,47,48,53] (.c8 I <| .c I .nil) (.cut (HH g l v.2) ⟨_,rfl⟩ rfl rfl (Fz8 I <| FzE) hgn3 (.to _ (by decide +kernel) tail))
      ·refine .step 11 [13] (by decide +kernel) (.cons (i:=11) rfl (OneI.ofG rfl (.some rfl) (.p I (.zuf I I I dY60 I) (.nil ⟨rfl,rfl⟩))) ?_ (.cons (i:=13) rfl (OneI.ofG rfl (.some rfl) (.clone I I I I zxs Tryz.func163 I Tryz.ntmps163 I I E22 I (λ_=>I) (λ_=>I) hc2 I hgn3 (.nil ⟨rfl,rfl⟩))) ?_ .nil))
       ·refine .step 13 [] (by decide +kernel) (.cons (i:=13) rfl (OneI.ofG rfl (.some rfl) (.clone I I I I zxs Tryz.func163 I Tryz.ntmps163 I I E22 I (λ_=>I) (λ_=>I) hc2 I hgn3 (.nil ⟨rfl,rfl⟩))) ?_ .nil)
        refine .step 16 [] (by decide +kernel) (.cons (i:=16) rfl (OneI.ofG rfl (.some rfl) (.app I I I I I I I I E22 I (λ_=>I) hl2 (.zud [3] (.cons (t:=53) rfl (.vec (zuG rfl) rfl (by simp)) .nil) (.nil ⟨rfl,rfl⟩)))) ?_ .nil)
        exact .zvU [0,1,2,3,6,7,47,48,53] (.c8 I <| .c I .nil) (.cut (HH g l v.2) ⟨_,rfl⟩ rfl rfl (Fz8 I <| FzE) hgn3 (.to _ (by decide +kernel) tail))
       ·refine .step 11 [16] (by decide +kernel) (.cons (i:=11) rfl (OneI.ofG rfl (.some rfl) (.p I (.zuf I I I dY60 I) (.nil ⟨rfl,rfl⟩))) ?_ (.cons (i:=16) rfl (OneI.ofG rfl (.some rfl) (.app I I I I I I I I E22 I (λ_=>I) hl2 (.zud [3] (.cons (t:=53) rfl (.vec (zuG rfl) rfl (by simp)) .nil) (.nil ⟨rfl,rfl⟩)))) ?_ .nil))
        ·refine .step 16 [] (by decide +kernel) (.cons (i:=16) rfl (OneI.ofG rfl (.some rfl) (.app I I I I I I I I E22 I (λ_=>I) hl2 (.zud [3] (.cons (t:=53) rfl (.vec (zuG rfl) rfl (by simp)) .nil) (.nil ⟨rfl,rfl⟩)))) ?_ .nil)
         exact .zvU [0,1,2,3,6,7,47,48,53] (.c8 I <| .c I .nil) (.cut (HH g l v.2) ⟨_,rfl⟩ rfl rfl (Fz8 I <| FzE) hgn3 (.to _ (by decide +kernel) tail))
        ·refine .step 11 [] (by decide +kernel) (.cons (i:=11) rfl (OneI.ofG rfl (.some rfl) (.p I (.zuf I I I dY60 I) (.nil ⟨rfl,rfl⟩))) ?_ .nil)
         exact .zvU [0,1,2,3,6,7,47,48,53] (.c8 I <| .c I .nil) (.cut (HH g l v.2) ⟨_,rfl⟩ rfl rfl (Fz8 I <| FzE) hgn3 (.to _ (by decide +kernel) tail))
   ·cases h
    refine .exit <| .sr <| .z I <| .nil <| .ret ⟨.inl rfl,[.d (.bool true)],⟨_,[],rfl,rfl,rfl⟩,rfl,[],rfl⟩
  ·refine .seq <| .drawI 13 Hm I ?_
   refine TriI.via 8 (bN 13 31) ⟨[(0,.d (LI xs)),(1,.d (.ref g.enc)),(2,.d (.ref (yfn l))),(3,.loc 2 0),(6,.d (.int last)),(14,.d g.enc),(15,.d (.int last)),(18,.d (.int first))],HH g l out⟩ ?_ λtail=>?_
   ·cases e with
    | false=>
     rw [if_neg (by simp)] at h
     refine .step 5 [] (by decide +kernel) (.cons (i:=5) rfl (OneI.of rfl (.p I (.call I zx7 I (hasP _ _ _ _ he)) (.nil ⟨rfl,rfl⟩))) ?_ .nil)
     refine .first 6 rfl (by decide +kernel) rfl (.none rfl) ?_
     refine .skip 7 rfl (by decide +kernel) rfl rfl (.some rfl) ?_
     refine .skip 8 rfl (by decide +kernel) rfl rfl (.some rfl) ?_
     refine .step 9 [] (by decide +kernel) (.cons (i:=9) rfl (OneI.no rfl (.some rfl)) ?_ .nil)
     refine .step 10 [] (by decide +kernel) (.cons (i:=10) rfl (OneI.no rfl (.some rfl)) ?_ .nil)
     refine .skip 11 rfl (by decide +kernel) rfl rfl (.some rfl) ?_
     refine .step 12 [] (by decide +kernel) (.cons (i:=12) rfl (OneI.of rfl (.p I (.pick (b:=false) (v:=.d (.bool false)) I I (λh=>by cases h) (λ_=>rfl)) (.nil ⟨rfl,rfl⟩))) ?_ .nil)
     refine .done (by decide +kernel) ?_
     refine .keep (HH g l out) [0,1,2,3,6,26] (.c4 I <| .c2 I .nil) I ?_
     refine .cond (t:=false) rfl (λh=>by cases h) (λ_=>.skip ?_)
     exact ⟨_,h,rfl⟩
    | true=>
     rw [if_pos rfl] at h
     obtain ⟨c,hc,h⟩:=zvq h
     obtain ⟨out1,ho1,h⟩:=zvq h
     refine TriI.via 3 (bN 13 1023) ⟨[(0,.d (LI xs)),(1,.d (.ref g.enc)),(2,.d (.ref (yfn l))),(3,.loc 2 0),(6,.d (.int last)),(20,.d (.bool true)),(21,.d (yfn l)),(23,.d (LI c))],HH g l out⟩ ?_ λtail2=>?_
     ·have yieldBody:=λown0 w gh=>hY A0 own0 w gh out out1 c ho1
      refine .step 10 [] (by decide +kernel) (.cons (i:=10) rfl (OneI.yield (G1:=G1) hGs hGE hrec hasg hbd hda hdb hs rfl rfl rfl rfl rfl rfl rfl (.some rfl) rfl rfl λown0 w gh=>yieldBody own0 w gh) ?_ .nil)
      refine .step 11 [] (by decide +kernel) (.cons (i:=11) rfl (OneI.ofG rfl (.some rfl) (.p I (.nt I) (.nil ⟨rfl,rfl⟩))) ?_ .nil)
      refine .step 12 [] (by decide +kernel) (.cons (i:=12) rfl (OneI.of rfl (.p I (.pick (b:=true) (v:=.d (.bool false)) I I (λ_=>rfl) (λh=>by cases h)) (.nil ⟨rfl,rfl⟩))) ?_ .nil)
      refine .done (by decide +kernel) ?_
      refine .keep (HH g l out1) [0,1,2,3,6,26] (.c4 I <| .c2 I .nil) I ?_
      refine .cond (t:=false) rfl (λh=>by cases h) (λ_=>.skip ?_)
      exact ⟨_,h,rfl⟩
     refine .step 5 [] (by decide +kernel) (.cons (i:=5) rfl (OneI.of rfl (.p I (.call I zx7 I (hasP _ _ _ _ he)) (.nil ⟨rfl,rfl⟩))) ?_ .nil)
     refine .first 6 rfl (by decide +kernel) rfl (.none rfl) ?_
     refine .first 8 rfl (by decide +kernel) rfl (.some rfl) ?_
     refine .step 7 [9] (by decide +kernel) (.cons (i:=7) rfl (OneI.ofG rfl (.some rfl) (.p I (.ld dY60 I) (.nil ⟨rfl,rfl⟩))) ?_ (.cons (i:=9) rfl (OneI.ofG rfl (.some rfl) (.p I (.call I zxs I (cloneP _ _ hc)) (.nil ⟨rfl,rfl⟩))) ?_ .nil))
     ·refine .step 9 [] (by decide +kernel) (.cons (i:=9) rfl (OneI.ofG rfl (.some rfl) (.p I (.call I zxs I (cloneP _ _ hc)) (.nil ⟨rfl,rfl⟩))) ?_ .nil)
      exact .zvU [0,1,2,3,6,20,21,23] (.c8 I .nil) (.to _ (by decide +kernel) tail2)
     ·refine .step 7 [] (by decide +kernel) (.cons (i:=7) rfl (OneI.ofG rfl (.some rfl) (.p I (.ld dY60 I) (.nil ⟨rfl,rfl⟩))) ?_ .nil)
      exact .zvU [0,1,2,3,6,20,21,23] (.c8 I .nil) (.to _ (by decide +kernel) tail2)
   refine .first 1 rfl (by decide +kernel) rfl (.none rfl) ?_
   refine .first 2 rfl (by decide +kernel) rfl (.none rfl) ?_
   refine .step 0 [3] (by decide +kernel) (.cons (i:=0) rfl (OneI.of rfl (.p I (.ld Y223 I) (.nil ⟨rfl,rfl⟩))) ?_ (.cons (i:=3) rfl (OneI.of rfl (.p I (.ix I U22 S3 qf) (.nil ⟨rfl,rfl⟩))) ?_ .nil))
   ·refine .step 3 [] (by decide +kernel) (.cons (i:=3) rfl (OneI.of rfl (.p I (.ix I U22 S3 qf) (.nil ⟨rfl,rfl⟩))) ?_ .nil)
    refine .step 4 [] (by decide +kernel) (.cons (i:=4) rfl (OneI.of rfl (.p I (.ld Y3 I) (.nil ⟨rfl,rfl⟩))) ?_ .nil)
    exact .zvU [0,1,2,3,6,14,15,18] (.c8 I .nil) (.to _ (by decide +kernel) tail)
   ·refine .step 0 [4] (by decide +kernel) (.cons (i:=0) rfl (OneI.of rfl (.p I (.ld Y223 I) (.nil ⟨rfl,rfl⟩))) ?_ (.cons (i:=4) rfl (OneI.of rfl (.p I (.ld Y3 I) (.nil ⟨rfl,rfl⟩))) ?_ .nil))
    ·refine .step 4 [] (by decide +kernel) (.cons (i:=4) rfl (OneI.of rfl (.p I (.ld Y3 I) (.nil ⟨rfl,rfl⟩))) ?_ .nil)
     exact .zvU [0,1,2,3,6,14,15,18] (.c8 I .nil) (.to _ (by decide +kernel) tail)
    ·refine .step 0 [] (by decide +kernel) (.cons (i:=0) rfl (OneI.of rfl (.p I (.ld Y223 I) (.nil ⟨rfl,rfl⟩))) ?_ .nil)
     exact .zvU [0,1,2,3,6,14,15,18] (.c8 I .nil) (.to _ (by decide +kernel) tail)
theorem zqr {G1} [G:ztS] {l} {rec} {ia ib ic} {ra rb} (hGs : @ztS.gs G=(l,.loop rec)::@ztS.gs G1) (hGE:∀ q∈@ztS.gs G1,q.1≠l) (hsub:∀ p∈@ztS.gs globs,p∈@ztS.gs G)
  (hrec:rec.state = .ready∧rec.pending=none∧rec.params = #[19]∧rec.tmps.size=27) (hasg:rec.assign = .region ia ra.toArray false) (hbd:rec.body = .block ib (.region ic rb.toArray false)) (hda:(ra.all zdY)=true) (hdb:(rb.all zdY)=true) (n) (g)
  (hY:∀ (A0 own0) (w) (gh) (out out') (z),app 24 out [z]=some out'→@TriL G1 _ pg ⟨A0,own0,w,27,λ_ _=>False,gh,3,[]⟩ ra.toArray ra (λe s1=>e = .normal∧∀ (own0) (w),
   @TriL G1 _ pg ⟨A0,own0,w,27,λ_ _=>False,gh,3,[]⟩ rb.toArray rb (λe s2=>e = .normal∧s2.H=HH g l out') s1) ⟨(19,.d (LI z))::[(7,.loc 0 0)],HH g l out⟩)
  (out) (h:ztO (zuk.l1 n g) n (0,[])=some out) (A0 own0) (w0) (gh) (hs:zvW ⟨A0,own0,w0,18,λ_ _=>False,gh,2,[]⟩ l rec [(7,.loc 0 0)]) :
  Tri pg ⟨A0,own0,w0,18,λ_ _=>False,gh,2,[]⟩ (ziw pg 166) (retV [] λ_ H2=>∃ X,H2=HT out++X) ⟨zbQ 0 [.d g.enc,.d (yfn l)],HT []⟩:=by
 rw [zcL Tryz.func166 rfl]
 refine .sr <| .p I (.bx I) <| .p I (.bx I) <| .nil <| .sr <| .alloc I I I I dZa60 <| .nil <| .sr <| .p I (.zu8 I I) <| .store I I I I I I (.cons .fn .nil) dC60 I (yf I) <| .nil <| .sr <| .p I (.fa I (zss _)) <| .p I (.ld Y3 I) <| .m I <| .nil ?_
 refine .block <| .loopS [2,3,4,8] (λv=>[(9,.d (.int v.1))]) (λv=>[(0,.box 51 [.vec 1 v.2.length]),(1,.vec 22 1 (v.2.map LI))]) (.c4 I .nil) h ⟨_,Fz8 I trivial⟩ (λb v h=>?_)
 refine .sr <| .p I (.ls I) <| .nil <| .keep (HH g l v.2) [2,3,4,8,9,10] (.c4 I <| .c2 I .nil) I <| .seq <| .ztM I h (λh=>?_) λh=>?_
 ·obtain ⟨c,a,h⟩:=zvq h
  refine .skip <| .seq <| .block <| .sr <| .m I <| .z I <| .nil <| .sr <| .p I (.zuf I I I dY60 I) <| .m I <| .p I (.ztY [_] I I E22 I (λ_=>I) I (enc:=D.int)) <| TriL.visit (zoU hGs hGE hsub hrec hasg hbd hda hdb n g hY n _ _ _ a) I I I (zvx.clos (xs:=[.d (LI [v.1])]) (caps:=[.d (.ref g.enc),.d (.ref (yfn l)),.loc 2 0]) I I dK210 I) I I hs (by repeat (first | exact trivial | refine ⟨rfl,?_⟩)) <| .p I (.nt I) <| .nil ?_
  refine .cond (t:=false) rfl (λh=>by cases h) (λ_=>.skip ?_)
  refine .region <| .p I (.ad I) <| .m I <| .nil ⟨_,h,⟨_,Fz8 I trivial⟩⟩
 ·cases h
  refine .exit ?_
  exact ⟨.inr rfl,[],rfl,_,rfl⟩
theorem zjA (n) (t0) (t1) (r) (h:zbF n t0 t1=some r):Pure pg 118 [.int t0,eH t1] (eN r):=by
 unfold zbF at h
 obtain ⟨o,ho,h⟩:=zvq h
 refine Pure.zxv Tryz.func118 rfl (by simp_all) λA w=>?_
 rw [Tryz.ntmps118]
 refine .sr <| .p I (.nilS 1 (α:=List Int) LI I) <| .nil <| .sr <| .m I <| .m I <| .p I (.call I dK165 I (zgK _ _ _ _ ho)) <| .m I <| .p I (.extract I I I) <| .p I (.extract I I I) <| .zvj I I I I I I I I (by simp) I I dZ223 <| .z I <| .nil ?_
 refine .seq <| .sr <| .m I <| .p I (.nt I) <| .nil <| .ztM I h (λh=>?_) λh=>?_
 ·refine .sr <| .p I (.nilS 1 (α:=List Int) LI I) <| .nil <| .ret ?_
  cases h
  exact zbU I (.d _)
 obtain ⟨out,ho2,hsort⟩:=zvq h
 refine .skip <| .sr <| .alloc I I I I dZa51 <| .zuC 0 0 1 22 rfl rfl <| .nil <| .keep (HT []) [5,7] (.c2 I .nil) I ?_
 refine Tri.rangeFunc (K:=λH2=>∃ X,H2=HT out++X) (.region <| .p I (.ld Y223 I) <| .p I (.zyh I I) <| .nil ⟨rfl,rfl⟩) rfl dK166 Tryz.func166 rfl Tryz.ntmps166 rfl rfl rfl ?_ ?_
 ·intro l Dd rec own0 w1 gh G' hne hG' hGl hrec hasg hbd hown hgh
  obtain ⟨G1,hG1⟩:∃ G1:ztS,@ztS.gs G1=(Dd,.deferred (some []))::@ztS.gs globs:=⟨⟨_⟩,rfl⟩
  have hGs : @ztS.gs G'=(l,.loop rec)::@ztS.gs G1:=by grind
  have ct:=@zqr G1 G' l rec _ _ _ _ _ hGs (λq hq=>by
   grind) (λp hp=>by grind) hrec hasg hbd rfl rfl n o.1 (λA0 own0 w gh out out' z hz=>?_) out ho2 A own0 w1 gh ⟨hown,λq hq=>by
    have:q=(7,.loc 0 0):=by grind
    subst this
    exact hgh 7 _ rfl⟩
  ·rw [zcL Tryz.func166 rfl] at ct
   exact ct
  ·refine .z I <| .nil ⟨rfl,λown0 w=>?_⟩
   refine .p I (.zuf I I I dY51 I) <| .m I <| .p I (.ztY [_] I I dE51 I (λ_=>I) I (enc:=LI)) <| .app I I I I I I I I dE51 I (λ_=>I) hz <| .store I I I I I I (.cons (.vec I ?_) .nil) dC51 I (yf I) <| .nil ⟨rfl,rfl⟩
   simp
 ·intro Dd H2 G' hG' ⟨X,hX⟩
  subst hX
  have hsub:∀ p∈@ztS.gs globs,p∈@ztS.gs G':=λp hp=>by rw [hG'];exact yX _ hp
  refine Tri.ge (t:=⟨[(7,.loc 0 0)],HT out⟩) ⟨X,rfl,rfl,rfl,rfl,trivial⟩ ?_ rfl
  refine .sr <| .p I (.zuf I I I dY51 I) <| .sort1 (enc:=LI) (l:=out) Tryz.sortLL I I I I dK167 dK168 I I I I (λ_=>I) (λ_=>I) hsort (λa b v hv=>@Pure.widen _ _ DT hsub _ _ _ _ (@ziC DT _ _ _ _ hv)) <| .nil <| .sr <| .p I (.zuf I I I dY51 I) <| .z I <| .nil <| .ret ⟨rfl,zbU I (.vec I ?_)⟩
  simp [zoO hsort]
end Go.Proofs.YtipkniadbkndfaaGreatDoor
