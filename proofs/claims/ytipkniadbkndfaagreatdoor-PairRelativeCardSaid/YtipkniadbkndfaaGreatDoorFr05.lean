/- Part of the proof of one law of the seat. -/
import Derived.Test.YtipkniadbkndfaaGreatDoorFr04
set_option linter.unusedVariables false
set_option linter.unusedSectionVars false
set_option linter.unusedSimpArgs false
set_option maxRecDepth 100000
set_option maxHeartbeats 40000000
namespace Go.Proofs.YtipkniadbkndfaaGreatDoor
open Go Go.RowKit
noncomputable section
def zhI (n:Nat):Option Model:=
 some ⟨[],[⟨[99],1,[],⟨0,3⟩,0⟩],[[99]],[⟨0,0,⟨[⟨0,(-1)⟩],0⟩,0,0⟩,⟨0,0,⟨[⟨0,1⟩],3⟩,0,0⟩],[⟨[116,119,111],false,[]⟩],[⟨0,[],⟨[⟨0,2⟩],[],[]⟩⟩],[]⟩
def zP.l1 (n:Nat) (t0:List Int) (t1:Int→Option Bool) (b:Int→Option Int) (a:Int) :=
 if (decide (a<t0.length)) then
 (idx t0 a).bind λc=>
 (t1 c).bind λd=>
 if d then
 some a
 else
 b (ztu a 1)
 else
 some (-1)
def zP (n:Nat) (t0:List Int) (t1:Int→Option Bool) :=
 ztz (zP.l1 n t0 t1) n 0
def zr (n:Nat) (t0:List Int) (t1:Int→Option Bool):Option Bool:=
 (zP n t0 t1).bind λa=>
 some (0≤a)
def zdS (n:Nat) (t0:Int) (t1:Int) (t2:Int) :=
 some ((t1≤t0)&&(t0≤t2))
def zft (n:Nat) (t0:Int) :=
 (zdS n t0 1 6).bind λa=>
 some (!a)
def zfs (n:Nat) (t0:List Int) :=
 (zr n t0 (λq0=>zft n q0)).bind λa=>
 some (!a)
def z9.l1 (n:Nat) (t0:List Bool) (t1:Bool) (b:Int→Option Int) (a:Int) :=
 if (decide (a<t0.length)) then
 (idx t0 a).bind λc=>
 if (t1==c) then
 some a
 else
 b (ztu a 1)
 else
 some (-1)
def z9 (n:Nat) (t0:List Bool) (t1:Bool) :=
 ztz (z9.l1 n t0 t1) n 0
def zbR (n:Nat) (t0:List Bool) (t1:Bool):Option Bool:=
 (z9 n t0 t1).bind λa=>
 some (0≤a)
def zfT (n:Nat) (t0:List Bool) :=
 (zbR n t0 false).bind λa=>
 some (!a)
def zdC (n:Nat) (t0:List UInt8) (t1:Int→Option Bool):Option (List (List UInt8)):=
 none
def zeF (n:Nat) (t0:Int) :=
 if (decide (wk .u32 t0≤255)) then
 jn (λv=>
 let b:=v
 if b then
 some true
 else
 some false) λa=>
 if (t0==9) then
 a (t0==9)
 else
 if (t0==10) then
 a (t0==10)
 else
 if (t0==11) then
 a (t0==11)
 else
 if (t0==12) then
 a (t0==12)
 else
 if (t0==13) then
 a (t0==13)
 else
 if (t0==32) then
 a (t0==32)
 else
 if (t0==133) then
 a (t0==133)
 else
 a (t0==160)
 else
 none
def za2.l4 (n:Nat) (t0:List UInt8) (e:Int) (c:((List (List UInt8))×Int×Int×Int)→Option (List (List UInt8))) (b:List (List UInt8)) (d:Int→Option (List (List UInt8))) (a:Int) :=
 grd (!(a<t0.length)||(sidx t0 a).isSome) <|
 grd (!(a<t0.length)||(idx tab0 ((sidx t0 a).getD default)).isSome) <|
 if ((a<t0.length)&&(((idx tab0 ((sidx t0 a).getD default)).getD default) != 0)) then
 d (ztu a 1)
 else
 c (b,ztu e 1,a,a)
def za2.l3 (n:Nat) (t0:List UInt8) (e:((List (List UInt8))×Int×Int×Int)→Option (List (List UInt8))) (s:(List (List UInt8))×Int×Int×Int) :=
 let a:=s.2.1
 let c:=s.2.2.1
 let b:=s.2.2.2
 if (decide (b<t0.length)) then
 (sidx t0 b).bind λj=>
 (idx tab0 j).bind λk=>
 if (k==0) then
 e (s.1,a,c,ztu b 1)
 else
 (cut t0 c b).bind λl=>
 (idx s.1 a).bind λo=>
 (sto s.1 a l).bind λh=>
 ztz (za2.l4 n t0 a e h) n (ztu b 1)
 else
 jn (λv=>
 let f:=v
 some f) λd=>
 if (decide (c<t0.length)) then
 (cut t0 c t0.length).bind λi=>
 (idx s.1 a).bind λm=>
 (sto s.1 a i).bind λg=>
 d g
 else
 d s.1
def za2.l2 (n:Nat) (t0:List UInt8) (c:List (List UInt8)) (b:Int→Option (List (List UInt8))) (a:Int) :=
 grd (!(a<t0.length)||(sidx t0 a).isSome) <|
 grd (!(a<t0.length)||(idx tab0 ((sidx t0 a).getD default)).isSome) <|
 if ((a<t0.length)&&(((idx tab0 ((sidx t0 a).getD default)).getD default) != 0)) then
 b (ztu a 1)
 else
 ztz (za2.l3 n t0) n (c,0,a,a)
def za2.l1 (n:Nat) (t0:List UInt8) (d:(Int×Int×Int×Int)→Option (List (List UInt8))) (s:Int×Int×Int×Int) :=
 let a:=s.2.2.2
 if (decide (a<t0.length)) then
 (sidx t0 a).bind λb=>
 (idx tab0 b).bind λc=>
 d (ztu s.1 (band .i64 s.2.1 (bnot .i64 (wk .i64 c))),wk .i64 c,bor .u8 s.2.2.1 b,ztu a 1)
 else
 if (decide (128≤s.2.2.1)) then
 (zdC n t0 (λq0=>zeF n q0)).bind λe=>
 some e
 else
 (mkl 16 s.1 []).bind λf=>
 ztz (za2.l2 n t0 f) n 0
def za2 (n:Nat) (t0:List UInt8) :=
 ztz (za2.l1 n t0) n (0,1,0,0)
def zbH.l1 (n:Nat) (a:List (List UInt8)) (b:((GMap (List UInt8) Bool)×Int)→Option (GMap (List UInt8) Bool)) (s:(GMap (List UInt8) Bool)×Int) :=
 if (decide (s.2<a.length)) then
 (idx a s.2).bind λc=>
 b ((s.1.put c true),ztu s.2 1)
 else
 some s.1
def zbH (n:Nat) :=
 (za2 n [115,111,114,116,32,114,101,108,97,116,105,111,110,32,99,111,117,110,116,101,114,32,115,101,116,32,114,101,103,105,115,116,101,114,32,105,110,118,97,114,105,97,110,116,32,111,112,101,114,97,116,105,111,110,32,107,101,121,32,114,101,102,101,114,101,110,99,101,32,116,111,32,99,111,117,110,116,32,97,99,121,99,108,105,99,32,97,108,108,32,115,117,109,32,105,110,32,97,100,100,119,105,110,115,32,114,101,109,111,118,101,119,105,110,115,32,108,97,115,116,32,109,117,108,116,105,32,104,105,100,101,32,111,114,100,101,114,101,100,32,114,101,113,117,105,114,101,32,104,111,108,100,32,105,110,115,101,114,116,32,100,101,108,101,116,101,32,97,100,100,32,102,114,111,109,32,112,117,116,32,100,114,111,112,32,97,115,115,105,103,110,32,102,111,114,32,119,104,101,114,101,32,97,110,100,32,111,114,32,110,111,116]).bind λa=>
 ztz (zbH.l1 n a) n (GMap.empty,0)
def zb6 (n:Nat) (t0:Int) :=
 some ((((t0==32)||(t0==9))||(t0==10))||(t0==13))
def zcK.l1 (n:Nat) (t0:List UInt8) (t1:Int→Option Bool) (b:Int→Option Int) (a:Int) :=
 grd (!(a<t0.length)||(sidx t0 a).isSome) <|
 grd (!(a<t0.length)||(t1 ((sidx t0 a).getD default)).isSome) <|
 if ((a<t0.length)&&((t1 ((sidx t0 a).getD default)).getD default)) then
 b (ztu a 1)
 else
 some a
def zcK (n:Nat) (t0:List UInt8) (t1:Int→Option Bool) :=
 ztz (zcK.l1 n t0 t1) n 0
def zf5 (n:Nat) (t0:Int) :=
 some (t0 != 10)
def zcT.l1 (n:Nat) (t0:List UInt8) (b:Int→Option Int) (a:Int) :=
 if (decide (a<t0.length)) then
 (sidx t0 a).bind λc=>
 (zb6 n c).bind λd=>
 if d then
 b (ztu a 1)
 else
 (sidx t0 a).bind λe=>
 if (e==35) then
 (cut t0 a t0.length).bind λf=>
 (zcK n f (λq0=>zf5 n q0)).bind λg=>
 b (ztu a g)
 else
 some a
 else
 some a
def zcT (n:Nat) (t0:List UInt8) :=
 ztz (zcT.l1 n t0) n 0
def zcJ (n:Nat) (t0:Int) :=
 some ((97≤t0)&&(t0≤122))
def zbL (n:Nat) (t0:Int) :=
 some ((48≤t0)&&(t0≤57))
def ziy (n:Nat) (t0:Int) :=
 (zcJ n t0).bind λa=>
 grd (a||(zbL n t0).isSome) <|
 some ((a||((zbL n t0).getD default))||(t0==95))
def zbr (n:Nat) (t0:List UInt8) (t1:List UInt8) :=
 grd (!(t1.length≤(t0.length:Int))||(cut t0 0 t1.length).isSome) <|
 some ((t1.length≤(t0.length:Int))&&(((cut t0 0 t1.length).getD default)=t1))
def zcW (n:Nat) (t0:List UInt8) (t1:List UInt8) :=
 (zbr n t0 t1).bind λa=>
 some a
def zaW (n:Nat) (t0:List UInt8) (t1:Int) :=
 some (Lib.indexByte t0 t1.toNat.toUInt8)
def zcj (n:Nat) (t0:List UInt8) (t1:Int) :=
 (zaW n t0 t1).bind λa=>
 some a
def zbl.l1 (n:Nat) (t0:List UInt8) (b:Int→Option Int) (a:Int) :=
 if (decide (a<[[61,61],[33,61],[60,61],[62,61],[46,46]].length)) then
 (idx [[61,61],[33,61],[60,61],[62,61],[46,46]] a).bind λd=>
 (zcW n t0 d).bind λc=>
 if c then
 some 2
 else
 b (ztu a 1)
 else
 grd (!(!(t0=[]))||(sidx t0 0).isSome) <|
 grd (!(!(t0=[]))||(zcj n [60,62,61,43,45,42,40,41,123,125,44,58,59] ((sidx t0 0).getD default)).isSome) <|
 if ((!(t0=[]))&&(0≤((zcj n [60,62,61,43,45,42,40,41,123,125,44,58,59] ((sidx t0 0).getD default)).getD default))) then
 some 1
 else
 some 0
def zbl (n:Nat) (t0:List UInt8) :=
 ztz (zbl.l1 n t0) n 0
def zdj (n:Nat) (t0:List UInt8) :=
 (sidx t0 0).bind λb=>
 (zcJ n b).bind λa=>
 grd (a||(sidx t0 0).isSome) <|
 grd (a||(zbL n ((sidx t0 0).getD default)).isSome) <|
 grd ((a||((zbL n ((sidx t0 0).getD default)).getD default))||(zbl n t0).isSome) <|
 some ((a||((zbL n ((sidx t0 0).getD default)).getD default))||(0<((zbl n t0).getD default)))
def zaz.l2 (n:Nat) (a:List UInt8) (c:(Int×Int)→Option Token) (d:Int→Option Token) (b:Int) :=
 grd (!(b<a.length)||(sidx a b).isSome) <|
 grd (!(b<a.length)||(zb6 n ((sidx a b).getD default)).isSome) <|
 grd (!((b<a.length)&&(!((zb6 n ((sidx a b).getD default)).getD default)))||(sidx a b).isSome) <|
 grd (!(((b<a.length)&&(!((zb6 n ((sidx a b).getD default)).getD default)))&&(((sidx a b).getD default) != 35))||(cut a b a.length).isSome) <|
 grd (!(((b<a.length)&&(!((zb6 n ((sidx a b).getD default)).getD default)))&&(((sidx a b).getD default) != 35))||(zdj n ((cut a b a.length).getD default)).isSome) <|
 if ((((b<a.length)&&(!((zb6 n ((sidx a b).getD default)).getD default)))&&(((sidx a b).getD default) != 35))&&(!((zdj n ((cut a b a.length).getD default)).getD default))) then
 d (ztu b 1)
 else
 c (5,b)
def zaz.l1 (n:Nat) (t1:List UInt8) (t2:GMap (List UInt8) Bool) (q:Unit→Option Token) (s:Unit) :=
 (cut t1 0 t1.length).bind λf=>
 (zcT n f).bind λc=>
 (cut t1 (ztu 0 c) t1.length).bind λa=>
 jn (λv=>
 let e:=v.1
 let p:=v.2
 some ⟨e,0,ztu 0 c,ztu (ztu 0 c) p⟩) λb=>
 if (decide (a=[])) then
 b (0,0)
 else
 (sidx a 0).bind λg=>
 (zcJ n g).bind λh=>
 if h then
 (zcK n a (λq0=>ziy n q0)).bind λd=>
 (cut a 0 d).bind λi=>
 if ((t2.get? i).getD false) then
 b (2,d)
 else
 b (1,d)
 else
 (sidx a 0).bind λj=>
 (zbL n j).bind λk=>
 if k then
 (zcK n a (λq0=>zbL n q0)).bind λl=>
 b (3,l)
 else
 (zbl n a).bind λm=>
 if (decide (0<m)) then
 (zbl n a).bind λo=>
 b (4,o)
 else
 ztz (zaz.l2 n a b) n 1
def zaz (n:Nat) (t1:List UInt8) (t2:GMap (List UInt8) Bool) :=
 ztz (zaz.l1 n t1 t2) n ()
def zek (n:Nat) (t0:List UInt8) :=
 if ((t0=[])||(4096<(t0.length:Int)))=true then some 0
 else
 (zbH n).bind λkw=>
 (zaz n t0 kw).bind λtok=>
 if (tok.at_ != 0||tok.end_ != t0.length)=true then some 0 else some tok.kind
def zff (n:Nat) (t0:List UInt8) :=
 grd (!((t0.length:Int)≤16)||(zek n t0).isSome) <|
 some (((t0.length:Int)≤16)&&(((zek n t0).getD default)==1))
def zc7 (n:Nat) (t0:Int) (t1:List Int) :=
 some ((t0<0)||(t1.length≤t0))
def zdO (n:Nat) (t0:List Int) (t1:List Int) :=
 grd (!((t1.length:Int)≤3)||(zr n t1 (λq0=>zc7 n q0 t0)).isSome) <|
 some (((t1.length:Int)≤3)&&(!((zr n t1 (λq0=>zc7 n q0 t0)).getD default)))
def zdR (n:Nat) (t0:Table) :=
 jn (λv=>
 let b:=v
 if b then
 some (((t0.range.lo≤t0.range.hi)&&((-9999)≤t0.range.lo))&&(t0.range.hi≤9999))
 else
 some (t0.range=⟨0,1⟩)) λa=>
 if (t0.kind==1) then
 a (t0.kind==1)
 else
 if (t0.kind==4) then
 a (t0.kind==4)
 else
 a (t0.kind==5)
def zb2 (n:Nat) (t0:Table) :=
 some ((t0.kind==0)||(t0.kind==1))
def zba.l1 (n:Nat) (t0:List Int) (t1:List Int) (a:(Int×Int)→Option Int) (s:Int×Int) :=
 if (decide (s.2<t1.length)) then
 (idx t1 s.2).bind λb=>
 (idx t0 b).bind λc=>
 a (ztG s.1 c,ztu s.2 1)
 else
 some s.1
def zba (n:Nat) (t0:List Int) (t1:List Int) :=
 ztz (zba.l1 n t0 t1) n (1,0)
def zbJ.l1 (n:Nat) (t0:List Int) (t1:List Table) (h:((GMap (List UInt8) Bool)×Int×Int×Int)→Option Bool) (s:(GMap (List UInt8) Bool)×Int×Int×Int) :=
 let b:=s.2.2.1
 let c:=s.2.2.2
 if (decide (c<t1.length)) then
 jn (λv=>
 let g:=v.1
 let e:=v.2.1
 let f:=v.2.2
 h (g,e,f,ztu c 1)) λd=>
 (idx t1 c).bind λa=>
 (zff n a.name).bind λi=>
 (zdS n a.kind 0 5).bind λj=>
 (zdO n t0 a.ztv).bind λk=>
 (zdR n a).bind λl=>
 (zfT n [i,!((s.1.get? a.name).getD false),j,k,l]).bind λm=>
 if (!m) then
 some false
 else
 (zb2 n a).bind λo=>
 if o then
 if (a.first != s.2.1) then
 some false
 else
 (zba n t0 a.ztv).bind λp=>
 d ((s.1.put a.name true),ztu s.2.1 p,b)
 else
 if (a.first != b) then
 some false
 else
 (zba n t0 a.ztv).bind λq=>
 d ((s.1.put a.name true),s.2.1,ztu b q)
 else
 some ((s.2.1≤128)&&(b≤64))
def zbJ (n:Nat) (t0:List Int) (t1:List Table) :=
 (zfs n t0).bind λa=>
 (zfT n [((t0.length:Int)≤4),((t1.length:Int)≤12),a]).bind λb=>
 if (!b) then
 some false
 else
 ztz (zbJ.l1 n t0 t1) n (GMap.empty,0,0,0)
def zaM.l1 (n:Nat) (t0:List (List UInt8)) (b:((GMap (List UInt8) Bool)×Int)→Option Bool) (s:(GMap (List UInt8) Bool)×Int) :=
 if (decide (s.2<t0.length)) then
 (idx t0 s.2).bind λa=>
 (zff n a).bind λc=>
 if ((!c)||((s.1.get? a).getD false)) then
 some false
 else
 b ((s.1.put a true),ztu s.2 1)
 else
 some true
def zaM (n:Nat) (t0:List (List UInt8)) :=
 ztz (zaM.l1 n t0) n (GMap.empty,0)
def zeu (n:Nat) (t0:Int) (t1:Int) :=
 (shrO .u64 t0 32).bind λa=>
 (shrO .u64 t1 32).bind λb=>
 (shrO .u64 (wk .u64 ((band .u64 t0 4294967295)*(band .u64 t1 4294967295))) 32).bind λc=>
 (shrO .u64 (wk .u64 ((wk .u64 (a*(band .u64 t1 4294967295)))+c)) 32).bind λd=>
 (shrO .u64 (wk .u64 ((band .u64 (wk .u64 ((wk .u64 (a*(band .u64 t1 4294967295)))+c)) 4294967295)+(wk .u64 ((band .u64 t0 4294967295)*b)))) 32).bind λe=>
 some (wk .u64 ((wk .u64 ((wk .u64 (a*b))+d))+e),wk .u64 (t0*t1))
def zee (n:Nat) (t0:Int) (t1:Int) :=
 (zeu n t0 t1).bind λa=>
 some (a.1,a.2)
def zK.l1 (n:Nat) (b:((List Range)×Int)→Option (List Range)) (s:(List Range)×Int) :=
 let a:=s.1
 if (decide (s.2<a.length)) then
 (cut a s.2 a.length).bind λc=>
 (cut a 0 s.2).bind λd=>
 b ((zeI a s.2.toNat a.length ((a.drop 0).take (s.2.toNat - 0))),ztu s.2 (min (a.length - s.2.toNat) ((a.drop 0).take (s.2.toNat - 0)).length:Nat))
 else
 some a
def zK (n:Nat) (t0:List Range) (t1:Int) :=
 if (decide (t1<0)) then
 none
 else
 (zee n (wk .u64 t0.length) (wk .u64 t1)).bind λa=>
 if ((0<a.1)||(9223372036854775807<a.2)) then
 none
 else
 (mkl 16 (wk .i64 a.2) ⟨0,0⟩).bind λb=>
 ztz (zK.l1 n) n ((zeI b 0 b.length t0),(min (b.length - 0) t0.length:Nat))
def zbG.l1 (n:Nat) (t0:List Int) (t1:List Table) (t2:Bool) (d:((List Range)×Int)→Option (List Range)) (s:(List Range)×Int) :=
 if (decide (s.2<t1.length)) then
 jn (λv=>
 let c:=v
 d (c,ztu s.2 1)) λb=>
 (idx t1 s.2).bind λa=>
 (zb2 n a).bind λe=>
 if (e==t2) then
 (zba n t0 a.ztv).bind λf=>
 (zK n [a.range] f).bind λg=>
 (app 16 s.1 g).bind λh=>
 b h
 else
 b s.1
 else
 some s.1
def zbG (n:Nat) (t0:List Int) (t1:List Table) (t2:Bool) :=
 (zbJ n t0 t1).bind λa=>
 if (!a) then
 some []
 else
 ztz (zbG.l1 n t0 t1 t2) n ([],0)
def zaA (n:Nat) (t0:Int) (t1:Int) :=
 some ((0≤t0)&&(t0<t1))
def za4 (n:Nat) (t0:Int) (t1:Int) :=
 some ((zuj t1≤t0)&&(t0≤t1))
def zaH.l1 (n:Nat) (t0:zun) (t1:Row) (b:(Int×Int)→Option Bool) (s:Int×Int) :=
 if (decide (s.2<t1.zty.length)) then
 (idx t1.zty s.2).bind λa=>
 grd ((((a.cell≤s.1)||(t0.strict.length≤a.cell))||(a.ztE==0))||(za4 n a.ztE 1000).isSome) <|
 if ((((a.cell≤s.1)||(t0.strict.length≤a.cell))||(a.ztE==0))||(!((za4 n a.ztE 1000).getD default))) then
 some false
 else
 b (a.cell,ztu s.2 1)
 else
 (za4 n t1.bound 1000000000).bind λc=>
 some c
def zaH (n:Nat) (t0:zun) (t1:Row) :=
 ztz (zaH.l1 n t0 t1) n ((-1),0)
def zbM (n:Nat) (t0:Table) (t1:Constraint) (t2:zun) :=
 grd (!((t0.kind==0)&&((t0.ztv.length:Int)==2))||(idx t0.ztv 0).isSome) <|
 grd (!((t0.kind==0)&&((t0.ztv.length:Int)==2))||(idx t0.ztv 1).isSome) <|
 grd (!((((t0.kind==0)&&((t0.ztv.length:Int)==2))&&(((idx t0.ztv 0).getD default)==((idx t0.ztv 1).getD default)))&&(t0.first==t1.first))||(idx t0.ztv 0).isSome) <|
 grd (!((((t0.kind==0)&&((t0.ztv.length:Int)==2))&&(((idx t0.ztv 0).getD default)==((idx t0.ztv 1).getD default)))&&(t0.first==t1.first))||(idx t2.model.ztB ((idx t0.ztv 0).getD default)).isSome) <|
 some (((((t0.kind==0)&&((t0.ztv.length:Int)==2))&&(((idx t0.ztv 0).getD default)==((idx t0.ztv 1).getD default)))&&(t0.first==t1.first))&&(((idx t2.model.ztB ((idx t0.ztv 0).getD default)).getD default)==t1.size))
def zx.l1 (n:Nat) (t0:List Table) (t1:Table→Option Bool) (b:Int→Option Int) (a:Int) :=
 if (decide (a<t0.length)) then
 (idx t0 a).bind λc=>
 (t1 c).bind λd=>
 if d then
 some a
 else
 b (ztu a 1)
 else
 some (-1)
def zx (n:Nat) (t0:List Table) (t1:Table→Option Bool) :=
 ztz (zx.l1 n t0 t1) n 0
def zab (n:Nat) (t0:List Table) (t1:Table→Option Bool):Option Bool:=
 (zx n t0 t1).bind λa=>
 some (0≤a)
def zch (n:Nat) (t0:zun) (t1:Constraint) :=
 grd (!(((t1.row.zty.length:Int)==0)&&(t1.row.bound==0))||(zab n t0.model.tables (λq0=>zbM n q0 t1 t0)).isSome) <|
 some ((((t1.row.zty.length:Int)==0)&&(t1.row.bound==0))&&((zab n t0.model.tables (λq0=>zbM n q0 t1 t0)).getD default))
def zT.l1 (n:Nat) (t0:List Term) (t1:List Term) (b:Int→Option Bool) (a:Int) :=
 if (decide (a<t0.length)) then
 (idx t0 a).bind λc=>
 (idx t1 a).bind λd=>
 if (!(c=d)) then
 some false
 else
 b (ztu a 1)
 else
 some true
def zT (n:Nat) (t0:List Term) (t1:List Term) :=
 if (t0.length != (t1.length:Int)) then
 some false
 else
 ztz (zT.l1 n t0 t1) n 0
def zdZ (n:Nat) (t0:Row) (t1:Int) (t2:Int) (t3:Int) :=
 (zT n t0.zty [⟨t1,t2⟩]).bind λa=>
 some (a&&(t0.bound==t3))
def zZ.l1 (n:Nat) (t0:zun) (i:Int→Option Bool) (b:Int) :=
 if (decide (b<t0.model.constraints.length)) then
 jn (λv=>
 i (ztu b 1)) λc=>
 (idx t0.model.constraints b).bind λa=>
 jn (λv=>
 (zuU b 2).bind λk=>
 if (decide (k<t0.strict.length)) then
 (zuU b 2).bind λl=>
 (idx t0.strict l).bind λh=>
 jn (λv=>
 let f:=v.1
 let g:=v.2
 grd ((a.kind != 0)||(zuU b 2).isSome) <|
 grd ((a.kind != 0)||(zdZ n a.row ((zuU b 2).getD default) f g).isSome) <|
 if ((a.kind != 0)||(!((zdZ n a.row ((zuU b 2).getD default) f g).getD default))) then
 some false
 else
 c ()) λe=>
 (zuV b 2).bind λm=>
 if (m==0) then
 e ((-1),zuj h.lo)
 else
 e (1,h.hi)
 else
 c ()) λd=>
 (zaA n a.family t0.model.ztI.length).bind λj=>
 if (!j) then
 some false
 else
 if (a.kind==0) then
 grd (((a.first != 0)||(a.size != 0))||(zaH n t0 a.row).isSome) <|
 if (((a.first != 0)||(a.size != 0))||(!((zaH n t0 a.row).getD default))) then
 some false
 else
 d ()
 else
 grd ((a.kind != 1)||(zch n t0 a).isSome) <|
 if ((a.kind != 1)||(!((zch n t0 a).getD default))) then
 some false
 else
 d ()
 else
 some true
def zZ (n:Nat) (t0:zun) :=
 if ((512<(t0.model.constraints.length:Int))||(t0.model.constraints.length<ztG 2 t0.strict.length)) then
 some false
 else
 ztz (zZ.l1 n t0) n 0
def zbv (n:Nat) (t0:Int) (t1:zun) :=
 some ((t0<(-1))||(t1.model.ztB.length≤t0))
def zO.l1 (n:Nat) (t0:zun) (b:((List (List UInt8))×Int)→Option Bool) (s:(List (List UInt8))×Int) :=
 if (decide (s.2<t0.model.ztx.length)) then
 (idx t0.model.ztx s.2).bind λa=>
 (app 16 s.1 [a.name]).bind λc=>
 grd ((3<(a.ztB.length:Int))||(zr n a.ztB (λq0=>zbv n q0 t0)).isSome) <|
 if ((3<(a.ztB.length:Int))||((zr n a.ztB (λq0=>zbv n q0 t0)).getD default)) then
 some false
 else
 b (c,ztu s.2 1)
 else
 grd (!((s.1.length:Int)≤8)||(zaM n s.1).isSome) <|
 some (((s.1.length:Int)≤8)&&((zaM n s.1).getD default))
def zO (n:Nat) (t0:zun) :=
 ztz (zO.l1 n t0) n ([],0)
def zdp (n:Nat) (t0:Int) :=
 some (t0 != t0)
def zcd (n:Nat) (t0:Int) (t1:Int) :=
 (zdp n t0).bind λb=>
 (zdp n t1).bind λa=>
 if b then
 if a then
 some 0
 else
 some (-1)
 else
 if a then
 some 1
 else
 if (decide (t0<t1)) then
 some (-1)
 else
 if (decide (t1<t0)) then
 some 1
 else
 some 0
def zq.l1 (n:Nat) (t0:List Int) (t1:List Int) (c:Int→Option Int) (a:Int) :=
 if (decide (a<t0.length)) then
 (idx t0 a).bind λd=>
 if (decide (t1.length≤a)) then
 some 1
 else
 (idx t1 a).bind λe=>
 (zcd n d e).bind λb=>
 if (b != 0) then
 some b
 else
 c (ztu a 1)
 else
 if (decide (t0.length<(t1.length:Int))) then
 some (-1)
 else
 some 0
def zq (n:Nat) (t0:List Int) (t1:List Int) :=
 ztz (zq.l1 n t0 t1) n 0
def za3.l2 (n:Nat) (t0:List Int) (e:Int) (f:Table) (d:((List Int)×Int×Int)→Option (Int×(List Int)×Bool)) (s:(List Int)×Int×Int) :=
 let a:=s.2.2
 if (decide (0≤a)) then
 (idx f.ztv a).bind λg=>
 (idx t0 g).bind λb=>
 (zuV s.2.1 b).bind λh=>
 (zuU s.2.1 b).bind λi=>
 (idx s.1 a).bind λj=>
 (sto s.1 a h).bind λc=>
 d (c,i,ztH a 1)
 else
 some (e,s.1,true)
def za3.l1 (n:Nat) (t0:List Int) (t1:List Table) (t2:Bool) (t3:Int) (e:Int→Option (Int×(List Int)×Bool)) (b:Int) :=
 if (decide (b<t1.length)) then
 (idx t1 b).bind λa=>
 (zb2 n a).bind λc=>
 grd (((c != t2)||(ztH t3 a.first<0))||(zba n t0 a.ztv).isSome) <|
 if (((c != t2)||(ztH t3 a.first<0))||(((zba n t0 a.ztv).getD default)≤ztH t3 a.first)) then
 e (ztu b 1)
 else
 (mkl 8 a.ztv.length 0).bind λd=>
 ztz (za3.l2 n t0 b a) n (d,ztH t3 a.first,ztH d.length 1)
 else
 some (0,[],false)
def za3 (n:Nat) (t0:List Int) (t1:List Table) (t2:Bool) (t3:Int) :=
 (zbJ n t0 t1).bind λa=>
 if ((!a)||(t3<0)) then
 some (0,[],false)
 else
 ztz (za3.l1 n t0 t1 t2 t3) n 0
def zbY (n:Nat) (t0:zun) (t1:zva) :=
 (za3 n t0.model.ztB t0.model.tables false t1.cell).bind λc=>
 if (!c.2.2) then
 some false
 else
 (idx t0.model.tables c.1).bind λa=>
 jn (λv=>
 let d:=v
 if d then
 some (((t1.kind==0)||(t1.kind==1))&&(t1.value==0))
 else
 some (((t1.kind==2)&&(a.range.lo≤t1.value))&&(t1.value≤a.range.hi))) λb=>
 if (a.kind==2) then
 b (a.kind==2)
 else
 b (a.kind==3)
def zbC (n:Nat) (t0:Row) (t1:zun) :=
 (zaH n t1 t0).bind λa=>
 some (!a)
def zn.l1 (n:Nat) (t0:List Row) (t1:Row→Option Bool) (b:Int→Option Int) (a:Int) :=
 if (decide (a<t0.length)) then
 (idx t0 a).bind λc=>
 (t1 c).bind λd=>
 if d then
 some a
 else
 b (ztu a 1)
 else
 some (-1)
def zn (n:Nat) (t0:List Row) (t1:Row→Option Bool) :=
 ztz (zn.l1 n t0 t1) n 0
def zo (n:Nat) (t0:List Row) (t1:Row→Option Bool):Option Bool:=
 (zn n t0 t1).bind λa=>
 some (0≤a)
def zS.l2 (n:Nat) (t0:zun) (t1:zt4) (b:(Int×Int)→Option Bool) (s:Int×Int) :=
 if (decide (s.2<t1.ztD.length)) then
 (idx t1.ztD s.2).bind λa=>
 grd ((a.cell≤s.1)||(zbY n t0 a).isSome) <|
 if ((a.cell≤s.1)||(!((zbY n t0 a).getD default))) then
 some false
 else
 b (a.cell,ztu s.2 1)
 else
 grd (!(((t1.hold.length:Int)≤8)&&((t1.ztD.length:Int)≤32))||(zo n t1.hold (λq0=>zbC n q0 t0)).isSome) <|
 some ((((t1.hold.length:Int)≤8)&&((t1.ztD.length:Int)≤32))&&(!((zo n t1.hold (λq0=>zbC n q0 t0)).getD default)))
def zS.l1 (n:Nat) (t0:zun) (t1:zt4) (b:(Int×Int)→Option Bool) (s:Int×Int) :=
 if (decide (s.2<t1.delta.length)) then
 (idx t1.delta s.2).bind λa=>
 grd ((((a.cell≤s.1)||(t0.strict.length≤a.cell))||(a.add==0))||(za4 n a.add 1000000000).isSome) <|
 if ((((a.cell≤s.1)||(t0.strict.length≤a.cell))||(a.add==0))||(!((za4 n a.add 1000000000).getD default))) then
 some false
 else
 b (a.cell,ztu s.2 1)
 else
 ztz (zS.l2 n t0 t1) n ((-1),0)
def zS (n:Nat) (t0:zun) (t1:zt4) :=
 ztz (zS.l1 n t0 t1) n ((-1),0)
def zI.l2 (n:Nat) (t0:zun) (f:Int) (j:Int→Option Bool) (b:Action) (h:zt7) (i:Int→Option Bool) (e:Int) :=
 if (decide (e<h.ztB.length)) then
 (idx h.ztB e).bind λa=>
 (idx b.arguments e).bind λc=>
 grd (!(a<0)||(za4 n c 9999).isSome) <|
 grd (((a<0)&&(!((za4 n c 9999).getD default)))||(!(0≤a)||(idx t0.model.ztB a).isSome)) <|
 grd (((a<0)&&(!((za4 n c 9999).getD default)))||(!(0≤a)||(zaA n c ((idx t0.model.ztB a).getD default)).isSome)) <|
 if (((a<0)&&(!((za4 n c 9999).getD default)))||((0≤a)&&(!((zaA n c ((idx t0.model.ztB a).getD default)).getD default)))) then
 some false
 else
 i (ztu e 1)
 else
 jn (λv=>
 (zS n t0 b.effect).bind λk=>
 if (!k) then
 some false
 else
 j (ztu f 1)) λg=>
 if (decide (0<f)) then
 (idx t0.model.ztw (ztH f 1)).bind λd=>
 grd ((b.operation<d.operation)||(!(d.operation==b.operation)||(zq n d.arguments b.arguments).isSome)) <|
 if ((b.operation<d.operation)||((d.operation==b.operation)&&(0≤((zq n d.arguments b.arguments).getD default)))) then
 some false
 else
 g ()
 else
 g ()
def zI.l1 (n:Nat) (t0:zun) (d:Int→Option Bool) (b:Int) :=
 if (decide (b<t0.model.ztw.length)) then
 (idx t0.model.ztw b).bind λa=>
 (zaA n a.operation t0.model.ztx.length).bind λc=>
 grd ((!c)||(idx t0.model.ztx a.operation).isSome) <|
 if ((!c)||(a.arguments.length != ((((idx t0.model.ztx a.operation).getD default).ztB).length:Int))) then
 some false
 else
 (idx t0.model.ztx a.operation).bind λe=>
 ztz (zI.l2 n t0 b d a e) n 0
 else
 some true
def zI (n:Nat) (t0:zun) :=
 if (decide (256<(t0.model.ztw.length:Int))) then
 some false
 else
 ztz (zI.l1 n t0) n 0
def zc0 (n:Nat) (t0:Hide) (t1:Int) (t2:GMap Int Bool) :=
 some ((t0.table==t1)&&((t2.get? t0.to).getD false))
def zE.l1 (n:Nat) (t0:List Hide) (t1:Hide→Option Bool) (b:Int→Option Int) (a:Int) :=
 if (decide (a<t0.length)) then
 (idx t0 a).bind λc=>
 (t1 c).bind λd=>
 if d then
 some a
 else
 b (ztu a 1)
 else
 some (-1)
def zE (n:Nat) (t0:List Hide) (t1:Hide→Option Bool) :=
 ztz (zE.l1 n t0 t1) n 0
def zax (n:Nat) (t0:List Hide) (t1:Hide→Option Bool):Option Bool:=
 (zE n t0 t1).bind λa=>
 some (0≤a)
def zh.l4 (n:Nat) (t0:zun) (c:GMap Int Bool) (e:Int) (d:((GMap Int Bool)×Int)→Option Bool) (b:((GMap Int Bool)×(List Nat)×Nat)→Option Bool) (s:(GMap Int Bool)×(List Nat)×Nat) :=
 stepM s.1 s.2.1 c.clock s.2.2 (
 d (s.1,ztu e 1)) λa=>
 grd (s.1.es.map (·.1)).Nodup <|
 (zax n t0.model.ztK (λq0=>zc0 n q0 a.2.1 s.1)).bind λf=>
 if (!f) then
 b ((s.1.del a.2.1),s.2.1++[a.1],s.1.clock)
 else
 b (s.1,s.2.1++[a.1],s.1.clock)
def zh.l3 (n:Nat) (t0:zun) (a:((GMap Int Bool)×Int)→Option Bool) (s:(GMap Int Bool)×Int) :=
 if (decide (s.2<t0.model.ztK.length)) then
 ztz (zh.l4 n t0 s.1 s.2 a) n (s.1,[],s.1.clock)
 else
 some ((s.1.es.length:Int)==0)
def zh.l2 (n:Nat) (t0:zun) (a:((GMap Int Bool)×Int)→Option Bool) (s:(GMap Int Bool)×Int) :=
 if (decide (s.2<t0.model.ztK.length)) then
 (idx t0.model.ztK s.2).bind λb=>
 a ((s.1.put b.table true),ztu s.2 1)
 else
 ztz (zh.l3 n t0) n (s.1,0)
def zh.l1 (n:Nat) (t0:zun) (f:Int→Option Bool) (d:Int) :=
 if (decide (d<t0.model.ztK.length)) then
 (idx t0.model.ztK d).bind λa=>
 (zaA n a.table t0.model.tables.length).bind λe=>
 grd ((!e)||(zaA n a.to t0.model.tables.length).isSome) <|
 if (((!e)||(!((zaA n a.to t0.model.tables.length).getD default)))||(a.table==a.to)) then
 some false
 else
 (idx t0.model.tables a.table).bind λb=>
 (idx t0.model.tables a.to).bind λc=>
 grd (((b.kind != 0)||(c.kind != 0))||(zaA n a.column b.ztv.length).isSome) <|
 grd (((((b.kind != 0)||(c.kind != 0))||(!((zaA n a.column b.ztv.length).getD default)))||((c.ztv.length:Int) != 1))||(idx c.ztv 0).isSome) <|
 grd (((((b.kind != 0)||(c.kind != 0))||(!((zaA n a.column b.ztv.length).getD default)))||((c.ztv.length:Int) != 1))||(idx b.ztv a.column).isSome) <|
 if (((((b.kind != 0)||(c.kind != 0))||(!((zaA n a.column b.ztv.length).getD default)))||((c.ztv.length:Int) != 1))||(((idx c.ztv 0).getD default) != ((idx b.ztv a.column).getD default))) then
 some false
 else
 f (ztu d 1)
 else
 ztz (zh.l2 n t0) n (GMap.empty,0)
def zh (n:Nat) (t0:zun) :=
 if (decide (12<(t0.model.ztK.length:Int))) then
 some false
 else
 ztz (zh.l1 n t0) n 0
def zev (n:Nat) (t0:Model) :=
 (zbJ n t0.ztB t0.tables).bind λc=>
 grd (((!c)||(24<(t0.ztI.length:Int)))||(zaM n t0.ztI).isSome) <|
 if (((!c)||(24<(t0.ztI.length:Int)))||(!((zaM n t0.ztI).getD default))) then
 some false
 else
 (zbG n t0.ztB t0.tables true).bind λa=>
 (zZ n ⟨t0,a⟩).bind λb=>
 grd (!b||(zO n ⟨t0,a⟩).isSome) <|
 grd (!(b&&((zO n ⟨t0,a⟩).getD default))||(zI n ⟨t0,a⟩).isSome) <|
 grd (!((b&&((zO n ⟨t0,a⟩).getD default))&&((zI n ⟨t0,a⟩).getD default))||(zh n ⟨t0,a⟩).isSome) <|
 some (((b&&((zO n ⟨t0,a⟩).getD default))&&((zI n ⟨t0,a⟩).getD default))&&((zh n ⟨t0,a⟩).getD default))
def zp.l5 (n:Nat) (a:Int) (g:((List Place)×(List Place)×Int)→Option ((Option zu3)×Bool)) (i:Table) (d:List (List Int)) (h:((List Place)×(List Place)×Int)→Option ((Option zu3)×Bool)) (s:(List Place)×(List Place)×Int) :=
 if (decide (s.2.2<d.length)) then
 jn (λv=>
 let e:=v.1
 let f:=v.2
 h (e,f,ztu s.2.2 1)) λb=>
 (idx d s.2.2).bind λc=>
 if (decide (i.kind≤1)) then
 (app 32 s.1 [⟨a,c⟩]).bind λj=>
 b (j,s.2.1)
 else
 (app 32 s.2.1 [⟨a,c⟩]).bind λk=>
 b (s.1,k)
 else
 g (s.1,s.2.1,ztu a 1)
def zp.l4 (n:Nat) (c:Int) (a:((List (List Int))×Int)→Option ((Option zu3)×Bool)) (d:List Int) (e:Int) (b:((List (List Int))×Int)→Option ((Option zu3)×Bool)) (s:(List (List Int))×Int) :=
 if (decide (s.2<e)) then
 (app 8 [] d).bind λf=>
 (app 8 f [s.2]).bind λg=>
 (app 24 s.1 [g]).bind λh=>
 b (h,ztu s.2 1)
 else
 a (s.1,ztu c 1)
def zp.l3 (n:Nat) (t0:Model) (a:List (List Int)) (d:Int) (b:((List (List Int))×Int)→Option ((Option zu3)×Bool)) (e:Int) (c:((List (List Int))×Int)→Option ((Option zu3)×Bool)) (s:(List (List Int))×Int) :=
 if (decide (s.2<a.length)) then
 (idx a s.2).bind λf=>
 (idx t0.ztB e).bind λg=>
 ztz (zp.l4 n s.2 c f g) n (s.1,0)
 else
 b (s.1,ztu d 1)
def zp.l2 (n:Nat) (t0:Model) (b:List Place) (c:List Place) (f:Int) (d:((List Place)×(List Place)×Int)→Option ((Option zu3)×Bool)) (a:Table) (e:((List (List Int))×Int)→Option ((Option zu3)×Bool)) (s:(List (List Int))×Int) :=
 if (decide (s.2<a.ztv.length)) then
 (idx a.ztv s.2).bind λg=>
 ztz (zp.l3 n t0 s.1 s.2 e g) n ([],0)
 else
 ztz (zp.l5 n f d a s.1) n (b,c,0)
def zp.l1 (n:Nat) (t0:Model) (a:((List Place)×(List Place)×Int)→Option ((Option zu3)×Bool)) (s:(List Place)×(List Place)×Int) :=
 if (decide (s.2.2<t0.tables.length)) then
 (idx t0.tables s.2.2).bind λb=>
 ztz (zp.l2 n t0 s.1 s.2.1 s.2.2 a b) n ([[]],0)
 else
 some (some (⟨t0,s.1,s.2.1⟩),true)
def zp (n:Nat) (t0:Model) :=
 (zev n t0).bind λa=>
 if (!a) then
 some (none,false)
 else
 ztz (zp.l1 n t0) n ([],[],0)
def zbu (n:Nat) (t0:zu3) (t1:Question) :=
 if (((((t1.e<0)||(t1.f<0))||(t0.m.ztw.length≤t1.e))||(t0.m.ztw.length≤t1.f))||(t1.target.index<0)) then
 some false
 else
 if t1.target.hold then
 (idx t0.m.ztw t1.e).bind λa=>
 some (t1.target.index<a.effect.hold.length)
 else
 some ((t1.e≤t1.f)&&(t1.target.index<t0.m.constraints.length))
def zc6 (n:Nat) (t0:Model) (t1:Question) :=
 (zp n t0).bind λa=>
 grd (!a.2||(a.1).isSome) <|
 grd (!a.2||(zbu n ((a.1).getD default) t1).isSome) <|
 some (a.2&&((zbu n ((a.1).getD default) t1).getD default))
def zgb (n:Nat) (t0:Model) (t1:Bool) :=
 (zev n t0).bind λb=>
 if (!b) then
 some []
 else
 (zbG n t0.ztB t0.tables t1).bind λa=>
 some a
def zeM (n:Nat) (t0:Model) :=
 (zgb n t0 true).bind λa=>
 some a
def zR.l1 (n:Nat) (t0:Action) (t1:Int) (c:Int→Option Int) (a:Int) :=
 if (decide (a<t0.effect.delta.length)) then
 (idx t0.effect.delta a).bind λb=>
 if (b.cell==t1) then
 some b.add
 else
 c (ztu a 1)
 else
 some 0
def zR (n:Nat) (t0:Action) (t1:Int) :=
 ztz (zR.l1 n t0 t1) n 0
def zH.l1 (n:Nat) (t0:Action) (t1:Row) (b:(Int×Int)→Option Int) (s:Int×Int) :=
 if (decide (s.2<t1.zty.length)) then
 (idx t1.zty s.2).bind λa=>
 (zR n t0 a.cell).bind λc=>
 b (ztu s.1 (ztG a.ztE c),ztu s.2 1)
 else
 some s.1
def zH (n:Nat) (t0:Action) (t1:Row) :=
 ztz (zH.l1 n t0 t1) n (0,0)
def zaq.l1 (n:Nat) (t0:List Int) (t1:Int) (b:Int→Option Int) (a:Int) :=
 if (decide (a<t0.length)) then
 (idx t0 a).bind λc=>
 if (t1==c) then
 some a
 else
 b (ztu a 1)
 else
 some (-1)
def zaq (n:Nat) (t0:List Int) (t1:Int) :=
 ztz (zaq.l1 n t0 t1) n 0
def zaF (n:Nat) (t0:List Int) (t1:Int):Option Bool:=
 (zaq n t0 t1).bind λa=>
 some (0≤a)
def zd7 (n:Nat) (t0:Int) (t1:Int) :=
 some (ztH t0 t1)
def zU.l1 (n:Nat) (t0:Row) (t1:Int→Option Int) (c:Int) (b:((List Term)×Int)→Option Row) (s:(List Term)×Int) :=
 if (decide (s.2<t0.zty.length)) then
 (idx t0.zty s.2).bind λa=>
 (t1 a.ztE).bind λd=>
 (app 16 s.1 [⟨a.cell,d⟩]).bind λe=>
 b (e,ztu s.2 1)
 else
 some ⟨s.1,c⟩
def zU (n:Nat) (t0:Row) (t1:Int→Option Int) (t2:Int→Option Int) :=
 (t2 t0.bound).bind λa=>
 ztz (zU.l1 n t0 t1 a) n ([],0)
def zbo (n:Nat) (t0:Int) :=
 some t0
def zal (n:Nat) (t0:Int) (t1:Int) :=
 some (ztH (ztu (zuj t0) t1) 1)
def zaP (n:Nat) (t0:Int) :=
 some (zuj t0)
def zG.l1 (n:Nat) (t0:Constraint) (t1:Int→Option Int) (a:((List Int)×Int)→Option ztR) (s:(List Int)×Int) :=
 if (decide (s.2<ztG t0.size t0.size)) then
 (t1 (ztu t0.first s.2)).bind λb=>
 (app 8 s.1 [ztH 1 b]).bind λc=>
 a (c,ztu s.2 1)
 else
 some ⟨t0.first,t0.size,s.1⟩
def zG (n:Nat) (t0:Constraint) (t1:Int→Option Int) :=
 ztz (zG.l1 n t0 t1) n ([],0)
def zaV (n:Nat) (t0:Int):Option Int:=
 some 0
def zA.l1 (n:Nat) (t0:Action) (t1:Constraint) (c:((List Int)×Int)→Option (List Int)) (s:(List Int)×Int) :=
 if (decide (s.2<ztG t1.size t1.size)) then
 jn (λv=>
 let b:=v
 c (b,ztu s.2 1)) λa=>
 (zR n t0 (ztu t1.first s.2)).bind λd=>
 if (decide (0<d)) then
 (app 8 s.1 [s.2]).bind λe=>
 a e
 else
 a s.1
 else
 some s.1
def zA (n:Nat) (t0:Action) (t1:Constraint) :=
 ztz (zA.l1 n t0 t1) n ([],0)
def zQ (n:Nat) (t0:Int) (t1:Action) :=
 (zR n t1 t0).bind λa=>
 some a
def zac (n:Nat) (t0:Int) (t1:Action) :=
 (zR n t1 t0).bind λa=>
 some a
def zaO (n:Nat) (t0:Int) (t1:Action) (t2:Constraint) (t3:Action) :=
 (zR n t1 (ztu t2.first t0)).bind λa=>
 (zR n t3 (ztu t2.first t0)).bind λb=>
 some (ztu a b)
def zbV (n:Nat) (t0:Int) (t1:List Bool):Option (zuy×Bool):=
 some (⟨t0,t1⟩,((1≤t0)&&(t0≤6))&&(t1.length==(ztG t0 t0)))
def zaQ (n:Nat) (t0:zuy) (t1:Int) (t2:Int) :=
 (idx t0.ztP (ztu (ztG t1 t0.size) t2)).bind λa=>
 some a
def zcR.l1 (n:Nat) (t0:List Int) (c:Int→Option Int) (a:Int) :=
 if (decide (a<t0.length)) then
 (idx t0 a).bind λb=>
 if (b != 0) then
 some b
 else
 c (ztu a 1)
 else
 some 0
def zcR (n:Nat) (t0:List Int) :=
 ztz (zcR.l1 n t0) n 0
def zce (n:Nat) (t0:List Int) (t1:List Int) :=
 (zcd n t0.length t1.length).bind λc=>
 (zq n t0 t1).bind λa=>
 (zcR n [c,a]).bind λb=>
 some b
def zC.l1 (n:Nat) (g:zuy) (v:List Int→List (List Int)→Option (List (List Int))) (l:List Int) (last:Int) (rec:Int×List (List Int)→Option (List (List Int))) (s:Int×List (List Int)) :=
 if (decide (s.1<g.size)) then
 (zaQ n g last s.1).bind λe=>
 if e then
 (zaF n l s.1).bind λf=>
 if f=true then rec (ztu s.1 1,s.2)
 else
 (app 8 [] l).bind λc=>
 (app 8 c [s.1]).bind λl2=>
 (v l2 s.2).bind λout=>
 rec (ztu s.1 1,out)
 else rec (ztu s.1 1,s.2)
 else some s.2
def zC (n:Nat) (g:zuy):Nat→List Int→List (List Int)→Option (List (List Int))
 | 0,_,_=>none
 | k+1,l,out=>
 (idx l (ztH l.length 1)).bind λlast=>
 (idx l 0).bind λfirst=>
 (zaQ n g last first).bind λe=>
 if e then
 (app 8 [] l).bind λc=>
 (app 24 out [c]).bind λout=>
 ztz (zC.l1 n g (zC n g k) l last) n (ztu first 1,out)
 else ztz (zC.l1 n g (zC n g k) l last) n (ztu first 1,out)
def ztZ.l1 (n:Nat) (g:zuy) (rec:Int×List (List Int)→Option (List (List Int))) (s:Int×List (List Int)) :=
 if (decide (s.1<g.size)) then
 (zC n g n [s.1] s.2).bind λout=>
 rec (ztu s.1 1,out)
 else some s.2
def zbp (n:Nat) (t0:Int) (t1:List Bool) :=
 (zbV n t0 t1).bind λo=>
 if (!o.2)=true then some []
 else
 (ztz (ztZ.l1 n o.1) n (0,[])).bind λout=>
 zxq (zce n) out
def zk.l3 (n:Nat) (t1:Constraint) (t2:Action) (t3:Action) (f:List (List Row)) (g:((List (List Row)))→Option (List (List Row))) (c:List Int) (h:((List Row)×Bool×Bool×Int)→Option (List (List Row))) (s:(List Row)×Bool×Bool×Int) :=
 let e:=s.2.2.1
 let d:=s.2.2.2
 if (decide (d<c.length)) then
 (idx c d).bind λa=>
 (zuV (ztu d 1) c.length).bind λl=>
 (idx c l).bind λb=>
 grd (s.2.1||(zR n t2 (ztu t1.first (ztu (ztG a t1.size) b))).isSome) <|
 grd (e||(zR n t3 (ztu t1.first (ztu (ztG a t1.size) b))).isSome) <|
 (zaO n (ztu (ztG a t1.size) b) t2 t1 t3).bind λi=>
 (app 32 s.1 [⟨[⟨ztu t1.first (ztu (ztG a t1.size) b),(-1)⟩],ztH i 1⟩]).bind λj=>
 h (j,s.2.1||(0<((zR n t2 (ztu t1.first (ztu (ztG a t1.size) b))).getD default)),e||(0<((zR n t3 (ztu t1.first (ztu (ztG a t1.size) b))).getD default)),ztu d 1)
 else
 if (s.2.1&&e) then
 (app 24 f [s.1]).bind λk=>
 g k
 else
 g f
def zk.l2 (n:Nat) (t1:Constraint) (t2:Action) (t3:Action) (a:List (List Int)) (d:((List (List Row))×Int)→Option (List (List Row))) (s:(List (List Row))×Int) :=
 if (decide (s.2<a.length)) then
 jn (λv=>
 let b:=v
 d (b,ztu s.2 1)) λc=>
 (idx a s.2).bind λe=>
 ztz (zk.l3 n t1 t2 t3 s.1 c e) n ([],false,false,0)
 else
 some s.1
def zk.l1 (n:Nat) (t0:List Range) (t1:Constraint) (t2:Action) (t3:Action) (c:List Bool) (b:((List Bool)×Int)→Option (List (List Row))) (s:(List Bool)×Int) :=
 if (decide (s.2<c.length)) then
 (idx t0 (ztu t1.first s.2)).bind λd=>
 (zaO n s.2 t2 t1 t3).bind λe=>
 (idx s.1 s.2).bind λg=>
 (sto s.1 s.2 (1≤ztu d.hi e)).bind λa=>
 b (a,ztu s.2 1)
 else
 (zbp n t1.size s.1).bind λf=>
 ztz (zk.l2 n t1 t2 t3 f) n ([],0)
def zk (n:Nat) (t0:List Range) (t1:Constraint) (t2:Action) (t3:Action) :=
 (mkl 1 (ztG t1.size t1.size) false).bind λa=>
 ztz (zk.l1 n t0 t1 t2 t3 a) n (a,0)
def zaG.l1 (n:Nat) (t0:List Range) (c:Int→Option Bool) (b:Int) :=
 if (decide (b<t0.length)) then
 (idx t0 b).bind λa=>
 if ((((a.lo<(-1000000))||(1000000<a.lo))||(a.hi<(-1000000)))||(1000000<a.hi)) then
 some false
 else
 c (ztu b 1)
 else
 some ((t0.length:Int)≤128)
def zaG (n:Nat) (t0:List Range) :=
 ztz (zaG.l1 n t0) n 0
def zaD.l1 (n:Nat) (t0:Int) (t1:Row) (b:(Int×Int)→Option Bool) (s:Int×Int) :=
 if (decide (s.2<t1.zty.length)) then
 (idx t1.zty s.2).bind λa=>
 if (((((a.cell≤s.1)||(t0≤a.cell))||(a.ztE==0))||(a.ztE<(-1000)))||(1000<a.ztE)) then
 some false
 else
 b (a.cell,ztu s.2 1)
 else
 some (((-1000000000)≤t1.bound)&&(t1.bound≤1000000000))
def zaD (n:Nat) (t0:Int) (t1:Row) :=
 ztz (zaD.l1 n t0 t1) n ((-1),0)
def zbz (n:Nat) (t0:Row) (t1:List Range) :=
 (zaD n t1.length t0).bind λa=>
 some (!a)
def za8 (n:Nat) (t0:List Range) (t1:List Row) :=
 (zaG n t0).bind λa=>
 grd (!a||(zo n t1 (λq0=>zbz n q0 t0)).isSome) <|
 some (a&&(!((zo n t1 (λq0=>zbz n q0 t0)).getD default)))
def zi.l1 (n:Nat) (t0:List Range) (t1:Range→Option Bool) (b:Int→Option Int) (a:Int) :=
 if (decide (a<t0.length)) then
 (idx t0 a).bind λc=>
 (t1 c).bind λd=>
 if d then
 some a
 else
 b (ztu a 1)
 else
 some (-1)
def zi (n:Nat) (t0:List Range) (t1:Range→Option Bool) :=
 ztz (zi.l1 n t0 t1) n 0
def zan (n:Nat) (t0:List Range) (t1:Range→Option Bool):Option Bool:=
 (zi n t0 t1).bind λa=>
 some (0≤a)
def zc3 (n:Nat) (t0:Range):Option Bool:=
 some (t0.hi<t0.lo)
def zb4 (n:Nat) (t0:List Range) :=
 (zan n t0 (λq0=>zc3 n q0)).bind λa=>
 some a
def zdM (n:Nat) (t0:System) (t1:List Row) (t2:Int) :=
 grd (!(t1.length≤t2)||(za8 n t0.box t1).isSome) <|
 some ((t1.length≤t2)&&((za8 n t0.box t1).getD default))
def ze6 (n:Nat) (t0:Int) :=
 some ((t0<(-4000000))||(4000000<t0))
def zeV (n:Nat) (t0:Int) (t1:ztR) :=
 if (((((t1.size<1)||(6<t1.size))||(t1.first<0))||(ztH t0 (ztG t1.size t1.size)<t1.first))||(t1.least.length != (ztG t1.size t1.size))) then
 some false
 else
 (zr n t1.least (λq0=>ze6 n q0)).bind λa=>
 some (!a)
def ze5 (n:Nat) (t0:List Row) (t1:System) :=
 (zdM n t1 t0 64).bind λa=>
 some (!a)
def zX.l1 (n:Nat) (t0:List (List Row)) (t1:(List Row)→Option Bool) (b:Int→Option Int) (a:Int) :=
 if (decide (a<t0.length)) then
 (idx t0 a).bind λc=>
 (t1 c).bind λd=>
 if d then
 some a
 else
 b (ztu a 1)
 else
 some (-1)
def zX (n:Nat) (t0:List (List Row)) (t1:(List Row)→Option Bool) :=
 ztz (zX.l1 n t0 t1) n 0
def zaY (n:Nat) (t0:List (List Row)) (t1:(List Row)→Option Bool):Option Bool:=
 (zX n t0 t1).bind λa=>
 some (0≤a)
def zaj.l1 (n:Nat) (t0:System) (b:Int→Option Bool) (a:Int) :=
 if (decide (a<t0.ztA.length)) then
 (idx t0.ztA a).bind λc=>
 (zeV n t0.box.length c).bind λd=>
 if (!d) then
 some false
 else
 b (ztu a 1)
 else
 (zaY n t0.cases (λq0=>ze5 n q0 t0)).bind λe=>
 some (!e)
def zaj (n:Nat) (t0:System) :=
 (za8 n t0.box []).bind λa=>
 grd ((!a)||(zb4 n t0.box).isSome) <|
 grd (((!a)||((zb4 n t0.box).getD default))||(zdM n t0 t0.rows 1024).isSome) <|
 if (((((!a)||((zb4 n t0.box).getD default))||(!((zdM n t0 t0.rows 1024).getD default)))||(64<(t0.ztA.length:Int)))||(1024<(t0.cases.length:Int))) then
 some false
 else
 ztz (zaj.l1 n t0) n 0
def zf.l4 (n:Nat) (t0:Model) (t1:Question) (i:Action) (b:Action) (j:List Range) (c:List Row) (o:Int) (t:Int) (u:List Term) (w:Int) (x:Int) (y:Int) (z:((List ztR)×Int)→Option (System×Int)) (s:(List ztR)×Int) :=
 if (decide (s.2<t0.constraints.length)) then
 jn (λv=>
 let r:=v
 z (r,ztu s.2 1)) λd=>
 (idx t0.constraints s.2).bind λa=>
 if (a.kind != 1) then
 d s.1
 else
 (zG n a (λq0=>zaV n q0)).bind λA=>
 (app 40 s.1 [A]).bind λq=>
 jn (λv=>
 let l:=v
 grd (!(t1.e != t1.f)||(zA n b a).isSome) <|
 if ((t1.e != t1.f)&&(0<(((zA n b a).getD default).length:Int))) then
 (zG n a (λq0=>zac n q0 b)).bind λE=>
 (app 40 l [E]).bind λF=>
 d F
 else
 d l) λp=>
 (zA n i a).bind λB=>
 if (decide (0<(B.length:Int))) then
 (zG n a (λq0=>zQ n q0 i)).bind λC=>
 (app 40 q [C]).bind λD=>
 p D
 else
 p q
 else
 jn (λv=>
 let k:=v.1
 let m:=v.2
 (zaj n ⟨j,k,s.1,m⟩).bind λH=>
 if (!H) then
 some (⟨[],[],[],[]⟩,8)
 else
 some (⟨j,k,s.1,m⟩,0)) λg=>
 if (o==1) then
 (zk n j ⟨o,t,⟨u,w⟩,x,y⟩ i b).bind λh=>
 if ((h.length:Int)==0) then
 (app 32 c [⟨[],(-1)⟩]).bind λG=>
 g (G,h)
 else
 g (c,h)
 else
 g (c,[])
def zf.l3 (n:Nat) (t0:Model) (t1:Question) (c:Action) (d:Action) (z:List Range) (e:List Row) (o:((List Row)×Int)→Option (System×Int)) (s:(List Row)×Int) :=
 if (decide (s.2<e.length)) then
 (idx e s.2).bind λr=>
 (zU n r (λq0=>zbo n q0) (λq0=>zbo n q0)).bind λt=>
 (app 32 s.1 [t]).bind λu=>
 o (u,ztu s.2 1)
 else
 jn (λv=>
 let g:=v.1
 let h:=v.2.1
 let i:=v.2.2.1
 let j:=v.2.2.2.1
 let k:=v.2.2.2.2.1
 let l:=v.2.2.2.2.2.1
 let m:=v.2.2.2.2.2.2
 ztz (zf.l4 n t0 t1 c d z g h i j k l m) n ([],0)) λb=>
 if t1.target.hold then
 (idx c.effect.hold t1.target.index).bind λf=>
 (zH n d f).bind λw=>
 (zU n f (λq0=>zaP n q0) (λq0=>zal n q0 w)).bind λA=>
 (app 32 s.1 [A]).bind λq=>
 b (q,0,0,[],0,0,0)
 else
 (idx t0.constraints t1.target.index).bind λa=>
 if (a.kind==0) then
 (zH n c a.row).bind λx=>
 (zH n d a.row).bind λy=>
 (zU n a.row (λq0=>zaP n q0) (λq0=>zal n q0 (ztu x y))).bind λB=>
 (app 32 s.1 [B]).bind λp=>
 b (p,a.kind,a.family,a.row.zty,a.row.bound,a.first,a.size)
 else
 b (s.1,a.kind,a.family,a.row.zty,a.row.bound,a.first,a.size)
def zf.l2 (n:Nat) (t0:Model) (t1:Question) (t2:List Int) (b:Action) (c:Action) (u:List Range) (o:((List Row)×Int)→Option (System×Int)) (s:(List Row)×Int) :=
 if (decide (s.2<t0.constraints.length)) then
 jn (λv=>
 let l:=v
 o (l,ztu s.2 1)) λh=>
 (idx t0.constraints s.2).bind λa=>
 if (a.kind != 0) then
 h s.1
 else
 (zH n b a.row).bind λd=>
 (zH n c a.row).bind λg=>
 jn (λv=>
 let t:=v
 (zU n a.row (λq0=>zbo n q0) (λq0=>zd7 n q0 t)).bind λp=>
 (app 32 s.1 [p]).bind λq=>
 h q) λi=>
 (zaF n t2 s.2).bind λw=>
 if (w&&(t1.target.hold||(t1.target.index != s.2))) then
 i (gmax (gmax (gmax 0 d) g) (ztu d g))
 else
 i (gmax (gmax 0 d) g)
 else
 (app 32 [] b.effect.hold).bind λk=>
 jn (λv=>
 let m:=v
 ztz (zf.l3 n t0 t1 b c u m) n (s.1,0)) λj=>
 if (t1.e != t1.f) then
 (app 32 k c.effect.hold).bind λr=>
 j r
 else
 j k
def zf.l1 (n:Nat) (t0:Model) (t1:Question) (t2:List Int) (c:Int→Option (System×Int)) (b:Int) :=
 if (decide (b<t2.length)) then
 (idx t2 b).bind λa=>
 grd (((a<0)||(t0.constraints.length≤a))||(idx t0.constraints a).isSome) <|
 if (((a<0)||(t0.constraints.length≤a))||((((idx t0.constraints a).getD default).kind) != 0)) then
 some (⟨[],[],[],[]⟩,2)
 else
 c (ztu b 1)
 else
 (idx t0.ztw t1.e).bind λd=>
 (idx t0.ztw t1.f).bind λg=>
 (zeM n t0).bind λh=>
 ztz (zf.l2 n t0 t1 t2 d g h) n ([],0)
def zf (n:Nat) (t0:Model) (t1:Question) (t2:List Int) :=
 (zc6 n t0 t1).bind λa=>
 if (!a) then
 some (⟨[],[],[],[]⟩,1)
 else
 ztz (zf.l1 n t0 t1 t2) n 0
def zbX (n:Nat) (t0:Term) (t1:Int) :=
 some (t0.cell==t1)
def zF.l1 (n:Nat) (t0:List Term) (t1:Term→Option Bool) (b:Int→Option Int) (a:Int) :=
 if (decide (a<t0.length)) then
 (idx t0 a).bind λc=>
 (t1 c).bind λd=>
 if d then
 some a
 else
 b (ztu a 1)
 else
 some (-1)
def zF (n:Nat) (t0:List Term) (t1:Term→Option Bool) :=
 ztz (zF.l1 n t0 t1) n 0
def zbq.l1 (n:Nat) (t0:Row) (t1:List Range) (t2:Int) (t3:Int) (d:(Int×Int)→Option Int) (s:Int×Int) :=
 if (decide (s.2<t0.zty.length)) then
 jn (λv=>
 let e:=v
 d (e,ztu s.2 1)) λb=>
 (idx t0.zty s.2).bind λa=>
 (idx t1 a.cell).bind λc=>
 if (a.cell==t2) then
 b s.1
 else
 if (decide (0<ztG a.ztE t3)) then
 b (ztu s.1 (ztG a.ztE c.lo))
 else
 b (ztu s.1 (ztG a.ztE c.hi))
 else
 some s.1
def zbq (n:Nat) (t0:Row) (t1:List Range) (t2:Int) (t3:Int) :=
 ztz (zbq.l1 n t0 t1 t2 t3) n (0,0)
def zcy (n:Nat) (t0:Int) (t1:Int) :=
 (zuU t0 t1).bind λb=>
 jn (λv=>
 let d:=v
 some d) λa=>
 (zuV t0 t1).bind λc=>
 if ((c != 0)&&((t0<0) != (t1<0))) then
 a (ztH b 1)
 else
 a b
def zc8 (n:Nat) (t0:Row) (t1:List Range) (t2:Int) :=
 (idx t1 t2).bind λa=>
 (zF n t0.zty (λq0=>zbX n q0 t2)).bind λf=>
 if (decide (f<0)) then
 some a
 else
 (idx t0.zty f).bind λb=>
 (zbq n t0 t1 t2 1).bind λg=>
 jn (λv=>
 let c:=v.1
 let d:=v.2
 (zc3 n ⟨c,d⟩).bind λj=>
 if j then
 some ⟨1,0⟩
 else
 some ⟨c,d⟩) λe=>
 if (decide (0<b.ztE)) then
 (zcy n (ztH t0.bound g) b.ztE).bind λh=>
 e (a.lo,(gmin a.hi h))
 else
 (zcy n (ztH t0.bound g) (zuj b.ztE)).bind λi=>
 e ((gmax a.lo (zuj i)),a.hi)
def zcv (n:Nat) (t0:Row) (t1:List Range) (t2:Int) :=
 (za8 n t1 [t0]).bind λa=>
 if (((!a)||(t2<0))||(t1.length≤t2)) then
 some ⟨0,0⟩
 else
 (zc8 n t0 t1 t2).bind λb=>
 some b
def zN.l2 (n:Nat) (t0:zuy) (i:((List Bool)×(List (List Int))×Nat)→Option (List Int)) (l:List Int) (m:Int) (j:((List Bool)×(List (List Int))×Nat×Int)→Option (List Int)) (s:(List Bool)×(List (List Int))×Nat×Int) :=
 let b:=s.2.2.1
 let a:=s.2.2.2
 if (decide (a<t0.size)) then
 jn (λv=>
 let e:=v.1
 let g:=v.2.1
 let h:=v.2.2
 j (e,g,h,ztu a 1)) λc=>
 (zaQ n t0 m a).bind λd=>
 grd (!d||(idx s.1 a).isSome) <|
 if (d&&(!((idx s.1 a).getD default))) then
 (idx s.1 a).bind λr=>
 (sto s.1 a true).bind λf=>
 (app 8 [] l).bind λo=>
 (app 8 o [a]).bind λp=>
 (app 24 s.2.1 [p]).bind λq=>
 c (f,q,(b+1))
 else
 c (s.1,s.2.1,b)
 else
 (cut s.2.1 1 s.2.1.length).bind λk=>
 i (s.1,k,(b+1))
def zN.l1 (n:Nat) (t0:zuy) (t2:Int) (c:((List Bool)×(List (List Int))×Nat)→Option (List Int)) (s:(List Bool)×(List (List Int))×Nat) :=
 if (decide (0<(s.2.1.length:Int))) then
 (idx s.2.1 0).bind λa=>
 (idx a (ztH a.length 1)).bind λb=>
 if (b==t2) then
 some a
 else
 ztz (zN.l2 n t0 c a b) n (s.1,s.2.1,s.2.2,0)
 else
 some []
def zN (n:Nat) (t0:zuy) (t1:Int) (t2:Int) :=
 (mkl 1 t0.size false).bind λa=>
 (idx a t1).bind λc=>
 (sto a t1 true).bind λb=>
 ztz (zN.l1 n t0 t2) n (b,[[t1]],0)
def zdU (n:Nat) (t0:Int) (t1:List Bool) (t2:Int) (t3:Int) :=
 (zbV n t0 t1).bind λa=>
 if (((((!a.2)||(t2<0))||(t0≤t2))||(t3<0))||(t0≤t3)) then
 some []
 else
 (zN n a.1 t2 t3).bind λb=>
 some b
def zbi.l1 (n:Nat) (t0:ztR) (t1:List Range) (t2:Int) (b:((List Bool)×Int)→Option Bool) (s:(List Bool)×Int) :=
 if (decide (s.2<t0.least.length)) then
 (idx t0.least s.2).bind λc=>
 (idx t1 (ztu t0.first s.2)).bind λd=>
 (idx s.1 s.2).bind λh=>
 (sto s.1 s.2 (c≤d.lo)).bind λa=>
 b (a,ztu s.2 1)
 else
 (zuV t2 t0.size).bind λe=>
 (zuU t2 t0.size).bind λf=>
 (zdU n t0.size s.1 e f).bind λg=>
 some (0<(g.length:Int))
def zbi (n:Nat) (t0:ztR) (t1:List Range) (t2:Int) :=
 (mkl 1 t0.least.length false).bind λa=>
 ztz (zbi.l1 n t0 t1 t2) n (a,0)
def zg.l2 (n:Nat) (t0:List (List Row)) (a:((List Row)×Int)→Option (List Row)) (s:(List Row)×Int) :=
 if (decide (s.2<t0.length)) then
 (idx t0 s.2).bind λb=>
 (app 32 s.1 b).bind λc=>
 a (c,ztu s.2 1)
 else
 some s.1
def zg.l1 (n:Nat) (t0:List (List Row)) (b:(Int×Int)→Option (List Row)) (s:Int×Int) :=
 if (decide (s.2<t0.length)) then
 (idx t0 s.2).bind λa=>
 if (decide (ztu s.1 a.length<0)) then
 none
 else
 b (ztu s.1 a.length,ztu s.2 1)
 else
 grd (0≤s.1∧s.1.toNat*32≤140737488355328) <|
 ztz (zg.l2 n t0) n ([],0)
def zg (n:Nat) (t0:List (List Row)) :=
 ztz (zg.l1 n t0) n (0,0)
def zbw (n:Nat) (t0:Range):Option Bool:=
 some (t0.lo<t0.hi)
def zcI (n:Nat) (t0:Range) :=
 (zaG n [t0]).bind λb=>
 if (!b) then
 some 0
 else
 (zcy n (ztu t0.lo t0.hi) 2).bind λa=>
 some a
def za.l14 (n:Nat) (self:ztY→(List Range)→Int→Option (Option (Found×ztY))) (t1:List Range) (t2:Int) (c:List Range) (q:List Step) (e:Int) (b:Int) (k:Range) (l:Range) (r:((List Tree)×(List Range)×(List Row)×(List ztR)×(List (List Row))×(List Row)×Int×Int×Int)→Option (Option (Found×ztY))) (s:(List Tree)×(List Range)×(List Row)×(List ztR)×(List (List Row))×(List Row)×Int×Int×Int) :=
 let f:=s.2.2.2.2.1
 let g:=s.2.2.2.2.2.1
 let h:=s.2.2.2.2.2.2.1
 let i:=s.2.2.2.2.2.2.2.1
 let d:=s.2.2.2.2.2.2.2.2
 if (decide (d<[⟨k.lo,b⟩,(⟨ztu b 1,l.hi⟩:Range)].length)) then
 (idx [⟨k.lo,b⟩,⟨ztu b 1,l.hi⟩] d).bind λt=>
 (app 16 [] c).bind λm=>
 (idx m e).bind λx=>
 (sto m e t).bind λp=>
 grd (c.length=t1.length) <|
 (self ⟨⟨s.2.1,s.2.2.1,s.2.2.2.1,f⟩,g,h,i⟩ p t2).bind λu=>
 pnk u λa=>
 (app 72 s.1 [⟨0,[],0,0,[]⟩]).bind λj=>
 (idx j s.1.length).bind λw=>
 (sto j s.1.length a.1.tree).bind λo=>
 if (!a.1.values.isEmpty) then
 grd (c.length=t1.length) <|
 some (some (a.1,a.2))
 else
 r (o,a.2.s.box,a.2.s.rows,a.2.s.ztA,a.2.s.cases,a.2.rows,a.2.ztO,a.2.cost,ztu d 1)
 else
 grd (c.length=t1.length) <|
 some (some (⟨[],0,⟨1,q,e,b,s.1⟩⟩,⟨⟨s.2.1,s.2.2.1,s.2.2.2.1,f⟩,g,h,i⟩))
def za.l13 (n:Nat) (t0:ztY) (t1:List Range) (t2:Int) (a:List Range) (c:Int) (d:((List Int)×Int)→Option (Option (Found×ztY))) (s:(List Int)×Int) :=
 if (decide (s.2<a.length)) then
 (idx a s.2).bind λe=>
 (idx s.1 s.2).bind λf=>
 (sto s.1 s.2 e.lo).bind λb=>
 d (b,ztu s.2 1)
 else
 grd (!s.1.isEmpty) <|
 grd (a.length=t1.length) <|
 some (some (⟨s.1,(gmax t2 0),⟨0,[],0,0,[]⟩⟩,⟨t0.s,t0.rows,t0.ztO,c⟩))
def za.l12 (n:Nat) (self:ztY→(List Range)→Int→Option (Option (Found×ztY))) (t0:ztY) (t1:List Range) (b:List Range) (j:List Step) (k:((List Tree)×(List Range)×(List Row)×(List ztR)×(List (List Row))×(List Row)×Int×Int×Int)→Option (Option (Found×ztY))) (s:(List Tree)×(List Range)×(List Row)×(List ztR)×(List (List Row))×(List Row)×Int×Int×Int) :=
 let d:=s.2.2.1
 let e:=s.2.2.2.2.1
 let f:=s.2.2.2.2.2.2.1
 let g:=s.2.2.2.2.2.2.2.1
 let c:=s.2.2.2.2.2.2.2.2
 if (decide (c<t0.s.cases.length)) then
 (idx t0.s.cases c).bind λl=>
 (zg n [d,l]).bind λm=>
 (app 16 [] b).bind λo=>
 grd (b.length=t1.length) <|
 (self ⟨⟨s.2.1,d,s.2.2.2.1,e⟩,m,f,g⟩ o c).bind λp=>
 pnk p λa=>
 (app 72 s.1 [⟨0,[],0,0,[]⟩]).bind λh=>
 (idx h s.1.length).bind λq=>
 (sto h s.1.length a.1.tree).bind λi=>
 if (!a.1.values.isEmpty) then
 grd (b.length=t1.length) <|
 some (some (a.1,a.2))
 else
 k (i,a.2.s.box,a.2.s.rows,a.2.s.ztA,a.2.s.cases,a.2.rows,a.2.ztO,a.2.cost,ztu c 1)
 else
 grd (b.length=t1.length) <|
 some (some (⟨[],0,⟨2,j,0,0,s.1⟩⟩,⟨⟨s.2.1,d,s.2.2.2.1,e⟩,s.2.2.2.2.2.1,f,g⟩))
def za.l11 (n:Nat) (t0:ztY) (t1:List Range) (m:List Range) (u:((List Range)×(List Step)×Int)→Option (Option (Found×ztY))) (k:Int) (r:((List Range)×(List Step)×Int×Bool×Int)→Option (Option (Found×ztY))) (c:ztR) (t:((List Range)×(List Step)×Int×Bool×Int)→Option (Option (Found×ztY))) (s:(List Range)×(List Step)×Int×Bool×Int) :=
 let a:=s.1
 let d:=s.2.2.1
 let h:=s.2.2.2.1
 let b:=s.2.2.2.2
 if (decide (b<c.least.length)) then
 jn (λv=>
 let l:=v.1
 let o:=v.2.1
 let p:=v.2.2.1
 let q:=v.2.2.2
 t (l,o,p,q,ztu b 1)) λi=>
 (idx c.least b).bind λf=>
 (idx a (ztu c.first b)).bind λg=>
 grd ((g.hi<f)||(zbi n c a b).isSome) <|
 if ((g.hi<f)||(!((zbi n c a b).getD default))) then
 i (a,s.2.1,d,h)
 else
 (idx a (ztu c.first b)).bind λw=>
 if (decide (⟨g.lo,ztH f 1⟩=w)) then
 i (a,s.2.1,d,h)
 else
 if (d==t0.ztO) then
 grd (a.length=t1.length) <|
 some none
 else
 (idx a (ztu c.first b)).bind λx=>
 (sto a (ztu c.first b) ⟨g.lo,ztH f 1⟩).bind λe=>
 (app 24 s.2.1 [⟨1,k,ztu c.first b⟩]).bind λj=>
 if (decide (ztH f 1<g.lo)) then
 grd (m.length=e.length) <|
 if (true||(!true)) then
 grd (t1.length=e.length) <|
 grd (e.length=t1.length) <|
 some (some (⟨[],0,⟨0,j,0,0,[]⟩⟩,⟨t0.s,t0.rows,t0.ztO,ztu d 1⟩))
 else
 u (e,j,ztu d 1)
 else
 i (e,j,ztu d 1,true)
 else
 r (a,s.2.1,d,h,ztu k 1)
def za.l10 (n:Nat) (self:ztY→(List Range)→Int→Option (Option (Found×ztY))) (t0:ztY) (t1:List Range) (t2:Int) (e:List Range) (f:((List Range)×(List Step)×Int)→Option (Option (Found×ztY))) (g:((List Range)×(List Step)×Int×Bool×Int)→Option (Option (Found×ztY))) (s:(List Range)×(List Step)×Int×Bool×Int) :=
 let a:=s.1
 let b:=s.2.2.1
 let d:=s.2.2.2.2
 if (decide (d<t0.s.ztA.length)) then
 (idx t0.s.ztA d).bind λl=>
 ztz (za.l11 n t0 t1 e f d g l) n (a,s.2.1,b,s.2.2.2.1,0)
 else
 grd (e.length=a.length) <|
 if (false||(!s.2.2.2.1)) then
 grd (t1.length=a.length) <|
 if ((0<(t0.s.cases.length:Int))&&(t2<0)) then
 ztz (za.l12 n self t0 t1 a s.2.1) n ([],t0.s.box,t0.s.rows,t0.s.ztA,t0.s.cases,t0.rows,t0.ztO,b,0)
 else
 (zi n a (λq0=>zbw n q0)).bind λc=>
 if (decide (c<0)) then
 (mkl 8 a.length 0).bind λm=>
 ztz (za.l13 n t0 t1 t2 a b) n (m,0)
 else
 (idx a c).bind λh=>
 (zcI n h).bind λi=>
 (idx a c).bind λj=>
 (idx a c).bind λk=>
 ztz (za.l14 n self t1 t2 a s.2.1 c i j k) n ([],t0.s.box,t0.s.rows,t0.s.ztA,t0.s.cases,t0.rows,t0.ztO,b,0)
 else
 f (a,s.2.1,b)
def za.l9 (n:Nat) (t0:ztY) (t1:List Range) (j:List Range) (p:((List Range)×(List Step)×Int)→Option (Option (Found×ztY))) (i:Int) (q:((List Range)×(List Step)×Int×Bool×Int)→Option (Option (Found×ztY))) (e:Row) (r:((List Range)×(List Step)×Int×Bool×Int)→Option (Option (Found×ztY))) (s:(List Range)×(List Step)×Int×Bool×Int) :=
 let a:=s.2.2.1
 let g:=s.2.2.2.2
 if (decide (g<e.zty.length)) then
 jn (λv=>
 let k:=v.1
 let l:=v.2.1
 let m:=v.2.2.1
 let o:=v.2.2.2
 r (k,l,m,o,ztu g 1)) λh=>
 (idx e.zty g).bind λc=>
 (zcv n e s.1 c.cell).bind λd=>
 (idx s.1 c.cell).bind λt=>
 if (decide (d=t)) then
 h (s.1,s.2.1,a,s.2.2.2.1)
 else
 if (a==t0.ztO) then
 grd (s.1.length=t1.length) <|
 some none
 else
 (idx s.1 c.cell).bind λu=>
 (sto s.1 c.cell d).bind λb=>
 (app 24 s.2.1 [⟨0,i,c.cell⟩]).bind λf=>
 if (decide (d.hi<d.lo)) then
 grd (j.length=b.length) <|
 if (true||(!true)) then
 grd (t1.length=b.length) <|
 grd (b.length=t1.length) <|
 some (some (⟨[],0,⟨0,f,0,0,[]⟩⟩,⟨t0.s,t0.rows,t0.ztO,ztu a 1⟩))
 else
 p (b,f,ztu a 1)
 else
 h (b,f,ztu a 1,true)
 else
 q (s.1,s.2.1,a,s.2.2.2.1,ztu i 1)
def za.l8 (n:Nat) (self:ztY→(List Range)→Int→Option (Option (Found×ztY))) (t0:ztY) (t1:List Range) (t2:Int) (c:List Range) (d:((List Range)×(List Step)×Int)→Option (Option (Found×ztY))) (g:((List Range)×(List Step)×Int×Bool×Int)→Option (Option (Found×ztY))) (s:(List Range)×(List Step)×Int×Bool×Int) :=
 let a:=s.2.2.1
 let b:=s.2.2.2.2
 if (decide (b<t0.rows.length)) then
 (idx t0.rows b).bind λe=>
 if (((e.zty.length:Int)==0)&&(e.bound<0)) then
 if (a==t0.ztO) then
 grd (s.1.length=t1.length) <|
 some none
 else
 (app 24 s.2.1 [⟨0,b,(-1)⟩]).bind λf=>
 grd (c.length=s.1.length) <|
 if (true||(!true)) then
 grd (t1.length=s.1.length) <|
 grd (s.1.length=t1.length) <|
 some (some (⟨[],0,⟨0,f,0,0,[]⟩⟩,⟨t0.s,t0.rows,t0.ztO,ztu a 1⟩))
 else
 d (s.1,f,ztu a 1)
 else
 ztz (za.l9 n t0 t1 c d b g e) n (s.1,s.2.1,a,s.2.2.2.1,0)
 else
 ztz (za.l10 n self t0 t1 t2 c d) n (s.1,s.2.1,a,s.2.2.2.1,0)
def za.l7 (n:Nat) (self:ztY→(List Range)→Int→Option (Option (Found×ztY))) (t0:ztY) (t1:List Range) (t2:Int) (a:((List Range)×(List Step)×Int)→Option (Option (Found×ztY))) (s:(List Range)×(List Step)×Int) :=
 ztz (za.l8 n self t0 t1 t2 s.1 a) n (s.1,s.2.1,s.2.2,false,0)
def za.body (n:Nat) (self:ztY→(List Range)→Int→Option (Option (Found×ztY))) (t0:ztY) (t1:List Range) (t2:Int) :=
 if (t0.cost==t0.ztO) then
 grd (t1.length=t1.length) <|
 some none
 else
 ztz (za.l7 n self t0 t1 t2) n (t1,[],ztu t0.cost 1)
def za:Nat→ztY→(List Range)→Int→Option (Option (Found×ztY))
 | 0,_,_,_=>none
 | n+1,t0,t1,t2=>za.body n (za n) t0 t1 t2
def zfG (n:Nat) (t0:System) (t1:Int):Option (Answer×Int):=
 (zaj n t0).bind λb=>
 if (!b) then
 some (⟨0,0,[],⟨0,[],0,0,[]⟩,0⟩,1)
 else
 if ((t1<0)||(65536<t1)) then
 some (⟨0,0,[],⟨0,[],0,0,[]⟩,0⟩,2)
 else
 (app 16 [] t0.box).bind λc=>
 (za n ⟨t0,t0.rows,t1,0⟩ c (-1)).bind λd=>
 ppk d (
 some (⟨2,0,[],⟨0,[],0,0,[]⟩,t1⟩,0)) λa=>
 if (!a.1.values.isEmpty) then
 some (⟨0,a.1.index,a.1.values,⟨0,[],0,0,[]⟩,a.2.cost⟩,0)
 else
 some (⟨1,0,[],a.1.tree,a.2.cost⟩,0)
def zhU (n:Nat) (t0:Answer):Option zuc:=
 some ⟨0,t0.values,⟨0,[],0,0,[]⟩,0⟩
def zhV (n:Nat) (t0:Answer):Option zuc:=
 some ⟨1,[],t0.tree,0⟩
def zhW (n:Nat):Option zuc:=
 some ⟨2,[],⟨0,[],0,0,[]⟩,0⟩
def zbn (n:Nat) (t0:Model) (t1:Question) (t2:Int) (t3:List Int):Option (zuc×Int):=
 (zf n t0 t1 t3).bind λb=>
 if ((b.2==1)||(b.2==2)) then
 some (⟨0,[],⟨0,[],0,0,[]⟩,0⟩,b.2)
 else
 if ((t2<0)||(65536<t2)) then
 some (⟨0,[],⟨0,[],0,0,[]⟩,0⟩,2)
 else
 if (b.2 != 0) then
 some (⟨2,[],⟨0,[],0,0,[]⟩,0⟩,0)
 else
 (zfG n b.1 t2).bind λa=>
 if (a.2 != 0) then
 some (⟨0,[],⟨0,[],0,0,[]⟩,0⟩,a.2)
 else
 if (a.1.kind==0) then
 (zhU n a.1).bind λc=>
 some (⟨c.kind,c.state,c.tree,a.1.steps⟩,0)
 else
 if (a.1.kind==1) then
 (zhV n a.1).bind λe=>
 some (⟨e.kind,e.state,e.tree,a.1.steps⟩,0)
 else
 if (a.1.kind==2) then
 (zhW n).bind λd=>
 some (⟨d.kind,d.state,d.tree,a.1.steps⟩,0)
 else
 none
def zap.l1 (n:Nat) (t0:List Int) (t1:List Int) (b:Int→Option Bool) (a:Int) :=
 if (decide (a<t0.length)) then
 (idx t0 a).bind λc=>
 (idx t1 a).bind λd=>
 if (c != d) then
 some false
 else
 b (ztu a 1)
 else
 some true
def zap (n:Nat) (t0:List Int) (t1:List Int) :=
 if (t0.length != (t1.length:Int)) then
 some false
 else
 ztz (zap.l1 n t0 t1) n 0
def zdD (n:Nat) (t0:Int) :=
 some ((t0<(-4000000))||(4000000<t0))
def zeg (n:Nat) (t0:System) (t1:List Int) :=
 (zaj n t0).bind λa=>
 grd (!(a&&(t1.length==(t0.box.length:Int)))||(zr n t1 (λq0=>zdD n q0)).isSome) <|
 some ((a&&(t1.length==(t0.box.length:Int)))&&(!((zr n t1 (λq0=>zdD n q0)).getD default)))
def zay.l1 (n:Nat) (t0:List Range) (t1:List Int) (d:Int→Option Bool) (a:Int) :=
 if (decide (a<t0.length)) then
 (idx t0 a).bind λb=>
 (idx t1 a).bind λc=>
 grd ((c<b.lo)||(idx t1 a).isSome) <|
 if ((c<b.lo)||(b.hi<((idx t1 a).getD default))) then
 some false
 else
 d (ztu a 1)
 else
 some true
def zay (n:Nat) (t0:List Range) (t1:List Int) :=
 if (t0.length != (t1.length:Int)) then
 some false
 else
 ztz (zay.l1 n t0 t1) n 0
def zb1.l1 (n:Nat) (t0:Row) (t1:List Int) (b:(Int×Int)→Option Int) (s:Int×Int) :=
 if (decide (s.2<t0.zty.length)) then
 (idx t0.zty s.2).bind λa=>
 (idx t1 a.cell).bind λc=>
 b (ztu s.1 (ztG a.ztE c),ztu s.2 1)
 else
 some s.1
def zb1 (n:Nat) (t0:Row) (t1:List Int) :=
 ztz (zb1.l1 n t0 t1) n (0,0)
def zd4 (n:Nat) (t0:Row) (t1:List Int):Option Bool:=
 (zb1 n t0 t1).bind λa=>
 some (a≤t0.bound)
def zaN.l1 (n:Nat) (c:List Int) (b:((List Int)×Int)→Option (List Int)) (s:(List Int)×Int) :=
 if (decide (s.2<c.length)) then
 (idx s.1 s.2).bind λd=>
 (sto s.1 s.2 s.2).bind λa=>
 b (a,ztu s.2 1)
 else
 some s.1
def zaN (n:Nat) (t0:Int) :=
 (mkl 8 t0 0).bind λa=>
 ztz (zaN.l1 n a) n (a,0)
def zbx (n:Nat) (t0:Int) (t1:List Bool) (t2:List Int) (t3:ztR) (t4:Int) :=
 (idx t1 t0).bind λa=>
 grd (!(!a)||(idx t2 (ztu (ztu t3.first (ztG t0 t3.size)) t4)).isSome) <|
 grd (!(!a)||(idx t3.least (ztu (ztG t0 t3.size) t4)).isSome) <|
 some ((!a)&&(((idx t3.least (ztu (ztG t0 t3.size) t4)).getD default)≤((idx t2 (ztu (ztu t3.first (ztG t0 t3.size)) t4)).getD default)))
def zdb (n:Nat) (t0:Int) (t1:List Bool) (t2:ztR) (t3:List Int) :=
 (idx t1 t0).bind λa=>
 grd (!(!a)||(zaN n t2.size).isSome) <|
 grd (!(!a)||(zr n ((zaN n t2.size).getD default) (λq0=>zbx n q0 t1 t3 t2 t0)).isSome) <|
 some ((!a)&&(!((zr n ((zaN n t2.size).getD default) (λq0=>zbx n q0 t1 t3 t2 t0)).getD default)))
def za9.l1 (n:Nat) (t0:ztR) (t1:List Int) (c:((List Bool)×Int)→Option Bool) (s:(List Bool)×Int) :=
 if (decide (s.2<t0.size)) then
 (zaN n t0.size).bind λd=>
 (zP n d (λq0=>zdb n q0 s.1 t0 t1)).bind λa=>
 if (decide (a<0)) then
 some false
 else
 (idx s.1 a).bind λe=>
 (sto s.1 a true).bind λb=>
 c (b,ztu s.2 1)
 else
 some true
def za9 (n:Nat) (t0:ztR) (t1:List Int) :=
 (mkl 1 t0.size false).bind λa=>
 ztz (za9.l1 n t0 t1) n (a,0)
def zar.l2 (n:Nat) (t0:System) (t1:List Int) (b:List Int) (d:((List Int)×Int)→Option ((List Int)×(List Int))) (s:(List Int)×Int) :=
 if (decide (s.2<t0.ztA.length)) then
 jn (λv=>
 let c:=v
 d (c,ztu s.2 1)) λa=>
 (idx t0.ztA s.2).bind λe=>
 (za9 n e t1).bind λf=>
 if (!f) then
 (app 8 s.1 [s.2]).bind λg=>
 a g
 else
 a s.1
 else
 some (b,s.1)
def zar.l1 (n:Nat) (t0:System) (t1:List Int) (c:((List Int)×Int)→Option ((List Int)×(List Int))) (s:(List Int)×Int) :=
 if (decide (s.2<t0.rows.length)) then
 jn (λv=>
 let b:=v
 c (b,ztu s.2 1)) λa=>
 (idx t0.rows s.2).bind λd=>
 (zd4 n d t1).bind λe=>
 if (!e) then
 (app 8 s.1 [s.2]).bind λf=>
 a f
 else
 a s.1
 else
 ztz (zar.l2 n t0 t1 s.1) n ([],0)
def zar (n:Nat) (t0:System) (t1:List Int) :=
 ztz (zar.l1 n t0 t1) n ([],0)
def zcc (n:Nat) (t0:Row) (t1:List Int) :=
 (zd4 n t0 t1).bind λa=>
 some (!a)
def zaE.l1 (n:Nat) (t0:System) (t1:List Int) (b:Int→Option (Int×Bool)) (a:Int) :=
 if (decide (a<t0.cases.length)) then
 (idx t0.cases a).bind λc=>
 (zo n c (λq0=>zcc n q0 t1)).bind λd=>
 if (!d) then
 some (a,true)
 else
 b (ztu a 1)
 else
 some (0,false)
def zaE (n:Nat) (t0:System) (t1:List Int) :=
 ztz (zaE.l1 n t0 t1) n 0
def zeh (n:Nat) (t0:System) (t1:List Int) :=
 (zar n t0 t1).bind λa=>
 if (decide (0<ztu a.1.length a.2.length)) then
 some false
 else
 (zaE n t0 t1).bind λb=>
 some (b.2||((t0.cases.length:Int)==0))
def zeU (n:Nat) (t0:System) (t1:List Int) :=
 (zeg n t0 t1).bind λa=>
 grd ((!a)||(zay n t0.box t1).isSome) <|
 if ((!a)||(!((zay n t0.box t1).getD default))) then
 some false
 else
 (zeh n t0 t1).bind λb=>
 some b
def zL.l1 (n:Nat) (t0:List Step) (t1:List Step) (b:Int→Option Bool) (a:Int) :=
 if (decide (a<t0.length)) then
 (idx t0 a).bind λc=>
 (idx t1 a).bind λd=>
 if (!(c=d)) then
 some false
 else
 b (ztu a 1)
 else
 some true
def zL (n:Nat) (t0:List Step) (t1:List Step) :=
 if (t0.length != (t1.length:Int)) then
 some false
 else
 ztz (zL.l1 n t0 t1) n 0
def zj.l1 (n:Nat) (t0:List Tree) (t1:List Tree) (t2:Tree→Tree→Option Bool) (b:Int→Option Bool) (a:Int) :=
 if (decide (a<t0.length)) then
 (idx t0 a).bind λc=>
 (idx t1 a).bind λd=>
 (t2 c d).bind λe=>
 if (!e) then
 some false
 else
 b (ztu a 1)
 else
 some true
def zj (n:Nat) (t0:List Tree) (t1:List Tree) (t2:Tree→Tree→Option Bool) :=
 if (t0.length != (t1.length:Int)) then
 some false
 else
 ztz (zj.l1 n t0 t1 t2) n 0
def zai.body (n:Nat) (self:Tree→Tree→Option Bool) (t0:Tree) (t1:Tree) :=
 grd (!(((t0.kind==t1.kind)&&(t0.cell==t1.cell))&&(t0.at_==t1.at_))||(zL n t0.steps t1.steps).isSome) <|
 grd (!((((t0.kind==t1.kind)&&(t0.cell==t1.cell))&&(t0.at_==t1.at_))&&((zL n t0.steps t1.steps).getD default))||(zj n t0.kids t1.kids (λq0 q1=>self q0 q1)).isSome) <|
 some (((((t0.kind==t1.kind)&&(t0.cell==t1.cell))&&(t0.at_==t1.at_))&&((zL n t0.steps t1.steps).getD default))&&((zj n t0.kids t1.kids (λq0 q1=>self q0 q1)).getD default))
def zai:Nat→Tree→Tree→Option Bool
 | 0,_,_=>none
 | n+1,t0,t1=>zai.body n (zai n) t0 t1
def zbP.l1 (n:Nat) (t0:Tree) (d:Int→Option Bool) (b:Int):Option Bool:=
 if (decide (b<t0.steps.length)) then
 (idx t0.steps b).bind λa=>
 jn (λv=>
 let e:=v
 if ((((((a.kind != 0)&&(a.kind != 1))||(a.index<0))||(2048<a.index))||(a.cell<e))||(128≤a.cell)) then
 some false
 else
 d (ztu b 1)) λc=>
 if (a.kind==1) then
 c 0
 else
 c (-1)
 else
 if (t0.kind==0) then
 some ((((t0.kids.length:Int)==0)&&(t0.cell==0))&&(t0.at_==0))
 else
 if (t0.kind==1) then
 some ((((((t0.kids.length:Int)==2)&&(0≤t0.cell))&&(t0.cell<128))&&((-1000000)≤t0.at_))&&(t0.at_≤1000000))
 else
 if (t0.kind==2) then
 some ((((1≤(t0.kids.length:Int))&&((t0.kids.length:Int)≤1024))&&(t0.cell==0))&&(t0.at_==0))
 else
 some false
def zbP (n:Nat) (t0:Tree) :=
 ztz (zbP.l1 n t0) n 0
def zam.l1 (n:Nat) (v:Int→Tree→Int→Option (Bool×Int)) (level:Int) (kids:List Tree) (rec:Int×Int→Option (Bool×Int)) (s:Int×Int) :=
 if (decide (s.2<kids.length)) then
 (idx kids s.2).bind λx=>
 (v (ztu level 1) x s.1).bind λr=>
 if r.1=true then rec (r.2,ztu s.2 1) else some (false,r.2)
 else some (true,s.1)
def zam (n:Nat):Nat→Int→Tree→Int→Option (Bool×Int)
 | 0,_,_,_=>none
 | k+1,level,t,cost=>
 if ((4096<level)||(65536<ztu cost (ztu 1 t.steps.length)))=true then some (false,ztu cost (ztu 1 t.steps.length))
 else
 (zbP n t).bind λb=>
 if (!b)=true then some (false,ztu cost (ztu 1 t.steps.length))
 else ztz (zam.l1 n (zam n k) level t.kids) n (ztu cost (ztu 1 t.steps.length),0)
def zbT (n:Nat) (t0:Tree) :=(zam n n 1 t0 0).map (·.1)
def zbF.l1 (n:Nat) (t0:ztX) (t1:ztR) (t2:Int) (b:((List Bool)×Int)→Option Bool) (s:(List Bool)×Int) :=
 if (decide (s.2<t1.least.length)) then
 (idx t1.least s.2).bind λc=>
 (idx t0.box (ztu t1.first s.2)).bind λd=>
 (idx s.1 s.2).bind λh=>
 (sto s.1 s.2 (c≤d.lo)).bind λa=>
 b (a,ztu s.2 1)
 else
 (zuV t2 t1.size).bind λe=>
 (zuU t2 t1.size).bind λf=>
 (zdU n t1.size s.1 e f).bind λg=>
 some (0<(g.length:Int))
def zbF (n:Nat) (t0:ztX) (t1:ztR) (t2:Int) :=
 (mkl 1 t1.least.length false).bind λa=>
 ztz (zbF.l1 n t0 t1 t2) n (a,0)
def zfz (n:Nat) (t0:Range) (t1:Range):Option Range:=
 some ⟨(gmax t0.lo t1.lo),(gmin t0.hi t1.hi)⟩
def zy.l2 (n:Nat) (self:ztX→Tree→Option Bool) (t0:ztX) (t1:Tree) (b:List Range) (c:Int→Option Bool) (a:Int) :=
 if (decide (a<t1.kids.length)) then
 (idx t1.kids a).bind λd=>
 (idx t0.s.cases a).bind λe=>
 (zg n [t0.rows,e]).bind λf=>
 (self ⟨t0.s,f,b,true⟩ d).bind λg=>
 if (!g) then
 some false
 else
 c (ztu a 1)
 else
 some true
def zy.l1 (n:Nat) (self:ztX→Tree→Option Bool) (t0:ztX) (t1:Tree) (r:((List Range)×Int)→Option Bool) (s:(List Range)×Int) :=
 let b:=s.1
 if (decide (s.2<t1.steps.length)) then
 jn (λv=>
 let o:=v
 r (o,ztu s.2 1)) λd=>
 (idx t1.steps s.2).bind λa=>
 if (a.kind==1) then
 if (decide (t0.s.ztA.length≤a.index)) then
 if (!false) then
 some false
 else
 d b
 else
 (idx t0.s.ztA a.index).bind λc=>
 if ((ztH a.cell c.first<0)||(c.least.length≤ztH a.cell c.first)) then
 if (!false) then
 some false
 else
 d b
 else
 jn (λv=>
 let g:=v
 (idx g a.cell).bind λB=>
 (idx g a.cell).bind λD=>
 if (decide (D.hi<B.lo)) then
 some true
 else
 if (!true) then
 some false
 else
 d g) λk=>
 (zbF n ⟨t0.s,t0.rows,b,t0.ztQ⟩ c (ztH a.cell c.first)).bind λx=>
 if x then
 (idx b a.cell).bind λy=>
 (idx c.least (ztH a.cell c.first)).bind λz=>
 (idx b a.cell).bind λA=>
 (sto b a.cell ⟨A.lo,(gmin y.hi (ztH z 1))⟩).bind λp=>
 k p
 else
 k b
 else
 if ((t0.rows.length≤a.index)||(b.length≤a.cell)) then
 if (!false) then
 some false
 else
 d b
 else
 (idx t0.rows a.index).bind λe=>
 if (decide (a.cell<0)) then
 if (((e.zty.length:Int)==0)&&(e.bound<0)) then
 some true
 else
 if (!(((e.zty.length:Int)==0)&&(e.bound<0))) then
 some false
 else
 d b
 else
 (zcv n e b a.cell).bind λt=>
 (idx b a.cell).bind λG=>
 (sto b a.cell t).bind λh=>
 (idx h a.cell).bind λu=>
 (idx h a.cell).bind λw=>
 if (decide (w.hi<u.lo)) then
 some true
 else
 if (!true) then
 some false
 else
 d h
 else
 if (t1.kind==1) then
 if (decide (b.length≤t1.cell)) then
 some false
 else
 (idx b t1.cell).bind λf=>
 (app 16 [] b).bind λl=>
 (app 16 [] b).bind λm=>
 (zfz n f ⟨f.lo,t1.at_⟩).bind λC=>
 (idx l t1.cell).bind λH=>
 (sto l t1.cell C).bind λq=>
 (zfz n f ⟨ztu t1.at_ 1,f.hi⟩).bind λE=>
 (idx m t1.cell).bind λI=>
 (sto m t1.cell E).bind λj=>
 (idx t1.kids 0).bind λF=>
 (self ⟨t0.s,t0.rows,q,t0.ztQ⟩ F).bind λi=>
 grd (!i||(idx t1.kids 1).isSome) <|
 grd (!i||(self ⟨t0.s,t0.rows,j,t0.ztQ⟩ ((idx t1.kids 1).getD default)).isSome) <|
 some (i&&((self ⟨t0.s,t0.rows,j,t0.ztQ⟩ ((idx t1.kids 1).getD default)).getD default))
 else
 if (t1.kind==2) then
 if (t0.ztQ||(t1.kids.length != (t0.s.cases.length:Int))) then
 some false
 else
 ztz (zy.l2 n self t0 t1 b) n 0
 else
 some false
def zy.body (n:Nat) (self:ztX→Tree→Option Bool) (t0:ztX) (t1:Tree) :=
 (zb4 n t0.box).bind λa=>
 if a then
 some true
 else
 (app 16 [] t0.box).bind λb=>
 ztz (zy.l1 n self t0 t1) n (b,0)
def zy:Nat→ztX→Tree→Option Bool
 | 0,_,_=>none
 | n+1,t0,t1=>zy.body n (zy n) t0 t1
def zfN (n:Nat) (t0:System) (t1:Tree) :=
 (zaj n t0).bind λa=>
 grd (!a||(zbT n t1).isSome) <|
 grd (!(a&&((zbT n t1).getD default))||(zy n ⟨t0,t0.rows,t0.box,false⟩ t1).isSome) <|
 some ((a&&((zbT n t1).getD default))&&((zy n ⟨t0,t0.rows,t0.box,false⟩ t1).getD default))
def zaI (n:Nat) (t0:Model) (t1:Question) (t2:zuc) (t3:List Int) :=
 (zf n t0 t1 t3).bind λa=>
 if (((a.2 != 0)||(t2.steps<0))||(65536<t2.steps)) then
 some false
 else
 if (t2.kind==0) then
 (zeU n a.1 t2.state).bind λb=>
 grd (!b||(zai n t2.tree ⟨0,[],0,0,[]⟩).isSome) <|
 some (b&&((zai n t2.tree ⟨0,[],0,0,[]⟩).getD default))
 else
 if (t2.kind==1) then
 (zfN n a.1 t2.tree).bind λc=>
 some (c&&((t2.state.length:Int)==0))
 else
 some false
def zg7 (n:Nat) :=
 (zhI n ).bind λc=>
 (zbn n c ⟨0,0,⟨false,1⟩⟩ 100 []).bind λa=>
 (zbn n c ⟨0,0,⟨false,0⟩⟩ 100 []).bind λb=>
 (zbn n c ⟨0,0,⟨false,1⟩⟩ 0 []).bind λd=>
 grd (!((a.2==0)&&(a.1.kind==0))||(zap n a.1.state [0]).isSome) <|
 grd (!(((((a.2==0)&&(a.1.kind==0))&&((zap n a.1.state [0]).getD default))&&(b.2==0))&&(b.1.kind==1))||(zaI n c ⟨0,0,⟨false,1⟩⟩ a.1 []).isSome) <|
 grd (!((((((a.2==0)&&(a.1.kind==0))&&((zap n a.1.state [0]).getD default))&&(b.2==0))&&(b.1.kind==1))&&((zaI n c ⟨0,0,⟨false,1⟩⟩ a.1 []).getD default))||(zaI n c ⟨0,0,⟨false,0⟩⟩ b.1 []).isSome) <|
 grd (!(((((((a.2==0)&&(a.1.kind==0))&&((zap n a.1.state [0]).getD default))&&(b.2==0))&&(b.1.kind==1))&&((zaI n c ⟨0,0,⟨false,1⟩⟩ a.1 []).getD default))&&((zaI n c ⟨0,0,⟨false,0⟩⟩ b.1 []).getD default))||(zaI n c ⟨0,0,⟨false,1⟩⟩ b.1 []).isSome) <|
 some ((((((((((a.2==0)&&(a.1.kind==0))&&((zap n a.1.state [0]).getD default))&&(b.2==0))&&(b.1.kind==1))&&((zaI n c ⟨0,0,⟨false,1⟩⟩ a.1 []).getD default))&&((zaI n c ⟨0,0,⟨false,0⟩⟩ b.1 []).getD default))&&(!((zaI n c ⟨0,0,⟨false,1⟩⟩ b.1 []).getD default)))&&(d.2==0))&&(d.1.kind==2))
def zc4.l1 (n:Nat) (t0:List Int) (t1:List Table) (c:Int→Option Bool) (a:Int) :=
 if (decide (a<t1.length)) then
 (idx t1 a).bind λb=>
 grd ((40<(b.name.length:Int))||(idx t1 a).isSome) <|
 if ((40<(b.name.length:Int))||(12<((((idx t1 a).getD default).ztv).length:Int))) then
 some false
 else
 c (ztu a 1)
 else
 some (((t0.length:Int)≤12)&&((t1.length:Int)≤20))
def zc4 (n:Nat) (t0:List Int) (t1:List Table) :=
 ztz (zc4.l1 n t0 t1) n 0
def zw.l5 (n:Nat) (f:Int) (c:Int→Option Bool) (b:Action) (d:Int→Option Bool) (a:Int) :=
 if (decide (a<b.effect.hold.length)) then
 (idx b.effect.hold a).bind λe=>
 if (decide (20<(e.zty.length:Int))) then
 some false
 else
 d (ztu a 1)
 else
 c (ztu f 1)
def zw.l4 (n:Nat) (t0:Model) (c:Int→Option Bool) (b:Int) :=
 if (decide (b<t0.ztw.length)) then
 (idx t0.ztw b).bind λa=>
 (idx t0.ztw b).bind λd=>
 if ((((6<(d.arguments.length:Int))||(20<(a.effect.delta.length:Int)))||(10<(a.effect.hold.length:Int)))||(40<(a.effect.ztD.length:Int))) then
 some false
 else
 ztz (zw.l5 n b c a) n 0
 else
 some true
def zw.l3 (n:Nat) (t0:Model) (c:Int→Option Bool) (a:Int) :=
 if (decide (a<t0.ztx.length)) then
 (idx t0.ztx a).bind λb=>
 grd ((40<(b.name.length:Int))||(idx t0.ztx a).isSome) <|
 if ((40<(b.name.length:Int))||(6<((((idx t0.ztx a).getD default).ztB).length:Int))) then
 some false
 else
 c (ztu a 1)
 else
 ztz (zw.l4 n t0) n 0
def zw.l2 (n:Nat) (t0:Model) (b:Int→Option Bool) (a:Int) :=
 if (decide (a<t0.constraints.length)) then
 (idx t0.constraints a).bind λc=>
 if (decide (20<(c.row.zty.length:Int))) then
 some false
 else
 b (ztu a 1)
 else
 ztz (zw.l3 n t0) n 0
def zw.l1 (n:Nat) (t0:Model) (b:Int→Option Bool) (a:Int) :=
 if (decide (a<t0.ztI.length)) then
 (idx t0.ztI a).bind λc=>
 if (decide (40<(c.length:Int))) then
 some false
 else
 b (ztu a 1)
 else
 ztz (zw.l2 n t0) n 0
def zw (n:Nat) (t0:Model) :=
 grd ((((((((8<(t0.ztB.length:Int))||(6<(t0.tables.length:Int)))||(20<(t0.ztI.length:Int)))||(60<(t0.constraints.length:Int)))||(8<(t0.ztx.length:Int)))||(30<(t0.ztw.length:Int)))||(12<(t0.ztK.length:Int)))||(zc4 n t0.ztB t0.tables).isSome) <|
 if ((((((((8<(t0.ztB.length:Int))||(6<(t0.tables.length:Int)))||(20<(t0.ztI.length:Int)))||(60<(t0.constraints.length:Int)))||(8<(t0.ztx.length:Int)))||(30<(t0.ztw.length:Int)))||(12<(t0.ztK.length:Int)))||(!((zc4 n t0.ztB t0.tables).getD default))) then
 some false
 else
 ztz (zw.l1 n t0) n 0
def zbA.l1 (n:Nat) (t0:List Int) (c:Int→Option Bool) (a:Int) :=
 if (decide (a<t0.length)) then
 (idx t0 a).bind λb=>
 grd ((b<1)||(idx t0 a).isSome) <|
 if ((b<1)||(6<((idx t0 a).getD default))) then
 some false
 else
 c (ztu a 1)
 else
 some true
def zbA (n:Nat) (t0:List Int) :=
 ztz (zbA.l1 n t0) n 0
def zak.l1 (n:Nat) (t0:List Int) (t1:List Int) (b:(Int×Int)→Option Int) (s:Int×Int) :=
 if (decide (s.2<t1.length)) then
 (idx t1 s.2).bind λa=>
 grd ((a<0)||(idx t1 s.2).isSome) <|
 if ((a<0)||(t0.length≤((idx t1 s.2).getD default))) then
 some 0
 else
 (idx t1 s.2).bind λc=>
 (idx t0 c).bind λd=>
 b (ztG s.1 d,ztu s.2 1)
 else
 some s.1
def zak (n:Nat) (t0:List Int) (t1:List Int) :=
 grd ((3<(t1.length:Int))||(zbA n t0).isSome) <|
 if ((3<(t1.length:Int))||(!((zbA n t0).getD default))) then
 some 0
 else
 ztz (zak.l1 n t0 t1) n (1,0)
def zbe (n:Nat) (t0:Int) :=
 some ((((t0==9)||(t0==10))||(t0==13))||(t0==32))
def zbk.l2 (n:Nat) (t0:List UInt8) (b:Int→Option Int) (c:Int→Option Int) (a:Int) :=
 grd (!(a<t0.length)||(sidx t0 a).isSome) <|
 if ((a<t0.length)&&(((sidx t0 a).getD default) != 10)) then
 c (ztu a 1)
 else
 b a
def zbk.l1 (n:Nat) (t0:List UInt8) (b:Int→Option Int) (a:Int) :=
 grd (!(a<t0.length)||(sidx t0 a).isSome) <|
 grd (!(a<t0.length)||(zbe n ((sidx t0 a).getD default)).isSome) <|
 grd (!(a<t0.length)||(((zbe n ((sidx t0 a).getD default)).getD default)||(sidx t0 a).isSome)) <|
 if ((a<t0.length)&&(((zbe n ((sidx t0 a).getD default)).getD default)||(((sidx t0 a).getD default)==35))) then
 (sidx t0 a).bind λc=>
 if (c==35) then
 ztz (zbk.l2 n t0 b) n a
 else
 b (ztu a 1)
 else
 some a
def zbk (n:Nat) (t0:List UInt8) (t1:Int) :=
 ztz (zbk.l1 n t0) n t1
def za5 (n:Nat) (t0:Int) :=
 some ((97≤t0)&&(t0≤122))
def zbN (n:Nat) (t0:Int) :=
 some ((48≤t0)&&(t0≤57))
def ze1 (n:Nat):Option (List (List UInt8)):=
 some [[115,111,114,116],[114,101,108,97,116,105,111,110],[99,111,117,110,116,101,114],[115,101,116],[114,101,103,105,115,116,101,114],[105,110,118,97,114,105,97,110,116],[111,112,101,114,97,116,105,111,110],[107,101,121],[114,101,102,101,114,101,110,99,101],[116,111],[99,111,117,110,116],[97,99,121,99,108,105,99],[97,108,108],[115,117,109],[105,110],[97,100,100,119,105,110,115],[114,101,109,111,118,101,119,105,110,115],[108,97,115,116],[109,117,108,116,105],[104,105,100,101],[111,114,100,101,114,101,100],[114,101,113,117,105,114,101],[104,111,108,100],[105,110,115,101,114,116],[100,101,108,101,116,101],[97,100,100],[102,114,111,109],[112,117,116],[100,114,111,112],[97,115,115,105,103,110],[102,111,114],[119,104,101,114,101],[97,110,100],[111,114],[110,111,116]]
def zcN.l1 (n:Nat) (t0:List (List UInt8)) (t1:List UInt8) (b:Int→Option Bool) (a:Int) :=
 if (decide (a<t0.length)) then
 (idx t0 a).bind λc=>
 if (decide (c=t1)) then
 some true
 else
 b (ztu a 1)
 else
 some false
def zcN (n:Nat) (t0:List (List UInt8)) (t1:List UInt8) :=
 ztz (zcN.l1 n t0 t1) n 0
def zfD (n:Nat):Option (List (List UInt8)):=
 some [[61,61],[33,61],[60,61],[62,61],[46,46],[60],[62],[61],[43],[45],[42],[40],[41],[123],[125],[44],[58],[59]]
def zbs.l1 (n:Nat) (t0:List UInt8) (t1:Int) (c:List (List UInt8)) (d:Int→Option Int) (b:Int):Option Int:=
 if (decide (b<c.length)) then
 (idx c b).bind λa=>
 grd (!(ztu t1 a.length≤t0.length)||(cut t0 t1 (ztu t1 a.length)).isSome) <|
 grd (!(ztu t1 a.length≤t0.length)||(idx c b).isSome) <|
 if ((ztu t1 a.length≤t0.length)&&(((cut t0 t1 (ztu t1 a.length)).getD default)=((idx c b).getD default))) then
 some a.length
 else
 d (ztu b 1)
 else
 some 0
def zbs (n:Nat) (t0:List UInt8) (t1:Int) :=
 (zfD n ).bind λa=>
 ztz (zbs.l1 n t0 t1 a) n 0
def zau.l3 (n:Nat) (t0:List UInt8) (b:Int→Option (Int×Int)) (a:Int) :=
 grd (!(a<t0.length)||(sidx t0 a).isSome) <|
 grd (!(a<t0.length)||(zbe n ((sidx t0 a).getD default)).isSome) <|
 grd (!((a<t0.length)&&(!((zbe n ((sidx t0 a).getD default)).getD default)))||(sidx t0 a).isSome) <|
 grd (!(((a<t0.length)&&(!((zbe n ((sidx t0 a).getD default)).getD default)))&&(((sidx t0 a).getD default) != 35))||(sidx t0 a).isSome) <|
 grd (!(((a<t0.length)&&(!((zbe n ((sidx t0 a).getD default)).getD default)))&&(((sidx t0 a).getD default) != 35))||(za5 n ((sidx t0 a).getD default)).isSome) <|
 grd (!((((a<t0.length)&&(!((zbe n ((sidx t0 a).getD default)).getD default)))&&(((sidx t0 a).getD default) != 35))&&(!((za5 n ((sidx t0 a).getD default)).getD default)))||(sidx t0 a).isSome) <|
 grd (!((((a<t0.length)&&(!((zbe n ((sidx t0 a).getD default)).getD default)))&&(((sidx t0 a).getD default) != 35))&&(!((za5 n ((sidx t0 a).getD default)).getD default)))||(zbN n ((sidx t0 a).getD default)).isSome) <|
 grd (!(((((a<t0.length)&&(!((zbe n ((sidx t0 a).getD default)).getD default)))&&(((sidx t0 a).getD default) != 35))&&(!((za5 n ((sidx t0 a).getD default)).getD default)))&&(!((zbN n ((sidx t0 a).getD default)).getD default)))||(zbs n t0 a).isSome) <|
 if ((((((a<t0.length)&&(!((zbe n ((sidx t0 a).getD default)).getD default)))&&(((sidx t0 a).getD default) != 35))&&(!((za5 n ((sidx t0 a).getD default)).getD default)))&&(!((zbN n ((sidx t0 a).getD default)).getD default)))&&(((zbs n t0 a).getD default)==0)) then
 b (ztu a 1)
 else
 some (5,a)
def zau.l2 (n:Nat) (t0:List UInt8) (b:Int→Option (Int×Int)) (a:Int) :=
 grd (!(a<t0.length)||(sidx t0 a).isSome) <|
 grd (!(a<t0.length)||(zbN n ((sidx t0 a).getD default)).isSome) <|
 if ((a<t0.length)&&((zbN n ((sidx t0 a).getD default)).getD default)) then
 b (ztu a 1)
 else
 some (3,a)
def zau.l1 (n:Nat) (t0:List UInt8) (t1:Int) (b:Int→Option (Int×Int)) (a:Int) :=
 grd (!(a<t0.length)||(sidx t0 a).isSome) <|
 grd (!(a<t0.length)||(za5 n ((sidx t0 a).getD default)).isSome) <|
 grd (!(a<t0.length)||(((za5 n ((sidx t0 a).getD default)).getD default)||(sidx t0 a).isSome)) <|
 grd (!(a<t0.length)||(((za5 n ((sidx t0 a).getD default)).getD default)||(zbN n ((sidx t0 a).getD default)).isSome)) <|
 grd (!(a<t0.length)||((((za5 n ((sidx t0 a).getD default)).getD default)||((zbN n ((sidx t0 a).getD default)).getD default))||(sidx t0 a).isSome)) <|
 if ((a<t0.length)&&((((za5 n ((sidx t0 a).getD default)).getD default)||((zbN n ((sidx t0 a).getD default)).getD default))||(((sidx t0 a).getD default)==95))) then
 b (ztu a 1)
 else
 (ze1 n ).bind λc=>
 (cut t0 t1 a).bind λd=>
 (zcN n c d).bind λe=>
 if e then
 some (2,a)
 else
 some (1,a)
def zau (n:Nat) (t0:List UInt8) (t1:Int) :=
 (sidx t0 t1).bind λb=>
 (za5 n b).bind λc=>
 if c then
 ztz (zau.l1 n t0 t1) n t1
 else
 (sidx t0 t1).bind λd=>
 (zbN n d).bind λe=>
 if e then
 ztz (zau.l2 n t0) n t1
 else
 (zbs n t0 t1).bind λa=>
 if (decide (0<a)) then
 some (4,ztu t1 a)
 else
 ztz (zau.l3 n t0) n t1
def zcU.l1 (n:Nat) (t0:List UInt8) (c:((List Token)×Int)→Option ((List Token)×Int)) (s:(List Token)×Int) :=
 (zbk n t0 s.2).bind λd=>
 if (decide (d<t0.length)) then
 (zbk n t0 s.2).bind λb=>
 (zau n t0 b).bind λa=>
 (app 32 s.1 [⟨a.1,s.2,b,a.2⟩]).bind λe=>
 c (e,a.2)
 else
 (app 32 s.1 [⟨0,s.2,t0.length,t0.length⟩]).bind λf=>
 some (f,0)
def zcU (n:Nat) (t0:List UInt8) :=
 if (decide (4096<(t0.length:Int))) then
 some ([],8)
 else
 ztz (zcU.l1 n t0) n ([],0)
def zgC (n:Nat) (t0:List UInt8) :=
 (zcU n t0).bind λa=>
 grd (((a.2 != 0)||((a.1.length:Int) != 2))||(idx a.1 0).isSome) <|
 grd ((((a.2 != 0)||((a.1.length:Int) != 2))||((((idx a.1 0).getD default).at_) != 0))||(idx a.1 0).isSome) <|
 if ((((a.2 != 0)||((a.1.length:Int) != 2))||((((idx a.1 0).getD default).at_) != 0))||((((idx a.1 0).getD default).end_) != t0.length)) then
 some 0
 else
 (idx a.1 0).bind λb=>
 some b.kind
def zfh (n:Nat) (t0:List UInt8) :=
 (zgC n t0).bind λa=>
 some ((a==1)&&((t0.length:Int)≤16))
def zbZ (n:Nat) (t0:Int) :=
 some ((t0==0)||(t0==1))
def zaB.l2 (n:Nat) (t0:List Int) (t1:List Table) (c:Int) (d:Int) (k:Int) (f:(Int×Int)→Option Bool) (a:Table) (g:Int→Option Bool) (e:Int) :=
 if (decide (e<k)) then
 (idx t1 e).bind λi=>
 if (decide (i.name=a.name)) then
 some false
 else
 g (ztu e 1)
 else
 (zak n t0 a.ztv).bind λb=>
 (zfh n a.name).bind λj=>
 if ((((!j)||(a.kind<0))||(5<a.kind))||(b==0)) then
 some false
 else
 if (((a.range.hi<a.range.lo)||(a.range.lo<(-9999)))||(9999<a.range.hi)) then
 some false
 else
 if ((((a.kind==0)||(a.kind==2))||(a.kind==3))&&((a.range.lo != 0)||(a.range.hi != 1))) then
 some false
 else
 (zbZ n a.kind).bind λh=>
 if h then
 if (a.first != c) then
 some false
 else
 f (ztu c b,d)
 else
 if (a.first != d) then
 some false
 else
 f (c,ztu d b)
def zaB.l1 (n:Nat) (t0:List Int) (t1:List Table) (b:(Int×Int×Int)→Option Bool) (s:Int×Int×Int) :=
 if (decide (s.2.2<t1.length)) then
 jn (λv=>
 let d:=v.1
 let e:=v.2
 b (d,e,ztu s.2.2 1)) λa=>
 (idx t1 s.2.2).bind λc=>
 ztz (zaB.l2 n t0 t1 s.1 s.2.1 s.2.2 a c) n 0
 else
 some ((s.1≤128)&&(s.2.1≤64))
def zaB (n:Nat) (t0:List Int) (t1:List Table) :=
 grd ((4<(t0.length:Int))||(zbA n t0).isSome) <|
 if (((4<(t0.length:Int))||(!((zbA n t0).getD default)))||(12<(t1.length:Int))) then
 some false
 else
 ztz (zaB.l1 n t0 t1) n (0,0,0)
def zaJ.l2 (n:Nat) (t0:List Int) (t1:List Table) (t2:Bool) (a:Int) (c:((List Range)×Int)→Option (List Range)) (d:((List Range)×Int)→Option (List Range)) (s:(List Range)×Int) :=
 (idx t1 a).bind λe=>
 (zbZ n e.kind).bind λb=>
 grd (!(b==t2)||(idx t1 a).isSome) <|
 grd (!(b==t2)||(zak n t0 (((idx t1 a).getD default).ztv)).isSome) <|
 if ((b==t2)&&(s.2<((zak n t0 (((idx t1 a).getD default).ztv)).getD default))) then
 (idx t1 a).bind λf=>
 (app 16 s.1 [f.range]).bind λg=>
 d (g,ztu s.2 1)
 else
 c (s.1,ztu a 1)
def zaJ.l1 (n:Nat) (t0:List Int) (t1:List Table) (t2:Bool) (a:((List Range)×Int)→Option (List Range)) (s:(List Range)×Int) :=
 if (decide (s.2<t1.length)) then
 ztz (zaJ.l2 n t0 t1 t2 s.2 a) n (s.1,0)
 else
 some s.1
def zaJ (n:Nat) (t0:List Int) (t1:List Table) (t2:Bool) :=
 (zaB n t0 t1).bind λa=>
 if (!a) then
 some []
 else
 ztz (zaJ.l1 n t0 t1 t2) n ([],0)
def zcm (n:Nat) (t0:Model) :=
 (zaJ n t0.ztB t0.tables true).bind λa=>
 some a
def zbO.l2 (n:Nat) (a:List Range) (d:(Int×Int)→Option Bool) (s:Int×Int) :=
 if (decide (s.2<a.length)) then
 (idx a s.2).bind λb=>
 (idx a s.2).bind λc=>
 if (decide (4096<ztG s.1 (ztu (ztH b.hi c.lo) 1))) then
 some false
 else
 d (ztG s.1 (ztu (ztH b.hi c.lo) 1),ztu s.2 1)
 else
 some true
def zbO.l1 (n:Nat) (t0:Model) (c:Int→Option Bool) (a:Int) :=
 if (decide (a<t0.ztw.length)) then
 (idx t0.ztw a).bind λd=>
 if (decide (4<(d.effect.hold.length:Int))) then
 some false
 else
 c (ztu a 1)
 else
 (zcm n t0).bind λb=>
 if (decide (12<(b.length:Int))) then
 some false
 else
 ztz (zbO.l2 n b) n (1,0)
def zbO (n:Nat) (t0:Model) :=
 (zw n t0).bind λa=>
 if (((!a)||(12<(t0.ztw.length:Int)))||(40<(t0.constraints.length:Int))) then
 some false
 else
 ztz (zbO.l1 n t0) n 0
def za0.l1 (n:Nat) (t0:List (List UInt8)) (c:Int→Option Bool) (a:Int) :=
 if (decide (a<t0.length)) then
 (idx t0 a).bind λd=>
 (zfh n d).bind λb=>
 grd ((!b)||(cut t0 0 a).isSome) <|
 grd ((!b)||(idx t0 a).isSome) <|
 grd ((!b)||(zcN n ((cut t0 0 a).getD default) ((idx t0 a).getD default)).isSome) <|
 if ((!b)||((zcN n ((cut t0 0 a).getD default) ((idx t0 a).getD default)).getD default)) then
 some false
 else
 c (ztu a 1)
 else
 some true
def za0 (n:Nat) (t0:List (List UInt8)) :=
 ztz (za0.l1 n t0) n 0
def zbf.l1 (n:Nat) (t0:List Term) (t1:List Term) (b:Int→Option Bool) (a:Int) :=
 if (decide (a<t0.length)) then
 (idx t0 a).bind λc=>
 (idx t1 a).bind λd=>
 if (!(c=d)) then
 some false
 else
 b (ztu a 1)
 else
 some true
def zbf (n:Nat) (t0:List Term) (t1:List Term) :=
 if (t0.length != (t1.length:Int)) then
 some false
 else
 ztz (zbf.l1 n t0 t1) n 0
def zdx (n:Nat) (t0:Row) (t1:Row) :=
 grd (!(t0.bound==t1.bound)||(zbf n t0.zty t1.zty).isSome) <|
 some ((t0.bound==t1.bound)&&((zbf n t0.zty t1.zty).getD default))
def zaS (n:Nat) (t0:Int) (t1:Int) :=
 some ((zuj t1≤t0)&&(t0≤t1))
def zcP.l1 (n:Nat) (t0:Row) (t1:Int) (c:Int→Option Bool) (b:Int) :=
 if (decide (b<t0.zty.length)) then
 (idx t0.zty b).bind λa=>
 grd (((a.cell<0)||(t1≤a.cell))||(!(0<b)||(idx t0.zty (ztH b 1)).isSome)) <|
 grd (((((a.cell<0)||(t1≤a.cell))||((0<b)&&(a.cell≤((idx t0.zty (ztH b 1)).getD default).cell)))||(a.ztE==0))||(zaS n a.ztE 1000).isSome) <|
 if (((((a.cell<0)||(t1≤a.cell))||((0<b)&&(a.cell≤((idx t0.zty (ztH b 1)).getD default).cell)))||(a.ztE==0))||(!((zaS n a.ztE 1000).getD default))) then
 some false
 else
 c (ztu b 1)
 else
 (zaS n t0.bound 1000000000).bind λd=>
 some d
def zcP (n:Nat) (t0:Row) (t1:Int) :=
 ztz (zcP.l1 n t0 t1) n 0
def zcs.l1 (n:Nat) (t0:Model) (t1:Constraint) (c:Int→Option Bool) (b:Int) :=
 if (decide (b<t0.tables.length)) then
 (idx t0.tables b).bind λa=>
 grd (!((a.kind==0)&&((a.ztv.length:Int)==2))||(idx a.ztv 0).isSome) <|
 grd (!((a.kind==0)&&((a.ztv.length:Int)==2))||(idx a.ztv 1).isSome) <|
 grd (!((((a.kind==0)&&((a.ztv.length:Int)==2))&&(((idx a.ztv 0).getD default)==((idx a.ztv 1).getD default)))&&(a.first==t1.first))||(idx a.ztv 0).isSome) <|
 grd (!((((a.kind==0)&&((a.ztv.length:Int)==2))&&(((idx a.ztv 0).getD default)==((idx a.ztv 1).getD default)))&&(a.first==t1.first))||(idx t0.ztB ((idx a.ztv 0).getD default)).isSome) <|
 if (((((a.kind==0)&&((a.ztv.length:Int)==2))&&(((idx a.ztv 0).getD default)==((idx a.ztv 1).getD default)))&&(a.first==t1.first))&&(((idx t0.ztB ((idx a.ztv 0).getD default)).getD default)==t1.size)) then
 some true
 else
 c (ztu b 1)
 else
 some false
def zcs (n:Nat) (t0:Model) (t1:Constraint) :=
 if ((0<(t1.row.zty.length:Int))||(t1.row.bound != 0)) then
 some false
 else
 ztz (zcs.l1 n t0 t1) n 0
def zY.l2 (n:Nat) (t0:Model) (b:List Range) (d:Int→Option Bool) (c:Int) :=
 if (decide (c<t0.constraints.length)) then
 (idx t0.constraints c).bind λa=>
 if ((a.family<0)||(t0.ztI.length≤a.family)) then
 some false
 else
 grd (!(((a.kind==0)&&(a.first==0))&&(a.size==0))||(zcP n a.row b.length).isSome) <|
 grd (!(!((((a.kind==0)&&(a.first==0))&&(a.size==0))&&((zcP n a.row b.length).getD default)))||(!((ztG 2 b.length≤c)&&(a.kind==1))||(zcs n t0 a).isSome)) <|
 if ((!((((a.kind==0)&&(a.first==0))&&(a.size==0))&&((zcP n a.row b.length).getD default)))&&(!(((ztG 2 b.length≤c)&&(a.kind==1))&&((zcs n t0 a).getD default)))) then
 some false
 else
 d (ztu c 1)
 else
 some true
def zY.l1 (n:Nat) (t0:Model) (b:List Range) (e:Int→Option Bool) (a:Int) :=
 if (decide (a<b.length)) then
 (idx b a).bind λf=>
 (idx b a).bind λd=>
 (idx t0.constraints (ztG 2 a)).bind λg=>
 (zdx n g.row ⟨[⟨a,(-1)⟩],zuj f.lo⟩).bind λc=>
 grd ((!c)||(idx t0.constraints (ztu (ztG 2 a) 1)).isSome) <|
 grd ((!c)||(zdx n (((idx t0.constraints (ztu (ztG 2 a) 1)).getD default).row) ⟨[⟨a,1⟩],d.hi⟩).isSome) <|
 if ((!c)||(!((zdx n (((idx t0.constraints (ztu (ztG 2 a) 1)).getD default).row) ⟨[⟨a,1⟩],d.hi⟩).getD default))) then
 some false
 else
 e (ztu a 1)
 else
 ztz (zY.l2 n t0 b) n 0
def zY (n:Nat) (t0:Model) :=
 (zcm n t0).bind λa=>
 if ((t0.constraints.length<ztG 2 a.length)||(512<(t0.constraints.length:Int))) then
 some false
 else
 ztz (zY.l1 n t0 a) n 0
def zcV.l1 (n:Nat) (t0:List Int) (t1:List Int) (b:Int→Option Bool) (a:Int):Option Bool:=
 if ((a<t0.length)&&(a<t1.length)) then
 (idx t0 a).bind λc=>
 (idx t1 a).bind λd=>
 if (c != d) then
 (idx t0 a).bind λe=>
 (idx t1 a).bind λf=>
 some (e<f)
 else
 b (ztu a 1)
 else
 some (t0.length<(t1.length:Int))
def zcV (n:Nat) (t0:List Int) (t1:List Int) :=
 ztz (zcV.l1 n t0 t1) n 0
def zd1.l1 (n:Nat) (t0:List Int) (t1:List Int) (c:((List Int)×Int×Int)→Option (List Int)) (s:(List Int)×Int×Int) :=
 let a:=s.2.2
 if (decide (0≤a)) then
 (idx t1 a).bind λd=>
 (idx t0 d).bind λe=>
 (zuV s.2.1 e).bind λf=>
 (idx s.1 a).bind λj=>
 (sto s.1 a f).bind λb=>
 (idx t1 a).bind λg=>
 (idx t0 g).bind λh=>
 (zuU s.2.1 h).bind λi=>
 c (b,i,ztH a 1)
 else
 some s.1
def zd1 (n:Nat) (t0:List Int) (t1:List Int) (t2:Int) :=
 (mkl 8 t1.length 0).bind λa=>
 ztz (zd1.l1 n t0 t1) n (a,t2,ztH t1.length 1)
def zcO.l1 (n:Nat) (t0:List Int) (t1:List Table) (t2:Bool) (t3:Int) (d:Int→Option (Int×(List Int)×Bool)) (a:Int) :=
 if (decide (a<t1.length)) then
 (idx t1 a).bind λb=>
 (idx t1 a).bind λe=>
 (zbZ n e.kind).bind λc=>
 grd (!(((c==t2)&&(0≤t3))&&(0≤ztH t3 b.first))||(idx t1 a).isSome) <|
 grd (!(((c==t2)&&(0≤t3))&&(0≤ztH t3 b.first))||(zak n t0 (((idx t1 a).getD default).ztv)).isSome) <|
 if ((((c==t2)&&(0≤t3))&&(0≤ztH t3 b.first))&&(ztH t3 b.first<((zak n t0 (((idx t1 a).getD default).ztv)).getD default))) then
 (idx t1 a).bind λf=>
 (zd1 n t0 f.ztv (ztH t3 b.first)).bind λg=>
 some (a,g,true)
 else
 d (ztu a 1)
 else
 some (0,[],false)
def zcO (n:Nat) (t0:List Int) (t1:List Table) (t2:Bool) (t3:Int) :=
 (zaB n t0 t1).bind λa=>
 if (!a) then
 some (0,[],false)
 else
 ztz (zcO.l1 n t0 t1 t2 t3) n 0
def zkf (n:Nat) (t0:Int) :=
 some ((t0==2)||(t0==3))
def zaa.l3 (n:Nat) (t0:Model) (t1:zt4) (e:Int→Option Bool) (b:Int) :=
 if (decide (b<t1.ztD.length)) then
 (idx t1.ztD b).bind λa=>
 (zcO n t0.ztB t0.tables false a.cell).bind λd=>
 grd ((!d.2.2)||(!(0<b)||(idx t1.ztD (ztH b 1)).isSome)) <|
 if ((!d.2.2)||((0<b)&&(a.cell≤((idx t1.ztD (ztH b 1)).getD default).cell))) then
 some false
 else
 (idx t0.tables d.1).bind λc=>
 (zkf n c.kind).bind λf=>
 if (f&&(((a.kind != 0)&&(a.kind != 1))||(a.value != 0))) then
 some false
 else
 (zkf n c.kind).bind λg=>
 if ((!g)&&(((a.kind != 2)||(a.value<c.range.lo))||(c.range.hi<a.value))) then
 some false
 else
 e (ztu b 1)
 else
 some (((t1.hold.length:Int)≤8)&&((t1.ztD.length:Int)≤32))
def zaa.l2 (n:Nat) (t0:Model) (t1:zt4) (c:List Range) (b:Int→Option Bool) (a:Int) :=
 if (decide (a<t1.hold.length)) then
 (idx t1.hold a).bind λd=>
 (zcP n d c.length).bind λe=>
 if (!e) then
 some false
 else
 b (ztu a 1)
 else
 ztz (zaa.l3 n t0 t1) n 0
def zaa.l1 (n:Nat) (t0:Model) (t1:zt4) (c:List Range) (d:Int→Option Bool) (b:Int) :=
 if (decide (b<t1.delta.length)) then
 (idx t1.delta b).bind λa=>
 grd (((a.cell<0)||(c.length≤a.cell))||(!(0<b)||(idx t1.delta (ztH b 1)).isSome)) <|
 grd (((((a.cell<0)||(c.length≤a.cell))||((0<b)&&(a.cell≤((idx t1.delta (ztH b 1)).getD default).cell)))||(a.add==0))||(zaS n a.add 1000000000).isSome) <|
 if (((((a.cell<0)||(c.length≤a.cell))||((0<b)&&(a.cell≤((idx t1.delta (ztH b 1)).getD default).cell)))||(a.add==0))||(!((zaS n a.add 1000000000).getD default))) then
 some false
 else
 d (ztu b 1)
 else
 ztz (zaa.l2 n t0 t1 c) n 0
def zaa (n:Nat) (t0:Model) (t1:zt4) :=
 (zcm n t0).bind λa=>
 ztz (zaa.l1 n t0 t1 a) n 0
def zD.l4 (n:Nat) (t0:Model) (e:Int) (g:Int→Option Bool) (a:Action) (h:Int→Option Bool) (b:Int) :=
 if (decide (b<a.arguments.length)) then
 (idx t0.ztx a.operation).bind λi=>
 (idx i.ztB b).bind λc=>
 grd (!(c<0)||(idx a.arguments b).isSome) <|
 grd (!(c<0)||(zaS n ((idx a.arguments b).getD default) 9999).isSome) <|
 grd (((c<0)&&(!((zaS n ((idx a.arguments b).getD default) 9999).getD default)))||(!(0≤c)||(idx a.arguments b).isSome)) <|
 grd (((c<0)&&(!((zaS n ((idx a.arguments b).getD default) 9999).getD default)))||(!(0≤c)||((((idx a.arguments b).getD default)<0)||(idx a.arguments b).isSome))) <|
 grd (((c<0)&&(!((zaS n ((idx a.arguments b).getD default) 9999).getD default)))||(!(0≤c)||((((idx a.arguments b).getD default)<0)||(idx t0.ztB c).isSome))) <|
 if (((c<0)&&(!((zaS n ((idx a.arguments b).getD default) 9999).getD default)))||((0≤c)&&((((idx a.arguments b).getD default)<0)||(((idx t0.ztB c).getD default)≤((idx a.arguments b).getD default))))) then
 some false
 else
 h (ztu b 1)
 else
 jn (λv=>
 (zaa n t0 a.effect).bind λj=>
 if (!j) then
 some false
 else
 g (ztu e 1)) λf=>
 if (decide (0<e)) then
 (idx t0.ztw (ztH e 1)).bind λd=>
 grd ((a.operation<d.operation)||(!(d.operation==a.operation)||(zcV n d.arguments a.arguments).isSome)) <|
 if ((a.operation<d.operation)||((d.operation==a.operation)&&(!((zcV n d.arguments a.arguments).getD default)))) then
 some false
 else
 f ()
 else
 f ()
def zD.l3 (n:Nat) (t0:Model) (c:Int→Option Bool) (b:Int) :=
 if (decide (b<t0.ztw.length)) then
 (idx t0.ztw b).bind λa=>
 grd (((a.operation<0)||(t0.ztx.length≤a.operation))||(idx t0.ztx a.operation).isSome) <|
 if (((a.operation<0)||(t0.ztx.length≤a.operation))||(a.arguments.length != ((((idx t0.ztx a.operation).getD default).ztB).length:Int))) then
 some false
 else
 ztz (zD.l4 n t0 b c a) n 0
 else
 some true
def zD.l2 (n:Nat) (t0:Model) (g:Int) (d:((List (List UInt8))×Int)→Option Bool) (a:zt7) (f:List (List UInt8)) (e:Int→Option Bool) (b:Int) :=
 if (decide (b<a.ztB.length)) then
 (idx a.ztB b).bind λc=>
 grd ((c<(-1))||(idx a.ztB b).isSome) <|
 if ((c<(-1))||(t0.ztB.length≤((idx a.ztB b).getD default))) then
 some false
 else
 e (ztu b 1)
 else
 if (decide (3<(a.ztB.length:Int))) then
 some false
 else
 d (f,ztu g 1)
def zD.l1 (n:Nat) (t0:Model) (b:((List (List UInt8))×Int)→Option Bool) (s:(List (List UInt8))×Int) :=
 if (decide (s.2<t0.ztx.length)) then
 (idx t0.ztx s.2).bind λa=>
 (app 16 s.1 [a.name]).bind λc=>
 ztz (zD.l2 n t0 s.2 b a c) n 0
 else
 grd ((8<(t0.ztx.length:Int))||(za0 n s.1).isSome) <|
 if (((8<(t0.ztx.length:Int))||(!((za0 n s.1).getD default)))||(256<(t0.ztw.length:Int))) then
 some false
 else
 ztz (zD.l3 n t0) n 0
def zD (n:Nat) (t0:Model) :=
 ztz (zD.l1 n t0) n ([],0)
def zaU.l1 (n:Nat) (self:Model→Int→Int→Int→Option Bool) (t0:Model) (t1:Int) (t2:Int) (t3:Int) (c:Int→Option Bool) (a:Int) :=
 if ((a<t0.ztK.length)&&(0<t3)) then
 (idx t0.ztK a).bind λb=>
 grd (!(b.table==t1)||(idx t0.ztK a).isSome) <|
 grd (!(b.table==t1)||(self t0 (((idx t0.ztK a).getD default).to) t2 (ztH t3 1)).isSome) <|
 if ((b.table==t1)&&((self t0 (((idx t0.ztK a).getD default).to) t2 (ztH t3 1)).getD default)) then
 some true
 else
 c (ztu a 1)
 else
 some false
def zaU.body (n:Nat) (self:Model→Int→Int→Int→Option Bool) (t0:Model) (t1:Int) (t2:Int) (t3:Int) :=
 if (t1==t2) then
 some true
 else
 ztz (zaU.l1 n self t0 t1 t2 t3) n 0
def zaU:Nat→Model→Int→Int→Int→Option Bool
 | 0,_,_,_,_=>none
 | n+1,t0,t1,t2,t3=>zaU.body n (zaU n) t0 t1 t2 t3
def zaK.l2 (n:Nat) (t0:Model) (b:Int→Option Bool) (a:Int) :=
 if (decide (a<t0.ztK.length)) then
 (idx t0.ztK a).bind λc=>
 (idx t0.ztK a).bind λd=>
 (zaU n t0 c.to d.table t0.tables.length).bind λe=>
 if e then
 some false
 else
 b (ztu a 1)
 else
 some true
def zaK.l1 (n:Nat) (t0:Model) (e:Int→Option Bool) (d:Int) :=
 if (decide (d<t0.ztK.length)) then
 (idx t0.ztK d).bind λa=>
 if (((((a.table<0)||(t0.tables.length≤a.table))||(a.to<0))||(t0.tables.length≤a.to))||(a.table==a.to)) then
 some false
 else
 (idx t0.tables a.table).bind λb=>
 (idx t0.tables a.to).bind λc=>
 grd ((((((b.kind != 0)||(c.kind != 0))||(a.column<0))||(b.ztv.length≤a.column))||((c.ztv.length:Int) != 1))||(idx c.ztv 0).isSome) <|
 grd ((((((b.kind != 0)||(c.kind != 0))||(a.column<0))||(b.ztv.length≤a.column))||((c.ztv.length:Int) != 1))||(idx b.ztv a.column).isSome) <|
 if ((((((b.kind != 0)||(c.kind != 0))||(a.column<0))||(b.ztv.length≤a.column))||((c.ztv.length:Int) != 1))||(((idx c.ztv 0).getD default) != ((idx b.ztv a.column).getD default))) then
 some false
 else
 e (ztu d 1)
 else
 ztz (zaK.l2 n t0) n 0
def zaK (n:Nat) (t0:Model) :=
 if (decide (12<(t0.ztK.length:Int))) then
 some false
 else
 ztz (zaK.l1 n t0) n 0
def zhi (n:Nat) (t0:Model) :=
 (zaB n t0.ztB t0.tables).bind λb=>
 grd (((!b)||(24<(t0.ztI.length:Int)))||(za0 n t0.ztI).isSome) <|
 if (((!b)||(24<(t0.ztI.length:Int)))||(!((za0 n t0.ztI).getD default))) then
 some false
 else
 (zY n t0).bind λa=>
 grd (!a||(zD n t0).isSome) <|
 grd (!(a&&((zD n t0).getD default))||(zaK n t0).isSome) <|
 some ((a&&((zD n t0).getD default))&&((zaK n t0).getD default))
def zhk (n:Nat) (t0:Model) (t1:Question) :=
 (zhi n t0).bind λb=>
 if ((((((!b)||(t1.e<0))||(t1.f<0))||(t0.ztw.length≤t1.e))||(t0.ztw.length≤t1.f))||(t1.target.index<0)) then
 some false
 else
 if t1.target.hold then
 (idx t0.ztw t1.e).bind λa=>
 some (t1.target.index<a.effect.hold.length)
 else
 some ((t1.e≤t1.f)&&(t1.target.index<t0.constraints.length))
def zgi (n:Nat) (t0:Int) :=
 some ((t0==0)||(t0==1))
def zct.l1 (n:Nat) (t0:Model) (t1:Table) (a:(Int×Int)→Option Int) (s:Int×Int) :=
 if (decide (s.2<t1.ztv.length)) then
 (idx t1.ztv s.2).bind λb=>
 (idx t0.ztB b).bind λc=>
 a (ztG s.1 c,ztu s.2 1)
 else
 some s.1
def zct (n:Nat) (t0:Model) (t1:Table) :=
 ztz (zct.l1 n t0 t1) n (1,0)
def zci.l2 (n:Nat) (t0:Model) (a:Int) (b:((List Range))→Option (List Range)) (c:((List Range)×Int)→Option (List Range)) (s:(List Range)×Int) :=
 (idx t0.tables a).bind λd=>
 (zct n t0 d).bind λe=>
 if (decide (s.2<e)) then
 (idx t0.tables a).bind λf=>
 (app 16 s.1 [f.range]).bind λg=>
 c (g,ztu s.2 1)
 else
 b s.1
def zci.l1 (n:Nat) (t0:Model) (c:((List Range)×Int)→Option (List Range)) (s:(List Range)×Int) :=
 if (decide (s.2<t0.tables.length)) then
 jn (λv=>
 let b:=v
 c (b,ztu s.2 1)) λa=>
 (idx t0.tables s.2).bind λd=>
 (zgi n d.kind).bind λe=>
 if e then
 ztz (zci.l2 n t0 s.2 a) n (s.1,0)
 else
 a s.1
 else
 some s.1
def zci (n:Nat) (t0:Model) :=
 ztz (zci.l1 n t0) n ([],0)
def za1.l1 (n:Nat) (t0:zt4) (t1:Int) (b:(Int×Int)→Option Int) (s:Int×Int) :=
 if (decide (s.2<t0.delta.length)) then
 jn (λv=>
 let e:=v
 b (e,ztu s.2 1)) λa=>
 (idx t0.delta s.2).bind λc=>
 if (c.cell==t1) then
 (idx t0.delta s.2).bind λd=>
 a (ztu s.1 d.add)
 else
 a s.1
 else
 some s.1
def za1 (n:Nat) (t0:zt4) (t1:Int) :=
 ztz (za1.l1 n t0 t1) n (0,0)
def zbt.l1 (n:Nat) (t0:zt4) (t1:Row) (a:(Int×Int)→Option Int) (s:Int×Int) :=
 if (decide (s.2<t1.zty.length)) then
 (idx t1.zty s.2).bind λb=>
 (idx t1.zty s.2).bind λc=>
 (za1 n t0 c.cell).bind λd=>
 a (ztu s.1 (ztG b.ztE d),ztu s.2 1)
 else
 some s.1
def zbt (n:Nat) (t0:zt4) (t1:Row) :=
 ztz (zbt.l1 n t0 t1) n (0,0)
def zfj.l1 (n:Nat) (t0:List Int) (t1:Int) (b:Int→Option Bool) (a:Int) :=
 if (decide (a<t0.length)) then
 (idx t0 a).bind λc=>
 if (c==t1) then
 some true
 else
 b (ztu a 1)
 else
 some false
def zfj (n:Nat) (t0:List Int) (t1:Int) :=
 ztz (zfj.l1 n t0 t1) n 0
def zcz.l1 (n:Nat) (t0:Row) (a:((List Term)×Int)→Option Row) (s:(List Term)×Int) :=
 if (decide (s.2<t0.zty.length)) then
 (idx t0.zty s.2).bind λb=>
 (app 16 s.1 [b]).bind λc=>
 a (c,ztu s.2 1)
 else
 some ⟨s.1,t0.bound⟩
def zcz (n:Nat) (t0:Row) :=
 ztz (zcz.l1 n t0) n ([],0)
def zbB.l1 (n:Nat) (t0:Constraint) (t1:zt4) (a:((List Int)×Int)→Option ztR) (s:(List Int)×Int) :=
 if (decide (s.2<ztG t0.size t0.size)) then
 (za1 n t1 (ztu t0.first s.2)).bind λb=>
 (app 8 s.1 [ztH 1 b]).bind λc=>
 a (c,ztu s.2 1)
 else
 some ⟨t0.first,t0.size,s.1⟩
def zbB (n:Nat) (t0:Constraint) (t1:zt4) :=
 ztz (zbB.l1 n t0 t1) n ([],0)
def zbI.l1 (n:Nat) (t0:zt4) (t1:Constraint) (b:Int→Option Bool) (a:Int) :=
 if (decide (a<ztG t1.size t1.size)) then
 (za1 n t0 (ztu t1.first a)).bind λc=>
 if (decide (0<c)) then
 some true
 else
 b (ztu a 1)
 else
 some false
def zbI (n:Nat) (t0:zt4) (t1:Constraint) :=
 ztz (zbI.l1 n t0 t1) n 0
def zbh.l1 (n:Nat) (t0:Row) (t1:Int) (a:((List Term)×Int)→Option Row) (s:(List Term)×Int) :=
 if (decide (s.2<t0.zty.length)) then
 (idx t0.zty s.2).bind λb=>
 (idx t0.zty s.2).bind λc=>
 (app 16 s.1 [⟨b.cell,zuj c.ztE⟩]).bind λd=>
 a (d,ztu s.2 1)
 else
 some ⟨s.1,t1⟩
def zbh (n:Nat) (t0:Row) (t1:Int) :=
 ztz (zbh.l1 n t0 t1) n ([],0)
def zhl (n:Nat) (t0:Int) (t1:List Bool) :=
 some (((1≤t0)&&(t0≤6))&&(t1.length==(ztG t0 t0)))
def zc5.l1 (n:Nat) (t0:List Int) (t1:Int) (b:Int→Option Bool) (a:Int) :=
 if (decide (a<t0.length)) then
 (idx t0 a).bind λc=>
 if (c==t1) then
 some true
 else
 b (ztu a 1)
 else
 some false
def zc5 (n:Nat) (t0:List Int) (t1:Int) :=
 ztz (zc5.l1 n t0 t1) n 0
def zdl.l1 (n:Nat) (t0:List Int) (t1:Int) (a:((List Int)×Int)→Option (List Int)) (s:(List Int)×Int) :=
 if (decide (s.2<t0.length)) then
 (idx t0 s.2).bind λb=>
 (app 8 s.1 [b]).bind λc=>
 a (c,ztu s.2 1)
 else
 (app 8 s.1 [t1]).bind λd=>
 some d
def zdl (n:Nat) (t0:List Int) (t1:Int) :=
 ztz (zdl.l1 n t0 t1) n ([],0)
def zJ.l4 (n:Nat) (t0:Int) (t1:List Bool) (b:List (List Int)) (a:Int) (g:((List (List Int))×(List (List Int))×Int)→Option (List (List Int))) (l:Int) (e:List (List Int)) (h:((List (List Int))×Int)→Option (List (List Int))) (s:(List (List Int))×Int) :=
 if (decide (s.2<t0)) then
 jn (λv=>
 let f:=v
 h (f,ztu s.2 1)) λd=>
 (idx t1 (ztu (ztG l t0) s.2)).bind λc=>
 grd (!c||(idx b a).isSome) <|
 grd (!c||(zc5 n ((idx b a).getD default) s.2).isSome) <|
 if (c&&(!((zc5 n ((idx b a).getD default) s.2).getD default))) then
 (idx b a).bind λi=>
 (zdl n i s.2).bind λj=>
 (app 24 s.1 [j]).bind λk=>
 d k
 else
 d s.1
 else
 g (e,s.1,ztu a 1)
def zJ.l3 (n:Nat) (t0:Int) (t1:List Bool) (b:List (List Int)) (p:Int) (g:((List (List Int))×(List (List Int))×Int)→Option (List (List Int))) (h:((List (List Int))×(List (List Int))×Int)→Option (List (List Int))) (s:(List (List Int))×(List (List Int))×Int) :=
 let a:=s.2.2
 if (decide (a<b.length)) then
 (idx b a).bind λi=>
 (idx i 0).bind λd=>
 (idx b a).bind λj=>
 (idx b a).bind λk=>
 (idx j (ztH k.length 1)).bind λe=>
 jn (λv=>
 let f:=v
 ztz (zJ.l4 n t0 t1 b a h e f) n (s.2.1,ztu d 1)) λc=>
 (idx t1 (ztu (ztG e t0) d)).bind λl=>
 if l then
 (idx b a).bind λm=>
 (app 24 s.1 [m]).bind λo=>
 c o
 else
 c s.1
 else
 g (s.1,s.2.1,ztu p 1)
def zJ.l2 (n:Nat) (t0:Int) (t1:List Bool) (a:((List (List Int))×(List (List Int))×Int)→Option (List (List Int))) (s:(List (List Int))×(List (List Int))×Int) :=
 if (decide (s.2.2<t0)) then
 ztz (zJ.l3 n t0 t1 s.2.1 s.2.2 a) n (s.1,[],0)
 else
 some s.1
def zJ.l1 (n:Nat) (t0:Int) (t1:List Bool) (a:((List (List Int))×Int)→Option (List (List Int))) (s:(List (List Int))×Int) :=
 if (decide (s.2<t0)) then
 (app 24 s.1 [[s.2]]).bind λb=>
 a (b,ztu s.2 1)
 else
 ztz (zJ.l2 n t0 t1) n ([],s.1,0)
def zJ (n:Nat) (t0:Int) (t1:List Bool) :=
 (zhl n t0 t1).bind λa=>
 if (!a) then
 some []
 else
 ztz (zJ.l1 n t0 t1) n ([],0)
def zaf.l3 (n:Nat) (t1:Constraint) (t2:zt4) (t3:zt4) (e:List (List Int)) (g:List (List Row)) (c:Int) (h:((List (List Row)))→Option (List (List Row))) (i:((List Row)×Bool×Bool×Int)→Option (List (List Row))) (s:(List Row)×Bool×Bool×Int) :=
 let f:=s.2.2.1
 let d:=s.2.2.2
 (idx e c).bind λo=>
 if (decide (d<o.length)) then
 (idx e c).bind λp=>
 (idx e c).bind λq=>
 (zuV (ztu d 1) q.length).bind λr=>
 (idx p r).bind λa=>
 (idx e c).bind λt=>
 (idx t d).bind λb=>
 grd (s.2.1||(za1 n t2 (ztu (ztu t1.first (ztG b t1.size)) a)).isSome) <|
 grd (f||(za1 n t3 (ztu (ztu t1.first (ztG b t1.size)) a)).isSome) <|
 (za1 n t2 (ztu (ztu t1.first (ztG b t1.size)) a)).bind λj=>
 (za1 n t3 (ztu (ztu t1.first (ztG b t1.size)) a)).bind λk=>
 (app 32 s.1 [⟨[⟨ztu (ztu t1.first (ztG b t1.size)) a,(-1)⟩],ztu (ztu (-1) j) k⟩]).bind λl=>
 i (l,s.2.1||(0<((za1 n t2 (ztu (ztu t1.first (ztG b t1.size)) a)).getD default)),f||(0<((za1 n t3 (ztu (ztu t1.first (ztG b t1.size)) a)).getD default)),ztu d 1)
 else
 if (s.2.1&&f) then
 (app 24 g [s.1]).bind λm=>
 h m
 else
 h g
def zaf.l2 (n:Nat) (t1:Constraint) (t2:zt4) (t3:zt4) (a:List (List Int)) (d:((List (List Row))×Int)→Option (List (List Row))) (s:(List (List Row))×Int) :=
 if (decide (s.2<a.length)) then
 jn (λv=>
 let b:=v
 d (b,ztu s.2 1)) λc=>
 ztz (zaf.l3 n t1 t2 t3 a s.1 s.2 c) n ([],false,false,0)
 else
 some s.1
def zaf.l1 (n:Nat) (t0:List Range) (t1:Constraint) (t2:zt4) (t3:zt4) (a:((List Bool)×Int)→Option (List (List Row))) (s:(List Bool)×Int) :=
 if (decide (s.2<ztG t1.size t1.size)) then
 (idx t0 (ztu t1.first s.2)).bind λb=>
 (za1 n t2 (ztu t1.first s.2)).bind λc=>
 (za1 n t3 (ztu t1.first s.2)).bind λd=>
 (app 1 s.1 [(1≤ztu (ztu b.hi c) d)]).bind λe=>
 a (e,ztu s.2 1)
 else
 (zJ n t1.size s.1).bind λf=>
 ztz (zaf.l2 n t1 t2 t3 f) n ([],0)
def zaf (n:Nat) (t0:List Range) (t1:Constraint) (t2:zt4) (t3:zt4) :=
 ztz (zaf.l1 n t0 t1 t2 t3) n ([],0)
def zb0 (n:Nat) (t0:Int) (t1:Int) (t2:Int) :=
 some ((t1≤t0)&&(t0≤t2))
def zd3.l1 (n:Nat) (t0:Row) (t1:Int) (b:(Int×Int)→Option Bool) (s:Int×Int) :=
 if (decide (s.2<t0.zty.length)) then
 (idx t0.zty s.2).bind λa=>
 grd ((((a.cell≤s.1)||(t1≤a.cell))||(a.ztE==0))||(zb0 n a.ztE (-1000) 1000).isSome) <|
 if ((((a.cell≤s.1)||(t1≤a.cell))||(a.ztE==0))||(!((zb0 n a.ztE (-1000) 1000).getD default))) then
 some false
 else
 b (a.cell,ztu s.2 1)
 else
 (zb0 n t0.bound (-1000000000) 1000000000).bind λc=>
 some c
def zd3 (n:Nat) (t0:Row) (t1:Int) :=
 ztz (zd3.l1 n t0 t1) n ((-1),0)
def zaL.l2 (n:Nat) (t0:List Range) (t1:List Row) (b:Int→Option Bool) (a:Int) :=
 if (decide (a<t1.length)) then
 (idx t1 a).bind λc=>
 (zd3 n c t0.length).bind λd=>
 if (!d) then
 some false
 else
 b (ztu a 1)
 else
 some true
def zaL.l1 (n:Nat) (t0:List Range) (t1:List Row) (c:Int→Option Bool) (a:Int) :=
 if (decide (a<t0.length)) then
 (idx t0 a).bind λd=>
 (zb0 n d.lo (-1000000) 1000000).bind λb=>
 grd ((!b)||(idx t0 a).isSome) <|
 grd ((!b)||(zb0 n (((idx t0 a).getD default).hi) (-1000000) 1000000).isSome) <|
 if ((!b)||(!((zb0 n (((idx t0 a).getD default).hi) (-1000000) 1000000).getD default))) then
 some false
 else
 c (ztu a 1)
 else
 ztz (zaL.l2 n t0 t1) n 0
def zaL (n:Nat) (t0:List Range) (t1:List Row) :=
 if (decide (128<(t0.length:Int))) then
 some false
 else
 ztz (zaL.l1 n t0 t1) n 0
def zcu.l1 (n:Nat) (t0:List Range) (b:Int→Option Bool) (a:Int) :=
 if (decide (a<t0.length)) then
 (idx t0 a).bind λc=>
 (idx t0 a).bind λd=>
 if (decide (d.hi<c.lo)) then
 some true
 else
 b (ztu a 1)
 else
 some false
def zcu (n:Nat) (t0:List Range) :=
 ztz (zcu.l1 n t0) n 0
def zad.l3 (n:Nat) (f:Int) (d:Int→Option Bool) (b:ztR) (e:Int→Option Bool) (a:Int) :=
 if (decide (a<b.least.length)) then
 (idx b.least a).bind λc=>
 grd ((c<(-4000000))||(idx b.least a).isSome) <|
 if ((c<(-4000000))||(4000000<((idx b.least a).getD default))) then
 some false
 else
 e (ztu a 1)
 else
 d (ztu f 1)
def zad.l2 (n:Nat) (t0:System) (c:Int→Option Bool) (b:Int) :=
 if (decide (b<t0.ztA.length)) then
 (idx t0.ztA b).bind λa=>
 if (((((a.size<1)||(6<a.size))||(a.first<0))||(ztH t0.box.length (ztG a.size a.size)<a.first))||(a.least.length != (ztG a.size a.size))) then
 some false
 else
 ztz (zad.l3 n b c a) n 0
 else
 some true
def zad.l1 (n:Nat) (t0:System) (c:Int→Option Bool) (a:Int) :=
 if (decide (a<t0.cases.length)) then
 (idx t0.cases a).bind λb=>
 grd ((64<(b.length:Int))||(idx t0.cases a).isSome) <|
 grd ((64<(b.length:Int))||(zaL n t0.box ((idx t0.cases a).getD default)).isSome) <|
 if ((64<(b.length:Int))||(!((zaL n t0.box ((idx t0.cases a).getD default)).getD default))) then
 some false
 else
 c (ztu a 1)
 else
 ztz (zad.l2 n t0) n 0
def zad (n:Nat) (t0:System) :=
 grd ((((1024<(t0.rows.length:Int))||(64<(t0.ztA.length:Int)))||(1024<(t0.cases.length:Int)))||(zaL n t0.box t0.rows).isSome) <|
 grd (((((1024<(t0.rows.length:Int))||(64<(t0.ztA.length:Int)))||(1024<(t0.cases.length:Int)))||(!((zaL n t0.box t0.rows).getD default)))||(zcu n t0.box).isSome) <|
 if (((((1024<(t0.rows.length:Int))||(64<(t0.ztA.length:Int)))||(1024<(t0.cases.length:Int)))||(!((zaL n t0.box t0.rows).getD default)))||((zcu n t0.box).getD default)) then
 some false
 else
 ztz (zad.l1 n t0) n 0
def zu.l5 (n:Nat) (t0:Model) (t1:Question) (c:Action) (d:Action) (l:List Range) (g:List Row) (u:((List ztR)×Int)→Option (System×Int)) (s:(List ztR)×Int) :=
 if (decide (s.2<t0.constraints.length)) then
 jn (λv=>
 let t:=v
 u (t,ztu s.2 1)) λi=>
 (idx t0.constraints s.2).bind λa=>
 if (a.kind != 1) then
 i s.1
 else
 (zbB n a ⟨[],[],[]⟩).bind λw=>
 (app 40 s.1 [w]).bind λr=>
 jn (λv=>
 let o:=v
 (zbI n d.effect a).bind λA=>
 if (A&&(t1.e != t1.f)) then
 (zbB n a d.effect).bind λB=>
 (app 40 o [B]).bind λC=>
 i C
 else
 i o) λq=>
 (zbI n c.effect a).bind λx=>
 if x then
 (zbB n a c.effect).bind λy=>
 (app 40 r [y]).bind λz=>
 q z
 else
 q r
 else
 jn (λv=>
 let m:=v.1
 let p:=v.2
 (zad n ⟨l,m,s.1,p⟩).bind λL=>
 if (!L) then
 some (⟨[],[],[],[]⟩,8)
 else
 some (⟨l,m,s.1,p⟩,0)) λh=>
 if t1.target.hold then
 (idx c.effect.hold t1.target.index).bind λj=>
 (zbt n d.effect j).bind λD=>
 (zbh n j (ztH (ztu (zuj j.bound) D) 1)).bind λE=>
 (app 32 g [E]).bind λF=>
 h (F,[])
 else
 (idx t0.constraints t1.target.index).bind λb=>
 if (b.kind==0) then
 (zbt n c.effect b.row).bind λG=>
 (zbt n d.effect b.row).bind λH=>
 (zbh n b.row (ztH (ztu (ztu (zuj b.row.bound) G) H) 1)).bind λI=>
 (app 32 g [I]).bind λJ=>
 h (J,[])
 else
 (zaf n l b c.effect d.effect).bind λk=>
 if ((k.length:Int)==0) then
 (app 32 g [⟨[],(-1)⟩]).bind λK=>
 h (K,k)
 else
 h (g,k)
def zu.l4 (n:Nat) (t0:Model) (t1:Question) (h:Action) (a:Action) (i:List Range) (b:((List Row)×Int)→Option (System×Int)) (s:(List Row)×Int) :=
 if ((s.2<a.effect.hold.length)&&(t1.e != t1.f)) then
 (idx a.effect.hold s.2).bind λc=>
 (zcz n c).bind λd=>
 (app 32 s.1 [d]).bind λg=>
 b (g,ztu s.2 1)
 else
 ztz (zu.l5 n t0 t1 h a i s.1) n ([],0)
def zu.l3 (n:Nat) (t0:Model) (t1:Question) (a:Action) (f:Action) (g:List Range) (b:((List Row)×Int)→Option (System×Int)) (s:(List Row)×Int) :=
 if (decide (s.2<a.effect.hold.length)) then
 (idx a.effect.hold s.2).bind λc=>
 (zcz n c).bind λd=>
 (app 32 s.1 [d]).bind λe=>
 b (e,ztu s.2 1)
 else
 ztz (zu.l4 n t0 t1 a f g) n (s.1,0)
def zu.l2 (n:Nat) (t0:Model) (t1:Question) (t2:List Int) (g:Action) (h:Action) (o:List Range) (j:((List Row)×Int)→Option (System×Int)) (s:(List Row)×Int) :=
 if (decide (s.2<t0.constraints.length)) then
 jn (λv=>
 let i:=v
 j (i,ztu s.2 1)) λd=>
 (idx t0.constraints s.2).bind λa=>
 if (a.kind != 0) then
 d s.1
 else
 (zbt n g.effect a.row).bind λc=>
 (zbt n h.effect a.row).bind λb=>
 jn (λv=>
 let m:=v
 (zcz n a.row).bind λf=>
 (app 32 s.1 [⟨f.zty,ztH f.bound m⟩]).bind λl=>
 d l) λe=>
 (zfj n t2 s.2).bind λk=>
 if (k&&(t1.target.hold||(t1.target.index != s.2))) then
 e (gmax (gmax (gmax 0 c) b) (ztu c b))
 else
 e (gmax (gmax 0 c) b)
 else
 ztz (zu.l3 n t0 t1 g h o) n (s.1,0)
def zu.l1 (n:Nat) (t0:Model) (t1:Question) (t2:List Int) (c:Int→Option (System×Int)) (a:Int) :=
 if (decide (a<t2.length)) then
 (idx t2 a).bind λb=>
 grd ((b<0)||(idx t2 a).isSome) <|
 grd (((b<0)||(t0.constraints.length≤((idx t2 a).getD default)))||(idx t2 a).isSome) <|
 grd (((b<0)||(t0.constraints.length≤((idx t2 a).getD default)))||(idx t0.constraints ((idx t2 a).getD default)).isSome) <|
 if (((b<0)||(t0.constraints.length≤((idx t2 a).getD default)))||((((idx t0.constraints ((idx t2 a).getD default)).getD default).kind) != 0)) then
 some (⟨[],[],[],[]⟩,2)
 else
 c (ztu a 1)
 else
 (idx t0.ztw t1.e).bind λd=>
 (idx t0.ztw t1.f).bind λg=>
 (zci n t0).bind λh=>
 ztz (zu.l2 n t0 t1 t2 d g h) n ([],0)
def zu (n:Nat) (t0:Model) (t1:Question) (t2:List Int) :=
 (zhk n t0 t1).bind λa=>
 if (!a) then
 some (⟨[],[],[],[]⟩,1)
 else
 ztz (zu.l1 n t0 t1 t2) n 0
def zhj.l1 (n:Nat) (t0:Model) (b:(Int×Int)→Option Int) (s:Int×Int) :=
 if (decide (s.2<t0.tables.length)) then
 jn (λv=>
 let g:=v
 b (g,ztu s.2 1)) λa=>
 (idx t0.tables s.2).bind λc=>
 (zgi n c.kind).bind λd=>
 if d then
 (idx t0.tables s.2).bind λe=>
 (zct n t0 e).bind λf=>
 a (ztu s.1 f)
 else
 a s.1
 else
 some s.1
def zhj (n:Nat) (t0:Model) :=
 ztz (zhj.l1 n t0) n (0,0)
def zen.l1 (n:Nat) (t0:List Int) (t1:zt4) (a:((List Int)×Int)→Option (List Int)) (s:(List Int)×Int) :=
 if (decide (s.2<t0.length)) then
 (idx t0 s.2).bind λb=>
 (za1 n t1 s.2).bind λc=>
 (app 8 s.1 [ztu b c]).bind λd=>
 a (d,ztu s.2 1)
 else
 some s.1
def zen (n:Nat) (t0:List Int) (t1:zt4) :=
 ztz (zen.l1 n t0 t1) n ([],0)
def zd2.l1 (n:Nat) (t0:Constraint) (t1:Int) (c:Int→Option Bool) (a:Int) :=
 if (decide (a<t0.row.zty.length)) then
 (idx t0.row.zty a).bind λb=>
 grd ((b.cell<0)||(idx t0.row.zty a).isSome) <|
 if ((b.cell<0)||(t1≤((idx t0.row.zty a).getD default).cell)) then
 some false
 else
 c (ztu a 1)
 else
 some (t0.kind==0)
def zd2 (n:Nat) (t0:Constraint) (t1:Int) :=
 if (t0.kind==1) then
 some ((((1≤t0.size)&&(t0.size≤6))&&(0≤t0.first))&&(t0.first≤ztH t1 (ztG t0.size t0.size)))
 else
 ztz (zd2.l1 n t0 t1) n 0
def zem (n:Nat) (t0:Constraint) (t1:List Int) (t2:Int) (t3:Int):Option Bool:=
 (idx t1 (ztu (ztu t0.first (ztG t2 t0.size)) t3)).bind λa=>
 some (1≤a)
def zdy.l1 (n:Nat) (t0:List Int) (t1:Int) (b:Int→Option Bool) (a:Int) :=
 if (decide (a<t0.length)) then
 (idx t0 a).bind λc=>
 if (c==t1) then
 some true
 else
 b (ztu a 1)
 else
 some false
def zdy (n:Nat) (t0:List Int) (t1:Int) :=
 ztz (zdy.l1 n t0 t1) n 0
def zbg.l1 (n:Nat) (self:Constraint→(List Int)→(List Int)→Int→Option (List (List Int))) (t0:Constraint) (t1:List Int) (t2:List Int) (t3:Int) (b:Int) (e:((List (List Int))×Int)→Option (List (List Int))) (s:(List (List Int))×Int) :=
 if (decide (s.2<t0.size)) then
 jn (λv=>
 let d:=v
 e (d,ztu s.2 1)) λa=>
 (zdy n t2 s.2).bind λc=>
 grd (c||(zem n t0 t1 b s.2).isSome) <|
 if (c||(!((zem n t0 t1 b s.2).getD default))) then
 a s.1
 else
 (app 8 [] t2).bind λf=>
 (app 8 f [s.2]).bind λg=>
 (self t0 t1 g t3).bind λh=>
 (app 24 s.1 h).bind λi=>
 a i
 else
 some s.1
def zbg.body (n:Nat) (self:Constraint→(List Int)→(List Int)→Int→Option (List (List Int))) (t0:Constraint) (t1:List Int) (t2:List Int) (t3:Int) :=
 (idx t2 (ztH t2.length 1)).bind λa=>
 if (t2.length==t3) then
 (idx t2 0).bind λb=>
 (zem n t0 t1 a b).bind λc=>
 if c then
 some [t2]
 else
 some []
 else
 (idx t2 0).bind λd=>
 ztz (zbg.l1 n self t0 t1 t2 t3 a) n ([],ztu d 1)
def zbg:Nat→Constraint→(List Int)→(List Int)→Int→Option (List (List Int))
 | 0,_,_,_,_=>none
 | n+1,t0,t1,t2,t3=>zbg.body n (zbg n) t0 t1 t2 t3
def zeA.l2 (n:Nat) (t0:Constraint) (t1:List Int) (c:Int) (d:Int→Option (List Int)) (e:Int→Option (List Int)) (a:Int) :=
 if (decide (a<t0.size)) then
 (zbg n t0 t1 [a] c).bind λb=>
 if (decide (0<(b.length:Int))) then
 (idx b 0).bind λf=>
 some f
 else
 e (ztu a 1)
 else
 d (ztu c 1)
def zeA.l1 (n:Nat) (t0:Constraint) (t1:List Int) (b:Int→Option (List Int)) (a:Int) :=
 if (decide (a≤t0.size)) then
 ztz (zeA.l2 n t0 t1 a b) n 0
 else
 some []
def zeA (n:Nat) (t0:Constraint) (t1:List Int) :=
 grd ((t0.kind != 1)||(zd2 n t0 t1.length).isSome) <|
 if ((t0.kind != 1)||(!((zd2 n t0 t1.length).getD default))) then
 some []
 else
 ztz (zeA.l1 n t0 t1) n 1
def zhh.l1 (n:Nat) (t0:Row) (t1:List Int) (d:(Int×Int×Int)→Option Bool) (s:Int×Int×Int) :=
 if (decide (s.2.2<t0.zty.length)) then
 (idx t0.zty s.2.2).bind λa=>
 (idx t1 a.cell).bind λe=>
 (zuU e 4294967296).bind λf=>
 (idx t1 a.cell).bind λg=>
 (zuV g 4294967296).bind λh=>
 d (ztu s.1 (ztG a.ztE f),ztu s.2.1 (ztG a.ztE h),ztu s.2.2 1)
 else
 (shrO .i64 s.2.1 32).bind λb=>
 (shrO .i64 t0.bound 32).bind λc=>
 some ((ztu s.1 b<c)||(((ztu s.1 b)==c)&&(band .i64 s.2.1 4294967295≤band .i64 t0.bound 4294967295)))
def zhh (n:Nat) (t0:Row) (t1:List Int) :=
 ztz (zhh.l1 n t0 t1) n (0,0,0)
def znI (n:Nat) (t0:Constraint) (t1:List Int) :=
 (zd2 n t0 t1.length).bind λc=>
 if (!c) then
 some false
 else
 if (t0.kind==1) then
 (zeA n t0 t1).bind λa=>
 some ((a.length:Int)==0)
 else
 (zhh n t0.row t1).bind λb=>
 some b
def zdf (n:Nat) (t0:Constraint) (t1:List Int) :=
 (znI n t0 t1).bind λa=>
 some a
def zmT (n:Nat) (t0:Row) (t1:List Int) :=
 (zdf n ⟨0,0,t0,0,0⟩ t1).bind λa=>
 some a
def zb8.l2 (n:Nat) (t1:zt4) (t2:List Int) (b:Int→Option Bool) (a:Int) :=
 if (decide (a<t1.hold.length)) then
 (idx t1.hold a).bind λc=>
 (zmT n c t2).bind λd=>
 if (!d) then
 some false
 else
 b (ztu a 1)
 else
 some true
def zb8.l1 (n:Nat) (t0:Model) (t1:zt4) (t2:List Int) (c:List Int) (d:Int→Option Bool) (a:Int) :=
 if (decide (a<t0.constraints.length)) then
 (idx t0.constraints a).bind λe=>
 (zdf n e t2).bind λb=>
 grd ((!b)||(idx t0.constraints a).isSome) <|
 grd ((!b)||(zdf n ((idx t0.constraints a).getD default) c).isSome) <|
 if ((!b)||(!((zdf n ((idx t0.constraints a).getD default) c).getD default))) then
 some false
 else
 d (ztu a 1)
 else
 ztz (zb8.l2 n t1 t2) n 0
def zb8 (n:Nat) (t0:Model) (t1:zt4) (t2:List Int) :=
 (zen n t2 t1).bind λa=>
 ztz (zb8.l1 n t0 t1 t2 a) n 0
def zfE.l2 (n:Nat) (t0:Model) (t1:Question) (t2:List Int) (t3:List Int) (i:Action) (j:Action) (b:List Int) (c:Int→Option Bool) (a:Int) :=
 if (decide (a<t2.length)) then
 grd (t1.target.hold||(idx t2 a).isSome) <|
 grd (!(t1.target.hold||(t1.target.index != ((idx t2 a).getD default)))||(idx t2 a).isSome) <|
 grd (!(t1.target.hold||(t1.target.index != ((idx t2 a).getD default)))||(idx t0.constraints ((idx t2 a).getD default)).isSome) <|
 grd (!(t1.target.hold||(t1.target.index != ((idx t2 a).getD default)))||(zdf n ((idx t0.constraints ((idx t2 a).getD default)).getD default) b).isSome) <|
 if ((t1.target.hold||(t1.target.index != ((idx t2 a).getD default)))&&(!((zdf n ((idx t0.constraints ((idx t2 a).getD default)).getD default) b).getD default))) then
 some false
 else
 c (ztu a 1)
 else
 if t1.target.hold then
 (idx i.effect.hold t1.target.index).bind λd=>
 (zen n t3 j.effect).bind λe=>
 (zmT n d e).bind λf=>
 some (!f)
 else
 (idx t0.constraints t1.target.index).bind λg=>
 (zdf n g b).bind λh=>
 some (!h)
def zfE.l1 (n:Nat) (t0:Model) (t1:Question) (t2:List Int) (t3:List Int) (h:Int→Option Bool) (a:Int) :=
 if (decide (a<t2.length)) then
 (idx t2 a).bind λd=>
 grd ((d<0)||(idx t2 a).isSome) <|
 if ((d<0)||(t0.constraints.length≤((idx t2 a).getD default))) then
 some false
 else
 h (ztu a 1)
 else
 (idx t0.ztw t1.e).bind λc=>
 (idx t0.ztw t1.f).bind λb=>
 (zb8 n t0 c.effect t3).bind λg=>
 grd ((!g)||(zb8 n t0 b.effect t3).isSome) <|
 if ((!g)||(!((zb8 n t0 b.effect t3).getD default))) then
 some false
 else
 (zen n t3 c.effect).bind λi=>
 (zen n i b.effect).bind λj=>
 ztz (zfE.l2 n t0 t1 t2 t3 c b j) n 0
def zfE (n:Nat) (t0:Model) (t1:Question) (t2:List Int) (t3:List Int) :=
 (zhj n t0).bind λa=>
 if (t3.length != a) then
 some false
 else
 ztz (zfE.l1 n t0 t1 t2 t3) n 0
def zds (n:Nat) (t0:Model) (t1:Question) (t2:List Int) :=
 (zg7 n ).bind λc=>
 if (!c) then
 some false
 else
 (zbO n t0).bind λd=>
 if ((!d)||(20<(t2.length:Int))) then
 some true
 else
 (zbn n t0 t1 65536 t2).bind λa=>
 (zbn n t0 t1 65536 []).bind λb=>
 if ((((a.2 != 0)||(b.2 != 0))||(a.1.kind==2))||(b.1.kind==2)) then
 some true
 else
 grd ((a.1.kind==1)||(!(b.1.kind==0)||(zaI n t0 t1 ⟨0,a.1.state,⟨0,[],0,0,[]⟩,0⟩ []).isSome)) <|
 some ((a.1.kind==1)||((b.1.kind==0)&&((zaI n t0 t1 ⟨0,a.1.state,⟨0,[],0,0,[]⟩,0⟩ []).getD default)))
end
section
set_option maxRecDepth 100000
variable [Drw]
def zv5 {α:Type}:Nat→Nat→List α→Option (List α)
 | 0,0,_=>some []
 | 0,n+1,c::cs=>match zv5 0 n cs with
  | some l=>some (c::l)
  | none=>none
 | o+1,n,_::cs=>zv5 o n cs
 | _,_,[]=>none
theorem zjz {α}:∀ {o n} {cs l:List α},zv5 o n cs=some l→l=(cs.drop o).take n∧o+n≤cs.length
 | 0,0,cs,l,h=>by grind [zv5]
 | 0,n+1,[],l,h=>by grind [zv5]
 | 0,n+1,c::cs,l,h=>by
  rw [zv5] at h;cases a:zv5 0 n cs with
  | none=>simp_all
  | some m=>
   rw [a] at h;obtain ⟨e,b⟩:=zjz a;simp_all
 | o+1,n,[],l,h=>by grind [zv5]
 | o+1,n,c::cs,l,h=>by
  rw [zv5] at h;obtain ⟨e,b⟩:=zjz h
  grind
def zfit:D→Value→Bool
 | .val (.int k a),.int k' b=>decide (k=k')&&decide (a=b)
 | .val (.bool a),.bool b=>zxp a b
 | .val (.string a),.string b=>a.data.toList.isEmpty&&b.data.toList.isEmpty
 | .sl _ [],.slice none 0 0=>true
 | .osl _ [],.slice none 0 0=>true
 | .val (.slice none 0 0),.slice none 0 0=>true
 | .val .nilFunc,.nilFunc=>true
 | .val (.map none),.map none=>true
 | .val (.pointer none),.pointer none=>true
 | _,_=>false
def zwv:List D→List Value→Bool
 | [],[]=>true
 | d::ds,v::vs=>zfit d v&&zwv ds vs
 | _,_=>false
def zdB (P:Program) (t:Nat) (d:D):Bool:=match zbD P t with
 | some z=>match d,z with
  | .agg ds,.agg vs=>zwv ds vs.toList
  | _,_=>zfit d z
 | none=>false
theorem zsX {a b:ByteArray} (h:(a.data.toList.isEmpty&&b.data.toList.isEmpty)=true):a=b:=by
 obtain ⟨⟨l⟩⟩:=a;obtain ⟨⟨m⟩⟩:=b;simp_all
theorem zoV {A w}:∀ {d} {v},zfit d v=true→d.rep A w v:=by
 intro d v h;unfold zfit at h;split at h
 ·simp only [yd] at h
  grind [D.rep]
 ·grind [zjw,D.rep]
 ·grind [zsX,D.rep]
 ·simp only [D.rep];simp_all
 ·simp only [D.rep];simp_all
 ·grind [D.rep]
 ·grind [D.rep]
 ·grind [D.rep]
 ·grind [D.rep]
 grind
theorem zlk {A w}:∀ {ds} {vs},zwv ds vs=true→D.reps A w ds vs
 | [],[],_=>by grind [D.reps]
 | [],_::_,h=>by grind [zwv]
 | _::_,[],h=>by grind [zwv]
 | d::ds,v::vs,h=>by
  simp only [zwv,yd] at h;exact ⟨v,vs,rfl,zoV h.1,zlk h.2⟩
theorem zrW {P t d} (h:zdB P t d=true):zvq P t d:=by
 unfold zdB at h;split at h
 ·rename_i z a;refine ⟨z,a,λA w=>?_⟩;split at h
  ·exact ⟨_,rfl,zlk h⟩
  grind [zoV]
 grind
def tF2l:List (Nat×List (Option (Nat×Nat))):=[(34,[none,none,some (2,2)]),(42,[none,none,some (2,5)]),(57,[none,none,some (2,2)]),(79,[none,none,some (2,3)]),(91,[none,none,none,some (3,5)]),(107,[none,none,none,some (3,2)]),(132,[some (0,4)]),(134,[none,none,some (2,5)]),(153,[some (0,4)]),(218,[some (0,7)]),(255,[some (0,7)])]
def tStl:List Nat:=[9]
def tEl:List (Nat×Nat×Nat×Nat):=[(22,3,1,8),(23,107,6,72),(24,9,1,16),(25,57,6,64),(26,111,3,48),(27,79,5,104),(28,202,3,24),(37,149,3,24),(38,40,5,72),(51,22,1,24),(53,109,2,16),(73,113,2,16),(74,55,2,32),(75,243,3,24),(80,83,2,16),(84,124,3,40),(85,74,1,24),(173,4,1,1),(216,221,2,32),(267,271,4,32),(339,341,2,16),(344,350,3,6),(345,353,3,12)]
def tZdl:List (Nat×D):=[(3,.int 0),(4,.bool false),(5,.val (.int .u8 0)),(9,.str []),(21,.val (.int .i32 0)),(22,.sl 1 []),(23,.sl 6 []),(24,.sl 1 []),(25,.sl 6 []),(26,.sl 3 []),(27,.sl 5 []),(28,.sl 3 []),(30,.agg [.sl 1 [],.sl 6 [],.sl 1 [],.sl 6 [],.sl 3 [],.sl 5 [],.sl 3 []]),(32,.agg [.bool false,.int 0]),(34,.agg [.int 0,.int 0,.bool false,.int 0]),(37,.sl 3 []),(38,.sl 5 []),(40,.agg [.int 0,.sl 3 [],.int 0,.int 0,.sl 5 []]),(42,.agg [.int 0,.sl 1 [],.int 0,.sl 3 [],.int 0,.int 0,.sl 5 [],.int 0]),(43,.int 0),(51,.sl 1 []),(53,.sl 2 []),(55,.agg [.sl 2 [],.int 0]),(57,.agg [.int 0,.int 0,.sl 2 [],.int 0,.int 0,.int 0]),(60,.val .nilFunc),(64,.agg [.int 0,.int 0,.int 0]),(73,.sl 2 []),(74,.sl 2 []),(75,.sl 3 []),(77,.agg [.sl 2 [],.sl 2 [],.sl 3 []]),(79,.agg [.int 0,.sl 1 [],.sl 2 [],.sl 2 [],.sl 3 []]),(80,.sl 2 []),(83,.agg [.int 0,.int 0]),(84,.sl 3 []),(85,.sl 1 []),(87,.agg [.sl 2 [],.sl 2 [],.sl 3 [],.sl 1 []]),(91,.agg [.int 0,.int 0,.sl 1 [],.int 0,.sl 3 [],.int 0,.int 0,.sl 5 [],.int 0]),(95,.val (.map none)),(107,.agg [.str [],.int 0,.sl 1 [],.int 0,.int 0,.int 0]),(109,.agg [.int 0,.int 0]),(111,.agg [.str [],.bool false,.sl 1 []]),(113,.agg [.int 0,.int 0]),(124,.agg [.int 0,.int 0,.sl 1 []]),(130,.val (.pointer none)),(132,.agg [.sl 2 [],.sl 2 [],.sl 3 [],.sl 1 [],.sl 2 [],.int 0,.int 0]),(134,.agg [.sl 1 [],.int 0,.int 0,.sl 3 [],.int 0,.int 0,.sl 5 []]),(149,.agg [.int 0,.int 0,.int 0]),(153,.agg [.sl 2 [],.sl 2 [],.sl 3 [],.sl 1 [],.sl 2 [],.sl 2 [],.bool false]),(173,.sl 1 []),(192,.agg [.sl 3 [],.sl 2 [],.bool false,.bool false]),(202,.agg [.int 0,.int 0,.int 0]),(216,.sl 2 []),(218,.agg [.sl 1 [],.sl 6 [],.sl 1 [],.sl 6 [],.sl 3 [],.sl 5 [],.sl 3 [],.sl 2 [],.sl 2 []]),(221,.agg [.int 0,.sl 1 []]),(223,.agg [.int 0,.sl 1 []]),(243,.agg [.int 0,.int 0,.int 0]),(248,.val .nilFunc),(255,.agg [.sl 1 [],.sl 6 [],.sl 1 [],.sl 6 [],.sl 3 [],.sl 5 [],.sl 3 [],.sl 2 []]),(260,.val (.int .u64 0)),(267,.sl 4 []),(271,.agg [.int 0,.int 0,.int 0,.int 0]),(278,.val (.map none)),(283,.val (.map none)),(289,.int 0),(296,.val (.int .u32 0)),(298,.val (.int .u64 0)),(317,.val (.int .u64 0)),(339,.sl 2 []),(341,.agg [.int 0,.int 0]),(343,.val (.pointer none)),(344,.sl 3 []),(345,.sl 3 []),(347,.agg [.sl 3 [],.sl 3 [],.int 0]),(348,.val (.int .u16 0)),(350,.agg [.val (.int .u16 0),.val (.int .u16 0),.val (.int .u16 0)]),(353,.agg [.val (.int .u32 0),.val (.int .u32 0),.val (.int .u32 0)])]
def tF2 (t i:Nat):Option (Nat×Nat):=match assN tF2l t with
 | some r=>nthO r i
 | none=>none
def tSt (t:Nat):Bool:=memN tStl t
def tE:Nat→Option (Nat×Nat×Nat):=assN tEl
def tZd:Nat→Option D:=assN tZdl
def zxo (P:Program) (t:Nat):List (Option (Nat×Nat))→Nat→Bool
 | [],_=>true
 | none::l,i=>zxo P t l (i+1)
 | some (o,n)::l,i=>decide (zu5 P t i=some (o,some n))&&zxo P t l (i+1)
theorem zm2 {P t o n}:∀ {l} {j i},zxo P t l j=true→nthO l i=some (o,n)→zu5 P t (j+i)=some (o,some n)
 | [],_,_,_,h=>by grind [nthO]
 | x::l,j,0,a,h=>by
  subst h;simp only [zxo] at a
  grind
 | x::l,j,i+1,a,h=>by
  have b:zxo P t l (j+1)=true:=by
   cases x with
   | none=>exact a
   | some o=>simp only [zxo] at a;grind
  have:=zm2 b h
  grind
theorem zsE:(tF2l.all λp=>zxo Tryz.prog p.1 p.2 0)=true:=by kernel_rfl
theorem zrR {t i o n} (h:tF2 t i=some (o,n)):zu5 Tryz.prog t i=some (o,some n):=by
 unfold tF2 at h;cases a:assN tF2l t with
 | none=>simp_all
 | some r=>
  rw [a] at h;have:=zm2 (yp.1 zsE _ (zdm a)) h;simp_all
def stB (P:Program) (t:Nat):Bool:=match P.underlying t with
 | some .string=>true
 | _=>false
theorem zsF:tStl.all (stB Tryz.prog)=true:=by kernel_rfl
theorem zkr {t} (h:tSt t=true):Tryz.prog.underlying t=some .string:=by
 have:=yp.1 zsF t (zhP h)
 grind [stB]
def tBol:List Nat:=[4]
def boB (P:Program) (t:Nat):Bool:=match P.underlying t with
 | some .bool=>true
 | _=>false
theorem zsC:tBol.all (boB Tryz.prog)=true:=by kernel_rfl
theorem ztk {t} (h:memN tBol t=true):Tryz.prog.underlying t=some .bool:=by
 have:=yp.1 zsC t (zhP h)
 grind [boB]
theorem ztm:(tEl.all λp=>zbK Tryz.prog p.1 p.2.1 p.2.2.1 p.2.2.2)=true:=by kernel_rfl
theorem zym {t el k b} (h:tE t=some (el,k,b)):zbK Tryz.prog t el k b=true:=yp.1 ztm (t,el,k,b) (zdm h)
theorem zqJ:(tZdl.all λp=>zdB Tryz.prog p.1 p.2)=true:=by kernel_rfl
def nilZ:D→D
 | .sl _ []=>.val (.slice none 0 0)
 | d=>d
def zyb (js:List Nat):List D→Nat→List D
 | d::ds,i=>(match memN js i with
  | true=>nilZ d
  | false=>d)::zyb js ds (i+1)
 | [],_=>[]
def nilAt (js:List Nat):D→D
 | .agg ds=>.agg (zyb js ds 0)
 | d=>nilZ d
theorem zmc {d} {v} (h:zfit d v=true):zfit (nilZ d) v=true:=by
 unfold nilZ;split
 ·unfold zfit at h ⊢
  grind
 grind
theorem znk (js):∀ {ds} {vs} (i),zwv ds vs=true→zwv (zyb js ds i) vs=true
 | [],[],_,_=>rfl
 | [],_::_,_,h=>by grind [zwv]
 | _::_,[],_,h=>by grind [zwv]
 | d::ds,v::vs,i,h=>by
  simp only [zwv,yd,zyb] at h ⊢;refine ⟨?_,znk js (i+1) h.2⟩
  grind [zmc]
theorem zqK {t d} (js) (h:tZd t=some d):zvq Tryz.prog t (nilAt js d):=zrW (by
 have h:=yp.1 zqJ (t,d) (zdm h);unfold zdB at h ⊢;cases a:zbD Tryz.prog t with
 | none=>simp_all
 | some z=>
  rw [a] at h;cases d with
  | agg ds=>
   cases z with
   | agg vs=>exact znk js 0 h
   | _=>grind [zfit]
  | sl k xs=>cases xs <;> cases z <;> exact zmc h
  | _=>cases z <;> exact zmc h)
theorem zoN {t d} (h:tZd t=some d):zvq Tryz.prog t d:=zrW (yp.1 zqJ (t,d) (zdm h))
def zok {α:Type}:List α→Bool
 | []=>true
 | _=>false
def kOKs (k:Nat):List D→Bool
 | []=>true
 | d::ds=>match d.kOK k with
  | true=>kOKs k ds
  | false=>false
theorem zol {k}:∀ {ds},kOKs k ds=true→∀ d∈ds,d.kOK k=true
 | [],_,_,h=>by grind
 | d::ds,h,x,a=>by
  unfold kOKs at h;split at h
  ·rcases yG.1 a with rfl | a
   ·grind
   ·exact zol h x a
  grind
def ixs:List (Nat×Operand)→Nat→Bool
 | [],_=>true
 | (i,_)::l,j=>match Nat.beq i j with
  | true=>ixs l (j+1)
  | false=>false
theorem zrI:∀ {l} {j},ixs l j=true→l.map (·.1)=List.range' j l.length
 | [],_,_=>rfl
 | (i,x)::l,j,h=>by
  unfold ixs at h;split at h
  ·rename_i a;rw [yY,yU,List.range'_succ,zrI h,Nat.eq_of_beq_eq_true a]
  grind
def zls:List D→List D→List D
 | c::cs,d::ds=>zl1 c d::zls cs ds
 | cs,[]=>cs
 | [],_=>[]
theorem zqT:∀ {cs} (ds),D.Les cs (zls cs ds)
 | [],[]=>.nil
 | [],_::_=>.nil
 | c::cs,[]=>lesR _
 | c::cs,d::ds=>.cons (zrX c d) (zqT ds)
theorem OpV.les {P} {o} {e} {H} {ds ds'} (h:OpV P o e H (.d (.agg ds))) (hl:D.Les ds ds'):OpV P o e H (.d (.agg ds')):=⟨λl c w f m g i j=>by
 refine ze9.imp (λu p a=>⟨a.1,?_⟩) (h.run l c w f m g i j);have:=a.2;obtain ⟨k,n,b⟩:=this;exact ⟨k,n,hl.reps b⟩⟩
section
variable (H:List Blk) (e:Operand→Option V)
def wFld (t:TypeId) (x:Operand) (i:Nat):Option V:=match e x with
 | some (.d (.ref (.agg cs)))=>match tF2 t i with
  | some (o,n)=>match zv5 o n cs with
   | some ds=>match zxi ds n with
    | true=>some (.d (.ref (.agg ds)))
    | false=>none
   | none=>none
  | none=>none
 | some (.loc b off)=>match tF2 t i with
  | some (o,_)=>match zv8 H b with
   | some _=>some (.loc b (off+o))
   | none=>none
  | none=>none
 | _=>none
def wLoad (t:TypeId) (x:Operand):Option V:=match e x with
 | some (.loc b off)=>match tS t with
  | some (some n)=>match zv8 H b with
   | some cs=>match zv5 off n cs with
    | some vs=>some (zyf vs)
    | none=>none
   | none=>none
  | _=>none
 | _=>none
def wFn (f:Fn) (fs cs:Array Operand):Option V:=match f with
 | .func g=>match zok fs.toList with
  | true=>match evs e cs.toList with
   | some ds=>some (.d (.fn (.func g) [] ds))
   | none=>none
  | false=>none
 | _=>none
def wStr (op:BinOp) (x y:Operand):Option V:=match e x with
 | some (.d (.val (.string a)))=>match e y with
  | some (.d (.val (.string b)))=>match op with
   | .eql=>some (.d (.bool (decide (a.data.toList=b.data.toList))))
   | .neq=>some (.d (.bool (!decide (a.data.toList=b.data.toList))))
   | _=>none
  | _=>none
 | _=>none
def wBoo (op:BinOp) (t:TypeId) (x y:Operand):Option V:=match e x with
 | some (.d (.val (.bool a)))=>match e y with
  | some (.d (.val (.bool b)))=>match memN tBol t with
   | true=>match op with
    | .eql=>some (.d (.bool (a==b)))
    | .neq=>some (.d (.bool (a != b)))
    | _=>none
   | false=>none
  | _=>none
 | _=>wStr e op x y
def wNeg (x:Operand):Option V:=match e x with
 | some (.d (.val (.int k a)))=>match k with
  | .i64=>some (.d (.int (zuj a)))
  | _=>none
 | _=>none
def wBld (t:TypeId) (parts:Array (Nat×Operand)):Option V:=match tP t with
 | some pl=>match tZd t with
  | some (.agg zs)=>match zgQ e pl parts.toList with
   | some ps=>match zv0 zs ps with
    | some ds=>some (.d (.agg (zls ds zs)))
    | none=>none
   | none=>none
  | _=>none
 | none=>none
def hasSl:List D→Bool
 | .sl _ _::_=>true
 | .osl _ _::_=>true
 | _::l=>hasSl l
 | []=>false
def wBldN (js:List Nat) (t:TypeId) (parts:Array (Nat×Operand)):Option V:=match tP t with
 | some pl=>match tZd t with
  | some (.agg zs)=>match zgQ e pl parts.toList with
   | some ps=>match zv0 (zyb js zs 0) ps with
    | some ds=>some (.d (.agg ds))
    | none=>none
   | none=>none
  | _=>none
 | none=>none
def wBld0 (t:TypeId) (parts:Array (Nat×Operand)):Option V:=match tZd t with
 | some (.agg zs)=>match hasSl zs with
  | true=>none
  | false=>wBld e t parts
 | _=>none
def wBsl (t:TypeId) (len:Nat) (parts:Array (Nat×Operand)):Option V:=match tE t with
 | some (_,k,_)=>match evs e (parts.toList.map (·.2)) with
  | some ds=>match ixs parts.toList 0 with
   | true=>match Nat.beq parts.toList.length len with
    | true=>match Nat.ble (len*k) 16777216 with
     | true=>match kOKs k ds with
      | true=>some (.d (.sl k ds))
      | false=>none
     | false=>none
    | false=>none
   | false=>none
  | none=>none
 | none=>none
def wLen (args:List Operand) (tys:List TypeId):Option V:=match args with
 | [x]=>match tys with
  | [t]=>match e x with
   | some (.d (.val (.string a)))=>match tSt t with
    | true=>some (.d (.int a.data.toList.length))
    | false=>none
   | _=>none
  | _=>none
 | _=>none
def wMM (mx:Bool) (args:List Operand):Option V:=match args with
 | [x,y]=>match e x with
  | some (.d (.val (.int k a)))=>match e y with
   | some (.d (.val (.int k' b)))=>match decide (k=k') with
    | true=>some (.d (.val (.int k (match mx with | true=>gmax a b | false=>gmin a b))))
    | false=>none
   | _=>none
  | _=>none
 | _=>none
def wOp2:Op→Option V
 | .fieldAddr t x i=>wFld H e t x i
 | .load t x=>wLoad H e t x
 | .makeFunc f fs cs=>wFn e f fs cs
 | .unOp .neg _ x=>wNeg e x
 | .binOp op t x y _=>wBoo e op t x y
 | .build t parts=>wBld0 e t parts
 | .buildSlice t len parts=>wBsl e t len parts
 | .call c=>match c.callee with
  | .builtin .len=>wLen e c.args.toList c.argTypes.toList
  | .builtin .max=>wMM e true c.args.toList
  | .builtin .min=>wMM e false c.args.toList
  | _=>none
 | _=>none
end
def zrF:List (Nat×Operand)→Bool
 | []=>true
 | (_,.const (.slice none 0 0))::_=>true
 | [_]=>false
 | _::l=>zrF l
def nilA:Op→Bool
 | .assign (.const (.slice none 0 0))=>true
 | .move (.const (.slice none 0 0))=>true
 | .buildSlice _ _ ps=>zrF ps.toList
 | _=>false
def wOp (H:List Blk) (e:Operand→Option V) (op:Op):Option V:=match nilA op with
 | true=>none
 | false=>match vOp tF tS H e op with
  | some v=>some v
  | none=>wOp2 H e op
theorem arr0 {α} {a:Array α} (h:zok a.toList=true):a = #[]:=by
 obtain ⟨l⟩:=a;cases l with
 | nil=>rfl
 | cons _ _=>cases h
theorem arr1 {α:Type} {a} {x:α} (h:a.toList=[x]):a = #[x]:=by
 grind
theorem arr2 {α:Type} {a} {x y:α} (h:a.toList=[x,y]):a = #[x,y]:=by
 grind
theorem zqV {o} {e} {H} {t el len k bytes:Nat} {parts} {ds} (ho:o.op = .buildSlice t len parts) (hp:parts.toList.map (·.1)=List.range' 0 len) (he:zbK Tryz.prog t el k bytes=true) (hx:evs e (parts.toList.map (·.2))=some ds) (hk:∀ d∈ds,d.kOK k=true) (hl:Nat.ble (len*k) 16777216=true):OpV Tryz.prog o e H (.d (.sl k ds)):=by
 have:=OpV.zug (P:=Tryz.prog) (H:=H) (enc:=λx:{d:D // d.kOK k=true}=>x.1) (ds.attach.map λd=>⟨d.1,hk d.1 d.2⟩) ho hp he (by simpa using hx) (λx=>x.2) hl;simp_all
section
variable {o:Oper} {e:Operand→Option V} {H:List Blk} {v:V}
theorem zsK {t x i} (ho:o.op = .fieldAddr t x i) (h:wFld H e t x i=some v):OpV Tryz.prog o e H v:=by
 unfold wFld at h;split at h
 ·split at h
  ·split at h
   ·split at h
    ·cases h;obtain ⟨b,c⟩:=zjz ‹zv5 _ _ _=_›;exact .fieldAddr ho ‹e x=_› (Fld.of (zrR ‹tF2 t i=_›) (congrArg some (zjW ‹zxi _ _=_›)) (by simp only [zk2];simp_all))
    grind
   grind
  grind
 ·split at h
  ·split at h
   ·cases h;obtain ⟨_,a⟩:=zht ‹zv8 _ _=_›;exact .ztN ho ‹e x=_› a (zrR ‹tF2 t i=_›)
   grind
  grind
 grind
theorem zrt {t x} (ho:o.op = .load t x) (h:wLoad H e t x=some v):OpV Tryz.prog o e H v:=by
 unfold wLoad at h;split at h
 ·split at h
  ·split at h
   ·split at h
    ·cases h;obtain ⟨b,c⟩:=zjz ‹zv5 _ _ _=_›;obtain ⟨_,a⟩:=zht ‹zv8 _ _=_›;exact .zu2 ho ‹e x=_› a (Tab.sh _ _ ‹tS t=_›) c (by rw [b])
    grind
   grind
  grind
 grind
theorem zts {f fs cs} (ho:o.op = .makeFunc f fs cs) (h:wFn e f fs cs=some v):OpV Tryz.prog o e H v:=by
 unfold wFn at h;split at h
 ·split at h
  ·split at h
   ·cases h;rw [arr0 ‹zok fs.toList=_›] at ho;exact .makeFunc ho ‹evs _ _=_›
   grind
  grind
 grind
theorem zsO {op t x y u} (ho:o.op = .binOp op t x y u) (h:wStr e op x y=some v):OpV Tryz.prog o e H v:=by
 unfold wStr at h;split at h
 ·split at h
  ·split at h
   ·cases h;exact .zxr ho ‹e x=_› ‹e y=_›
   ·cases h;exact .zyl ho ‹e x=_› ‹e y=_›
   grind
  grind
 grind
theorem zsI {op t x y u} (ho:o.op = .binOp op t x y u) (h:wBoo e op t x y=some v):OpV Tryz.prog o e H v:=by
 unfold wBoo at h;split at h
 ·split at h
  ·split at h
   ·have a:=ztk ‹memN _ _=_›;split at h
    ·cases h;exact .beq ho a ‹e x=_› ‹e y=_›
    ·cases h;exact .bne ho a ‹e x=_› ‹e y=_›
    grind
   grind
  grind
 grind [zsO]
theorem zsM {t x} (ho:o.op = .unOp .neg t x) (h:wNeg e x=some v):OpV Tryz.prog o e H v:=by
 unfold wNeg at h;split at h
 ·split at h
  ·cases h;exact .neg6 ho ‹e x=_›
  grind
 grind
theorem zqQ {t parts} (ho:o.op = .build t parts) (h:wBld e t parts=some v):OpV Tryz.prog o e H v:=by
 unfold wBld at h;split at h
 ·split at h
  ·split at h
   ·split at h
    ·cases h;exact OpV.les (.build ho (tP_ok ‹tP t=_›) (zoN ‹tZd t=_›) ‹zgQ _ _ _=_› ‹zv0 _ _=_›) (zqT _)
    grind
   grind
  grind
 grind
theorem zrs {js t parts} (ho:o.op = .build t parts) (h:wBldN e js t parts=some v):OpV Tryz.prog o e H v:=by
 unfold wBldN at h;split at h
 ·split at h
  ·split at h
   ·split at h
    ·cases h;exact .build ho (tP_ok ‹tP t=_›) (zqK js (d:=.agg _) ‹tZd t=_›) ‹zgQ _ _ _=_› ‹zv0 _ _=_›
    grind
   grind
  grind
 grind
theorem zrr {t parts} (ho:o.op = .build t parts) (h:wBld0 e t parts=some v):OpV Tryz.prog o e H v:=by
 grind [wBld0,zqQ]
theorem zsJ {t len parts} (ho:o.op = .buildSlice t len parts) (h:wBsl e t len parts=some v):OpV Tryz.prog o e H v:=by
 unfold wBsl at h;split at h
 ·split at h
  ·split at h
   ·split at h
    ·split at h
     ·split at h
      ·cases h;exact zqV ho (by grind [zrI,Nat.eq_of_beq_eq_true]) (zym ‹tE t=_›) ‹evs _ _=_› (zol ‹kOKs _ _=_›) ‹Nat.ble _ _=_›
      grind
     grind
    grind
   grind
  grind
 grind
theorem zsL {c} (ho:o.op = .call c) (hc:c.callee = .builtin .len) (h:wLen e c.args.toList c.argTypes.toList=some v):OpV Tryz.prog o e H v:=by
 unfold wLen at h;obtain ⟨f,b,d⟩:=c;subst hc;split at h
 ·split at h
  ·split at h
   ·split at h
    ·cases h;have g:=arr1 ‹b.toList=_›;have a:=arr1 ‹d.toList=_›;subst g a;exact .zvN ho (zkr ‹tSt _=_›) ‹e _=_›
    grind
   grind
  grind
 grind
theorem zrV {c} {mx} (ho:o.op = .call c) (hc:c.callee = .builtin (match mx with | true=>.max | false=>.min)) (h:wMM e mx c.args.toList=some v):OpV Tryz.prog o e H v:=by
 unfold wMM at h;obtain ⟨f,b,g⟩:=c;subst hc;split at h
 ·split at h
  ·split at h
   ·split at h
    ·cases h;have d:=arr2 ‹b.toList=_›;subst d;have a:=of_decide_eq_true ‹decide _=_›;subst a;cases mx
     ·exact .min2 ho ‹e _=_› ‹e _=_›
     ·exact .max2 ho ‹e _=_› ‹e _=_›
    grind
   grind
  grind
 grind
theorem zsN (h:wOp2 H e o.op=some v):OpV Tryz.prog o e H v:=by
 cases a:o.op with
 | fieldAddr t x i=>rw [a] at h;exact zsK a h
 | load t x=>rw [a] at h;exact zrt a h
 | makeFunc f fs cs=>rw [a] at h;exact zts a h
 | unOp u t x=>rw [a] at h;cases u <;> first | (exact zsM a h) | (cases h)
 | binOp op t x y u=>rw [a] at h;exact zsI a h
 | build t parts=>rw [a] at h;exact zrr a h
 | buildSlice t len parts=>rw [a] at h;exact zsJ a h
 | call c=>
  rw [a] at h;simp only [wOp2] at h;split at h
  ·grind [zsL]
  ·exact zrV (mx:=true) a ‹_› h
  ·exact zrV (mx:=false) a ‹_› h
  grind
 | _=>rw [a] at h;cases h
theorem zoS (h:wOp H e o.op=some v):OpV Tryz.prog o e H v:=by
 unfold wOp at h;split at h
 ·cases h
 ·split at h
  ·cases h;exact zoQ (P:=Tryz.prog) ‹vOp _ _ _ _ _=_›
  grind [zsN]
theorem zoT (h:wOp H e o.op=some v):zah o=false:=by
 grind [zah,wOp,wOp2,vOp]
end
end
section
set_option maxRecDepth 100000
variable [Drw]
def runW (N:Nat) (H:List Blk):List Oper→List (Nat×V)→List Oper×List (Nat×V)
 | o::l,T=>match o.guard with
  | none=>match o.dst with
   | some d=>match Nat.blt d N with
    | true=>match wOp H (ev T) o.op with
     | some v=>runW N H l ((d,v)::T)
     | none=>(o::l,T)
    | false=>(o::l,T)
   | none=>(o::l,T)
  | some _=>(o::l,T)
 | [],T=>([],T)
def runW1 (N:Nat) (H:List Blk):List Oper→List (Nat×V)→Option (List Oper×List (Nat×V))
 | o::l,T=>match o.guard with
  | none=>match o.dst with
   | some d=>match Nat.blt d N with
    | true=>match wOp H (ev T) o.op with
     | some v=>some (runW N H l ((d,v)::T))
     | none=>none
    | false=>none
   | none=>none
  | some _=>none
 | [],_=>none
def gOK (ops:Array Oper) (T:List (Nat×V)):Option (Nat×Bool)→Bool
 | none=>true
 | some (j,w)=>match (ops[j]?).bind (·.dst) with
  | some g=>match look g T with
   | some (.d (.val (.bool b)))=>zxp b w
   | _=>false
  | none=>false
def sameG:Option (Nat×Bool)→Option (Nat×Bool)→Bool
 | none,none=>true
 | some (i,a),some (j,b)=>match Nat.beq i j with
  | true=>zxp a b
  | false=>false
 | _,_=>false
def runQW (N:Nat) (H:List Blk) (ops:Array Oper) (g:Option (Nat×Bool)):List Oper→List (Nat×V)→List Oper×List (Nat×V)
 | o::l,T=>match sameG o.guard g with
  | true=>match gOK ops T o.guard with
   | true=>match o.dst with
    | some d=>match Nat.blt d N with
     | true=>match wOp H (ev T) o.op with
      | some v=>runQW N H ops g l ((d,v)::T)
      | none=>(o::l,T)
     | false=>(o::l,T)
    | none=>(o::l,T)
   | false=>(o::l,T)
  | false=>(o::l,T)
 | [],T=>([],T)
def zqx (N:Nat) (H:List Blk) (ops:Array Oper):List Oper→List (Nat×V)→Option (List Oper×List (Nat×V))
 | o::l,T=>match gOK ops T o.guard with
  | true=>match o.dst with
   | some d=>match Nat.blt d N with
    | true=>match wOp H (ev T) o.op with
     | some v=>some (runQW N H ops o.guard l ((d,v)::T))
     | none=>none
    | false=>none
   | none=>none
  | false=>none
 | [],_=>none
section
variable {C:Ctx} {ops:Array Oper} {Q:Exit→St→Prop} {o:Oper} {l rest:List Oper} {T T':List (Nat×V)} {H:List Blk} {N:Nat} {al:List Ev} {K:List Ev→List (Nat×V)→Prop}
theorem zqz (k:TriL Tryz.prog C ops rest Q ⟨T',H⟩):∀ (l) (T),runW C.n H l T=(rest,T')→TriL Tryz.prog C ops l Q ⟨T,H⟩
 | [],T,h=>by cases h;exact k
 | o::l,T,h=>by
  rw [runW] at h;split at h
  ·split at h
   ·split at h
    ·split at h
     ·have a:=‹o.dst=_›;refine .op ‹o.guard=_› (by rw [a];exact ‹Nat.blt _ _=_›) (zoS ‹wOp _ _ _=_›) ?_;rw [a];exact zqz k l _ h
     simp_all
    simp_all
   simp_all
  simp_all
theorem zri (k:TriL Tryz.prog C ops rest Q ⟨T',H⟩) {l} {T} (h:runW1 C.n H l T=some (rest,T')):TriL Tryz.prog C ops l Q ⟨T,H⟩:=by
 cases l with
 | nil=>cases h
 | cons o l=>
  rw [runW1] at h;split at h
  ·split at h
   ·split at h
    ·split at h
     ·have a:=‹o.dst=_›;refine .op ‹o.guard=_› (by rw [a];exact ‹Nat.blt _ _=_›) (zoS ‹wOp _ _ _=_›) ?_;rw [a];exact zqz k l _ (Option.some.inj h)
     grind
    grind
   grind
  grind
theorem zpW {d:Nat} {v} (hg:gOK ops T o.guard=true) (hd:o.dst=some d) (hn:Nat.blt d N=true) (hs:zah o=false) (hv:OpV Tryz.prog o (ev T) H v) (k:TriQ Tryz.prog N ops H l al ((d,v)::T) K):TriQ Tryz.prog N ops H (o::l) al T K:=by
 cases a:o.guard with
 | none=>exact .op a hd hn hs hv k
 | some p=>
  rw [a] at hg;simp only [gOK] at hg;split at hg
  ·split at hg
   ·have e:=zjw hg;subst e;exact .gop a ‹Option.bind _ _=_› ‹look _ _=_› hd hn hs hv k
   simp_all
  simp_all
theorem zoF (k:TriQ Tryz.prog N ops H rest al T' K) {g}:∀ (l) (T),runQW N H ops g l T=(rest,T')→TriQ Tryz.prog N ops H l al T K
 | [],T,h=>by cases h;exact k
 | o::l,T,h=>by
  rw [runQW] at h;split at h
  ·split at h
   ·split at h
    ·split at h
     ·split at h
      ·exact zpW ‹gOK _ _ _=_› ‹o.dst=_› ‹Nat.blt _ _=_› (zoT ‹wOp _ _ _=_›) (zoS ‹wOp _ _ _=_›) (zoF k l _ h)
      simp_all
     simp_all
    simp_all
   simp_all
  simp_all
theorem zqy (k:TriQ Tryz.prog N ops H rest al T' K) {l} {T} (h:zqx N H ops l T=some (rest,T')):TriQ Tryz.prog N ops H l al T K:=by
 cases l with
 | nil=>cases h
 | cons o l=>
  rw [zqx] at h;split at h
  ·split at h
   ·split at h
    ·split at h
     ·exact zpW ‹gOK _ _ _=_› ‹o.dst=_› ‹Nat.blt _ _=_› (zoT ‹wOp _ _ _=_›) (zoS ‹wOp _ _ _=_›) (zoF k l _ (Option.some.inj h))
     grind
    grind
   grind
  grind
end
end
section
set_option maxRecDepth 100000
variable [Drw]
section
variable {p:Prop} {C:Ctx} {ops:Array Oper} {Q:Exit→St→Prop} {o:Oper} {l l1 l2 rest:List Oper} {T T':List (Nat×V)} {H:List Blk} {s:St} {N:Nat} {al:List Ev} {K:List Ev→List (Nat×V)→Prop} {x y c:Code} {R:Type} {r:R}
theorem wk.seq (k:p→Tri Tryz.prog C x (zv6 (Tri Tryz.prog C y Q) Q) s):p→Tri Tryz.prog C (.seq x y) Q s:=λa=>.seq (k a)
theorem wk.skip (k:p→Q .normal s):p→Tri Tryz.prog C .skip Q s:=λa=>.skip (k a)
theorem wk.block {id} (k:p→Tri Tryz.prog C c (zfy id Q) s):p→Tri Tryz.prog C (.block id c) Q s:=λa=>.block (k a)
theorem wk.exit {id} (k:p→Q (.exit id) s):p→Tri Tryz.prog C (.exit id) Q s:=λa=>.exit (k a)
theorem wk.ret (k:p→Q .ret s):p→Tri Tryz.prog C .ret Q s:=λa=>.ret (k a)
theorem wk.xT {n} {i} (k:p→Q (.exit i) s):p→zv6 n Q (.exit i) s:=k
theorem wk.rT {n} (k:p→Q .ret s):p→zv6 n Q .ret s:=k
theorem wk.nB {i} (k:p→Q .normal s):p→zfy i Q .normal s:=k
theorem wk.rB {i} (k:p→Q .ret s):p→zfy i Q .ret s:=k
theorem wk.xB {i} (k:p→Q .normal s):p→zfy i Q (.exit i) s:=λa=>by simp only [zfy];grind
theorem wk.xJ {σ} {k} {J:σ→St} {i} (h:p→Q (.exit i) s):p→zwb k r J Q (.exit i) s:=h
theorem wk.rJ {σ} {k} {J:σ→St} (h:p→Q .ret s):p→zwb k r J Q .ret s:=h
theorem wk.nd {σ} {k} {J} {v:σ} {X} (g:(s.H,(J v).H.all (Blk.under (J v).H.length),(J v).T.all λp=>p.2.under (J v).H.length,lks (J v).T s.T)=((J v).H++X,true,true,vls (J v).T)):k v=some r→zwb k r J Q .normal s:=λh=>ndE h g
theorem wk.cond {b} {q} {m n} (hc:ev s.T q=some (.d (.bool b))) (ht:m=some r→Tri Tryz.prog C x Q s) (hf:n=some r→Tri Tryz.prog C y Q s):(if b=true then m else n)=some r→Tri Tryz.prog C (.cond q x y) Q s:=λh=>.ztJ hc h ht hf
theorem wk.zw0 {q} (hc:ev s.T q=some (.d (.bool false))) (k:p→Tri Tryz.prog C y Q s):p→Tri Tryz.prog C (.cond q x y) Q s:=λh=>.zw0 hc (k h)
theorem wk.gK {c} {m} {G:Prop} (k:c=true→m=some r→G):grd c m=some r→G:=λh=>k (grdS h).1 (grdS h).2
def zx4:List Oper→Nat→Nat→Nat
 | o::l,n,m=>match o.guard with
  | some _=>zx4 l (n+1) (n+1)
  | none=>match o.op with
   | .pick _ _ _=>zx4 l (n+1) (n+1)
   | _=>zx4 l (n+1) m
 | [],_,m=>m
def cutN {β:Type}:Nat→List Oper→(List Oper→List Oper→β)→β
 | 0,l,k=>k [] l
 | n+1,o::l,k=>cutN n l λa b=>k (o::a) b
 | _+1,[],k=>k [] []
theorem zil {β}:∀ (n) (l) (k:List Oper→List Oper→β),cutN n l k=k (l.take n) (l.drop n)
 | 0,l,k=>by simp [cutN]
 | n+1,[],k=>by simp [cutN]
 | n+1,o::l,k=>by rw [cutN,zil n l];simp
theorem wk.reg {id} (h:Nat.beq (zx4 l 0 0) 0=true) (k:p→TriL Tryz.prog C l.toArray l Q s):p→Tri Tryz.prog C (.region id l.toArray false) Q s:=λa=>.region (k a)
theorem wk.regP {id n} (h:(zx4 l 0 0,cutN n l λa b=>some (a,b))=(n,some (l1,l2))) (h2:znG l1=true) (k:p→TriQ Tryz.prog C.n l.toArray H l1 [] T (λ_ T=>TriL Tryz.prog C l.toArray l2 Q ⟨T,H⟩)):p→Tri Tryz.prog C (.region id l.toArray false) Q ⟨T,H⟩:=λc=>by
 simp only [yg,zil] at h;obtain ⟨_,rfl,rfl⟩:=h;exact .plain n h2 (k c)
def quiet (o:Oper) (mk:List (Nat×Nat)):Bool:=match o.op with
 | .store t (.tmp r) _=>match o.guard with
  | none=>match assN mk r with
   | some t'=>Nat.beq t t'
   | none=>false
  | some _=>false
 | .store _ _ _=>false
 | .mapUpdate _ _ _ _=>false
 | .makeMap _ _=>false
 | .makeSlice _ _ _=>false
 | .call c=>match c.callee with
  | .builtin .append=>false
  | .builtin .copy=>false
  | .builtin .clear=>false
  | .builtin .delete=>false
  | _=>true
 | _=>true
def zmN:List Oper→List (Nat×Nat)→Nat→Nat
 | o::l,mk,n=>match quiet o mk with
  | true=>match o.op with
   | .alloc t=>match o.dst with
    | some r=>zmN l ((r,t)::mk) (n+1)
    | none=>zmN l mk (n+1)
   | .store _ (.tmp r) _=>zmN l ((r,0)::mk) (n+1)
   | _=>zmN l mk (n+1)
  | false=>n
 | [],_,n=>n
theorem wk.regD {id n} (h:(zmN l [] 0,cutN n l λa b=>some (a,b))=(n,some (l1,l2))) (k:p→TriQ Tryz.prog C.n l.toArray H l1 [] T (λal T=>TriL Tryz.prog C l.toArray l2 Q (zkQ Tryz.prog H al T))) (h1:regOK l n=true:=by kernel_rfl) (h2:(zfq (l.take n)&&zef (l.take n))=true:=by kernel_rfl):p→Tri Tryz.prog C (.region id l.toArray true) Q ⟨T,H⟩:=λc=>by
 simp only [yg,zil] at h;obtain ⟨_,rfl,rfl⟩:=h;exact .draw n Hm h1 h2 (k c)
theorem wk.W (h:runW1 C.n H l T=some (rest,T')) (k:p→TriL Tryz.prog C ops rest Q ⟨T',H⟩):p→TriL Tryz.prog C ops l Q ⟨T,H⟩:=λa=>zri (k a) h
theorem wk.nil (k:p→Q .normal s):p→TriL Tryz.prog C ops [] Q s:=λa=>.nil (k a)
structure OpP (o:Oper) (e:Operand→Option V) (H:List Blk) (K:V→Prop):Prop where
 out:∃ v,OpV Tryz.prog o e H v∧K v
structure zui (f:FuncId) (xs:List D) (K:D→Prop):Prop where
 out:∃ y,Pure Tryz.prog f xs y∧K y
structure DynP (F:D) (xs:List D) (K:D→Prop):Prop where
 out:∃ y,Dyn Tryz.prog F xs y∧K y
theorem wk.oL {d} (g:(o.guard,o.dst,Nat.blt d C.n)=(none,some d,true)) (k:p→OpP o (ev T) H λv=>TriL Tryz.prog C ops rest Q ⟨(d,v)::T,H⟩):p→TriL Tryz.prog C ops (o::rest) Q ⟨T,H⟩:=λb=>by
 simp only [yg] at g;obtain ⟨v,c,a⟩:=(k b).out;refine .op g.1 (by rw [g.2.1];exact g.2.2) c ?_;rw [g.2.1];exact a
theorem wk.oQ {d} (g:(gOK ops T o.guard,o.dst,Nat.blt d N,zah o)=(true,some d,true,false)) (k:p→OpP o (ev T) H λv=>TriQ Tryz.prog N ops H rest al ((d,v)::T) K):p→TriQ Tryz.prog N ops H (o::rest) al T K:=λa=>by
 obtain ⟨v,c,b⟩:=(k a).out
 grind [zpW]
section
variable {e:Operand→Option V} {G:V→Prop} {q i z:Operand} {t u kk:Nat}
theorem wk.oe {α:Type} {j} {xs:List α} {enc} (g:(o.op,e q,tX t)=(.call { callee:=.builtin .len,args:=#[q],argTypes:=#[t] },some (.d (.sl j (xs.map enc))),some kk)) (k:p→G (.d (.int xs.length))):p→OpP o e H G:=λb=>by
 simp only [yg] at g;obtain ⟨c,a,_⟩:=zwz g.2.2;exact ⟨_,.len g.1 a g.2.1,k b⟩
theorem wk.oev {α:Type} {b n kk' el:Nat} {xs:List α} {enc} (g:(o.op,e q,H[b]?,tX t)=(.call { callee:=.builtin .len,args:=#[q],argTypes:=#[t] },some (.vec b n),some (.vec el kk' (xs.map enc)),some kk)) (k:p→G (.d (.int xs.length))) (hn:n=xs.length:=by exact rfl):p→OpP o e H G:=λc=>by
 simp only [yg] at g;obtain ⟨el,a,_⟩:=zwz g.2.2.2;exact ⟨_,.lenV g.1 a g.2.1 g.2.2.1 hn,k c⟩
theorem wk.ox {α} {xs} {enc} {a} {f:α→Option R} (g:(o.op,e q,e i,tX t)=(.indexAddr t q i,some (.d (.sl kk (xs.map enc))),some (.d (.int a)),some kk)) (k:∀ v,f v=some r→G (.d (.ref (enc v)))):(idx xs a).bind f=some r→OpP o e H G:=λh=>by
 simp only [yg] at g;obtain ⟨v,c,j⟩:=zud h;obtain ⟨m,l,b⟩:=zwz g.2.2.2;exact ⟨_,.idx g.1 g.2.1 g.2.2.1 l b c,k v j⟩
theorem wk.oxg {α} [Inhabited α] {xs} {enc:α→D} {a} (g:(o.op,e q,e i,tX t)=(.indexAddr t q i,some (.d (.sl kk (xs.map enc))),some (.d (.int a)),some kk)) (hv:p→(idx xs a).isSome=true) (k:p→G (.d (.ref (enc ((idx xs a).getD default))))):p→OpP o e H G:=λb=>by
 simp only [yg] at g;obtain ⟨h,f,c⟩:=zwz g.2.2.2;exact ⟨_,.idx g.1 g.2.1 g.2.2.1 f c (zup (hv b)),k b⟩
theorem wk.oxv {α} {b n el:Nat} {xs} {enc} {a} {f:α→Option R} (g:(o.op,e q,H[b]?,e i,tX t)=(.indexAddr t q i,some (.vec b n),some (.vec el kk (xs.map enc)),some (.d (.int a)),some kk)) (k:∀ v,idx xs a=some v→f v=some r→G (.el b n a.toNat 0)) (hn:n=xs.length:=by exact rfl):(idx xs a).bind f=some r→OpP o e H G:=λh=>by
 simp only [yg] at g;obtain ⟨v,c,l⟩:=zud h;obtain ⟨m,p,j⟩:=zwz g.2.2.2.2;exact ⟨_,.idxV g.1 g.2.1 g.2.2.1 hn g.2.2.2.1 p j c,k v c l⟩
theorem wk.ole {α} {b n el:Nat} {xs} {enc} {a} {v:α} {y} (g:(o.op,e q,H[b]?,tS t)=(.load t q,some (.el b n a.toNat 0),some (.vec el kk (xs.map enc)),some y)) (hv:idx xs a=some v) (hk:zfH (enc v) y=true) (k:p→G (.d (enc v))) (hn:n=xs.length:=by exact rfl):p→OpP o e H G:=λc=>by
 simp only [yg] at g;exact ⟨_,.zwq g.1 g.2.1 g.2.2.1 hn hv (Tab.sh _ _ g.2.2.2) (zfl hk),k c⟩
theorem wk.oqu {a b} {f} (g:(o.op,e q,e z)=(.binOp .quo t q z u,some (.d (.int a)),some (.d (.int b)))) (k:∀ v,f v=some r→G (.d (.int v))):(zuU a b).bind f=some r→OpP o e H G:=λh=>by
 simp only [yg] at g;obtain ⟨v,i,c⟩:=zud h;exact ⟨_,.quo6 g.1 g.2.1 g.2.2 i,k v c⟩
theorem wk.ore {a b} {f} (g:(o.op,e q,e z)=(.binOp .rem t q z u,some (.d (.int a)),some (.d (.int b)))) (k:∀ v,f v=some r→G (.d (.int v))):(zuV a b).bind f=some r→OpP o e H G:=λh=>by
 simp only [yg] at g;obtain ⟨v,i,c⟩:=zud h;exact ⟨_,.rem6 g.1 g.2.1 g.2.2 i,k v c⟩
theorem wk.osi {l} {a} {f} (g:(o.op,e q,e i,tSt t)=(.index t q i,some (.d (.str l)),some (.d (.int a)),true)) (k:∀ v,f v=some r→G (.d (.val (.int .u8 v)))):(sidx l a).bind f=some r→OpP o e H G:=λh=>by
 simp only [yg] at g;obtain ⟨v,c,b⟩:=zud h;exact ⟨_,.sidx g.1 g.2.1 g.2.2.1 (zkr g.2.2.2) c,k v b⟩
theorem wk.osig {l} {a} (g:(o.op,e q,e i,tSt t)=(.index t q i,some (.d (.str l)),some (.d (.int a)),true)) (hv:p→(sidx l a).isSome=true) (k:p→G (.d (.val (.int .u8 ((sidx l a).getD default))))):p→OpP o e H G:=λb=>by
 simp only [yg] at g;exact ⟨_,.sidx g.1 g.2.1 g.2.2.1 (zkr g.2.2.2) (zup (hv b)),k b⟩
theorem wk.ocl {l} {a} {f} (g:(o.op,e q,e i,tSt t)=(.slice t q (some i) none none,some (.d (.str l)),some (.d (.int a)),true)) (k:∀ v,f v=some r→G (.d (.str v))):(cut l a (l.length:Int)).bind f=some r→OpP o e H G:=λh=>by
 simp only [yg] at g;obtain ⟨v,c,b⟩:=zud h;exact ⟨_,.zwJ g.1 g.2.1 g.2.2.1 (zkr g.2.2.2) c,k v b⟩
theorem wk.ochg {l} {a} (g:(o.op,e q,e i,tSt t)=(.slice t q none (some i) none,some (.d (.str l)),some (.d (.int a)),true)) (hv:p→(cut l 0 a).isSome=true) (k:p→G (.d (.str ((cut l 0 a).getD default)))):p→OpP o e H G:=λb=>by
 simp only [yg] at g;exact ⟨_,.zxX g.1 g.2.1 g.2.2.1 (zkr g.2.2.2) (zup (hv b)),k b⟩
theorem wk.ons (g:(o.op,tX o.type)=(.assign (.const (.slice none 0 0)),some kk)) (k:p→G (.d (.sl kk []))):p→OpP o e H G:=λa=>by
 simp only [yg] at g;exact ⟨_,.nilS (α:=D) kk id g.1,k a⟩
def ze0:List Operand→List TypeId→List D→List D
 | .const (.slice none 0 0)::xs,t::ts,d::ds=>(match d with
  | .val (.slice none 0 0)=>match tX t with
   | some k=>.sl k []
   | none=>d
  | _=>d)::ze0 xs ts ds
 | _::xs,_::ts,d::ds=>d::ze0 xs ts ds
 | _,_,ds=>ds
theorem zha:∀ (xs) (ts) (ds),D.Les ds (ze0 xs ts ds)
 | [],_,ds=>by grind [ze0,lesR]
 | x::xs,[],ds=>by grind [ze0,lesR]
 | x::xs,t::ts,[]=>by unfold ze0;split <;> first | exact .nil | simp_all
 | x::xs,t::ts,d::ds=>by
  unfold ze0;split
  ·rename_i b c a;cases a;refine .cons ?_ (zha _ _ _);split
   ·split
    ·exact .nil _
    ·exact .refl _
   ·exact .refl _
  ·rename_i b c a;cases a;exact .cons (.refl _) (zha _ _ _)
  grind
theorem wk.ocall {f:FuncId} {args} {tys} {xs xs'} (g:(o.op,memN tCl f,evs e args.toList)=(.call { callee:=.value (.func f),args:=args,argTypes:=tys },true,some xs)) (g2:ze0 args.toList tys.toList xs=xs') (k:p→zui f xs' λd=>G (.d d)):p→OpP o e H G:=λb=>by
 simp only [yg] at g;obtain ⟨y,c,a⟩:=(k b).out;subst g2;exact ⟨_,.callLe g.1 (zt3 g.2.1) g.2.2 (zha _ _ _) c,a⟩
theorem wk.ocallB {f:FuncId} {args} {tys} {xs} (g:(o.op,memN tCl f)=(.call { callee:=.value (.func f),args:=args,argTypes:=tys },true)) (hl:Lent e H args.toList xs) (k:p→zui f xs λd=>d.scal=true∧G (.d d)):p→OpP o e H G:=λb=>by
 simp only [yg] at g;obtain ⟨y,c,h,a⟩:=(k b).out;exact ⟨_,.zxD g.1 (zt3 g.2) hl h c,a⟩
theorem wk.odyn {args} {tys} {F} {xs} (g:(o.op,e q,evs e args.toList)=(.call { callee:=.value q,args:=args,argTypes:=tys },some (.d F),some xs)) (k:p→DynP F xs λd=>G (.d d)):p→OpP o e H G:=λb=>by
 simp only [yg] at g;obtain ⟨y,c,a⟩:=(k b).out;exact ⟨_,.dyn g.1 g.2.1 g.2.2 c,a⟩
end
class EqS (t:Nat) {α:outParam Type} (enc:outParam (α→D)) (de:outParam (DecidableEq α)):Prop where
 ok:∃ ls,zvg Tryz.prog t ls∧∃ vals:α→List Value,(∀ x,enc x=zhp (vals x))∧(∀ x,zaR ls (vals x)=true)∧∀ x y,eqVs (vals x) (vals y) = @decide (x=y) (de x y)
theorem wk.osn {α} {enc} {de} {e} {G} {q z} {t u:Nat} {a b:α} [hE:EqS t enc de] (g:(o.op,e q,e z)=(.binOp .neq t q z u,some (.d (enc a)),some (.d (enc b)))) (k:p→G (.d (.bool (!@decide (a=b) (de a b))))):p→OpP o e H G:=λj=>by
 simp only [yg] at g;obtain ⟨l,i,vals,f,c,h⟩:=hE.ok;exact ⟨_,.sneq g.1 i g.2.1 g.2.2 (f a) (f b) (c a) (c b) (h a b),k j⟩
class HS (t:Nat):Prop where mk ::
theorem wk.tnv {j el kk b} [HS j] (g:(o.guard,o.op,o.dst,Nat.blt j C.n,tE o.type)=(none,.assign (.const (.slice none 0 0)),some j,true,some (el,kk,b))) (k:p→TriL Tryz.prog C ops rest Q ⟨(j,.vec H.length 0)::(j,.d (.val (.slice none 0 0)))::T,H++[.vec el kk []]⟩):p→TriL Tryz.prog C ops (o::rest) Q ⟨T,H⟩:=λf=>by
 simp only [yg] at g;obtain ⟨e,c,a,h,i⟩:=g;refine .op e (by rw [a];exact h) (.assign c rfl) ?_;rw [a];exact .zvI j kk el (by simp [look]) (k f)
theorem wk.tbv {t len j el kk b:Nat} {parts} [HS j] (g:(o.guard,o.op,o.dst,Nat.blt j C.n,tE t,zok parts.toList,Nat.beq len 0)=(none,.buildSlice t len parts,some j,true,some (el,kk,b),true,true)) (k:p→TriL Tryz.prog C ops rest Q ⟨(j,.vec H.length 0)::T,H++[.vec el kk []]⟩):p→TriL Tryz.prog C ops (o::rest) Q ⟨T,H⟩:=λc=>by
 simp only [yg] at g;obtain ⟨e,f,h,i,l,m,n⟩:=g;have q:=arr0 m;have a:=Nat.eq_of_beq_eq_true n;subst q a;exact .zwf (α:={d:D // d.kOK kk=true}) (enc:=λx=>x.1) [] e f h i rfl (zym l) rfl (λx=>x.2) (by simp) (k c)
theorem wk.tmk {t j el kk b} {x y} {α} {enc} {m} {z} {d} {f:List α→Option R} (g:(o.guard,o.op,o.dst,Nat.blt j C.n,tE t,Nat.blt 0 b,ev T x,ev T y,tZd el)=(none,.makeSlice t x y,some j,true,some (el,kk,b),true,some (.d (.int m)),some (.d (.int m)),some d)) (k:∀ v,f v=some r→TriL Tryz.prog C ops rest Q ⟨(j,.vec H.length v.length)::T,H++[.vec el kk (v.map enc)]⟩) (hd:d=enc z):(mkl b m z).bind f=some r→TriL Tryz.prog C ops (o::rest) Q ⟨T,H⟩:=λh=>by
 simp only [yg] at g;obtain ⟨c,e,i,l,n,p,q,s,u⟩:=g;obtain ⟨v,w,a⟩:=zud h;exact .zvO c e i l (zym n) p q s (hd▸zoN u) w (k v a)
class HB (r:Nat) (js:outParam (List Nat)):Prop where mk ::
class HN (d:Nat) (js:outParam (List Nat)):Prop where mk ::
class HC (n:Nat) (j c k el:outParam Nat):Prop where mk ::
theorem wk.alN {t j} {d} {js} [HB j js] (g:(o.guard,o.op,o.dst,Nat.blt j C.n,tZd t)=(none,.alloc t,some j,true,some d)) (k:p→TriL Tryz.prog C ops rest Q ⟨(j,.loc H.length 0)::T,H++[.box t (V.zt1 (.d (nilAt js d)))]⟩) (g6:(nilAt js d).ones=true:=by exact rfl):p→TriL Tryz.prog C ops (o::rest) Q ⟨T,H⟩:=λb=>by
 simp only [yg] at g;obtain ⟨c,e,f,h,a⟩:=g;exact .zuh c e f h (zqK js a) g6 (k b)
theorem wk.tnc (n) {j c k el t:Nat} {cs} [HC n j c k el] (g:(H[j]?,cs[c]?)=(some (.box t cs),some (.d (.val (.slice none 0 0))))) (kk:p→TriL Tryz.prog C ops l Q ⟨T,(H++[Blk.vec el k []]).set j (.box t (cs.set c (.vec H.length 0)))⟩):p→TriL Tryz.prog C ops l Q ⟨T,H⟩:=λa=>by
 simp only [yg] at g;exact .zuw j c k el g.1 g.2 (kk a)
theorem wk.blN {t d:Nat} {parts} {v} {js} [HN d js] (g:(o.guard,o.op,o.dst,Nat.blt d C.n)=(none,.build t parts,some d,true)) (k:p→TriL Tryz.prog C ops rest Q ⟨(d,v)::T,H⟩) (g5:wBldN (ev T) js t parts=some v:=by exact rfl):p→TriL Tryz.prog C ops (o::rest) Q ⟨T,H⟩:=λf=>by
 simp only [yg] at g;obtain ⟨c,e,a,b⟩:=g;refine .op c (by rw [a];exact b) (zrs e g5) ?_;rw [a];exact k f
theorem wk.obl {e} {G} {t:Nat} {parts} {v} (g:(o.op,wBld e t parts)=(.build t parts,some v)) (k:p→G v):p→OpP o e H G:=λa=>by
 simp only [yg] at g;exact ⟨_,zqQ g.1 g.2,k a⟩
theorem znF:∀ {l} {x},x∈l→memN l x=true
 | [],_,h=>by grind
 | k::l,x,h=>by
  unfold memN;split
  ·rfl
  ·rcases yG.1 h with e | h
   ·simp_all
   ·exact znF h
def dedT:List Nat→List (Nat×V)→List (Nat×V)
 | us,(t,v)::T=>match memN us t with
  | true=>dedT us T
  | false=>(t,v)::dedT (t::us) T
 | _,[]=>[]
theorem zlz:∀ (T) (us) (t) (v),look t (dedT us T)=some v→look t T=some v∧t∉us
 | [],us,t,v,h=>by grind [dedT,look]
 | (u,x)::T,us,t,v,h=>by
  unfold dedT at h;split at h
  ·obtain ⟨b,a⟩:=zlz T us t v h
   grind [look,zhP]
  ·rw [look] at h ⊢;split at h
   ·rename_i e;subst e
    grind [znF]
   ·rename_i e;obtain ⟨b,a⟩:=zlz T (u::us) t v h;simp_all
theorem TriL.ded (k:TriL Tryz.prog C ops l Q ⟨dedT [] T,H⟩):TriL Tryz.prog C ops l Q ⟨T,H⟩:=⟨λc a w b=>k.run c a w (R.weaken b λt v h=>(zlz T [] t v h).1)⟩
def relT (i m:Nat):List (Nat×V)→List (Nat×V)
 | (t,.vec j n)::T=>(t,.vec j (match Nat.beq i j with
  | true=>m
  | false=>n))::relT i m T
 | q::T=>q::relT i m T
 | []=>[]
def zw3 (i m:Nat):List (Nat×V)→Prop
 | (_,.vec j n)::T=>(match Nat.beq i j with
  | true=>n=m
  | false=>True)∧zw3 i m T
 | _::T=>zw3 i m T
 | []=>True
theorem znN {i m}:∀ {T},zw3 i m T→relT i m T=T
 | [],_=>rfl
 | (t,v)::T,h=>by
  cases v <;> simp only [relT,zw3] at h ⊢
  case vec j n=>
   rw [znN h.2]
   grind
  all_goals rw [znN h]
def lens (i:Nat):List (Nat×V)→List Nat
 | (_,.vec j n)::T=>match Nat.beq i j with
  | true=>n::lens i T
  | false=>lens i T
 | _::T=>lens i T
 | []=>[]
theorem zlR {i m}:∀ {T},lens i T=(lens i T).map (λ_=>m)→zw3 i m T
 | [],_=>trivial
 | (t,v)::T,h=>by
  cases v <;> simp only [lens,zw3] at h ⊢
  case vec j n=>
   cases a:Nat.beq i j with
   | true=>
    rw [a] at h;simp only [yY,List.cons.injEq] at h;exact ⟨h.1,zlR h.2⟩
   | false=>rw [a] at h;exact ⟨trivial,zlR h⟩
  all_goals exact zlR h
theorem zq6 {i m m'} (e:m=m') {T} (h:zw3 i m T):zw3 i m' T:=e▸h
theorem wk.tst {t i n kk el:Nat} {q z} {α} {enc} {xs} {a} {y} {f:List α→Option R} {T1} (g:(o.guard,o.op,o.dst,ev T q,H[i]?,ev T z,tC t)=(none,.store t q z,none,some (.el i n a.toNat 0),some (.vec el kk (xs.map enc)),some (.d (enc y)),some kk)) (hk:(enc y).kOK kk=true) (h1:(enc y).ones=true) (hT:dedT [] T=T1) (k:∀ v,f v=some r→TriL Tryz.prog C ops rest Q ⟨relT i v.length T1,H.set i (.vec el kk (v.map enc))⟩) (hn:n=xs.length:=by exact rfl) (he:lens i T1=(lens i T1).map (λ_=>xs.length):=by exact rfl):(sto xs a y).bind f=some r→TriL Tryz.prog C ops (o::rest) Q ⟨T,H⟩:=λh=>by
 simp only [yg] at g;obtain ⟨e,u,j,l,m,p,s⟩:=g;obtain ⟨v,c,b⟩:=zud h;have:=k v b;rw [znN (zq6 (za7 c) (zlR he)),← hT] at this;refine .zux e u j l m hn p hk h1 (zne s) c (.ded this)
theorem wk.so {q z} {t i off n} {bt} {cs} {e} (g:(o.guard,o.op,o.dst,ev T q,nthD H i,ev T z,e.ones,tC t,(V.zt1 (.d e)).length,Nat.ble (off+n) cs.length)=(none,.store t q z,none,some (.loc i off),some (.box bt cs),some (.d e),true,some n,n,true))
  (k:p→TriL Tryz.prog C ops rest Q ⟨T,H.set i (.box bt (cs.take off++V.zt1 (.d e)++cs.drop (off+n)))⟩):p→TriL Tryz.prog C ops (o::rest) Q ⟨T,H⟩:=λa=>.so g (k a)
theorem wk.aq (k:p→TriL Tryz.prog C ops l Q ⟨T,H⟩):p→TriL Tryz.prog C ops l Q (zkQ Tryz.prog H [] T):=λa=>by
 grind [zkQ,zvm,zvj,zg3]
theorem wk.aS {o1 o2:Oper} {z} {t j} {q} {e} (g:(o1.guard,o2.guard,o1.op,o1.dst,o2.op,o2.dst,Nat.blt j C.n,ev T q,neT q j,tZ t,zfH e z,e.ones)=(none,none,.alloc t,some j,.store t (.tmp j) q,none,true,some (.d e),true,some z,true,true))
  (k:p→TriL Tryz.prog C ops rest Q ⟨(j,.d (.ref e))::T,H⟩):p→TriL Tryz.prog C ops (o1::o2::rest) Q ⟨T,H⟩:=λa=>.aS g (k a)
theorem wk.alo {t j} {d} (g:(o.guard,o.op,o.dst,Nat.blt j C.n,tZd t,d.ones)=(none,.alloc t,some j,true,some d,true)) (k:p→TriL Tryz.prog C ops rest Q ⟨(j,.loc H.length 0)::T,H++[.box t (V.zt1 (.d d))]⟩):p→TriL Tryz.prog C ops (o::rest) Q ⟨T,H⟩:=λb=>by
 simp only [yg] at g;obtain ⟨c,e,f,h,i,a⟩:=g;exact .zuh c e f h (zoN i) a (k b)
theorem wk.app {α} {q z} {t el i n kk b j} {enc} {xs ys} {f:List α→Option R} (g:(o.guard,o.op,o.dst,Nat.blt j C.n,ev T q,H[i]?,ev T z,tE t,Nat.blt 0 b)=(none,.call { callee:=.builtin .append,args:=#[q,z],argTypes:=#[t,t] },some j,true,some (.vec i n),some (.vec el kk (xs.map enc)),some (.d (.sl kk (ys.map enc))),some (el,kk,b),true))
  (k:∀ zs,f zs=some r→TriL Tryz.prog C ops rest Q ⟨(j,.vec i zs.length)::T,H.set i (.vec el kk (zs.map enc))⟩) (hn:n=xs.length:=by exact rfl) (ho:∀ z,(enc z).ones=true:=by exact λ_=>rfl):(Go.Proofs.YtipkniadbkndfaaGreatDoor.app b xs ys).bind f=some r→TriL Tryz.prog C ops (o::rest) Q ⟨T,H⟩:=λh=>by
 simp only [yg] at g;obtain ⟨c,e,l,m,p,s,u,w,x⟩:=g;obtain ⟨v,y,a⟩:=zud h;exact .app c e l m p s hn u (zym w) x ho y (k v a)
theorem wk.QW (h:zqx N H ops l T=some (rest,T')) (k:p→TriQ Tryz.prog N ops H rest al T' K):p→TriQ Tryz.prog N ops H l al T K:=λa=>zqy (k a) h
theorem wk.Qn (k:p→K al T):p→TriQ Tryz.prog N ops H [] al T K:=λa=>.nil (k a)
theorem wk.Qal {t d} {z} (g:(o.guard,o.op,o.dst,Nat.blt d N,tZd t)=(none,.alloc t,some d,true,some z)) (k:p→TriQ Tryz.prog N ops H rest (al++[(d,t,none)]) ((d,.junk)::T) K):p→TriQ Tryz.prog N ops H (o::rest) al T K:=λb=>by
 simp only [yg] at g;obtain ⟨c,e,a,f,h⟩:=g;obtain ⟨v,i,_⟩:=(zoN h).out;exact .alloc c e a f (by simp_all) (k b)
theorem wk.Qst {t d:Nat} {q} {e} {z} (g:(o.guard,o.op,o.dst,ev T q,e.ones,tZ t,zfH e z)=(none,.store t (.tmp d) q,none,some (.d e),true,some z,true)) (k:p→TriQ Tryz.prog N ops H rest (al++[(d,t,some e)]) T K):p→TriQ Tryz.prog N ops H (o::rest) al T K:=λb=>by
 simp only [yg] at g;obtain ⟨c,f,h,i,j,l,a⟩:=g;exact .store c f h i j (zfl a) (tZ_ok l) (k b)
def zoy (g:Nat):List Oper→Nat→Option Nat
 | o::l,n=>match o.op with
  | .pick (.tmp t) _ _=>match Nat.beq t g with
   | true=>some n
   | false=>zoy g l (n+1)
  | _=>zoy g l (n+1)
 | [],_=>none
def zrE (ops:Array Oper):List Oper→Option Nat
 | o::_=>match o.guard with
  | some (j,_)=>(ops[j]?).bind (·.dst)
  | none=>none
 | []=>none
def runsB (ops:Array Oper) (T:List (Nat×V)) (ds:List Nat):Option (Nat×Bool)→Bool
 | none=>true
 | some (j,w)=>match (ops[j]?).bind (·.dst) with
  | some g=>match memN ds g with
   | true=>false
   | false=>match look g T with
    | some (.d (.val (.bool b)))=>zxp b w
    | _=>false
  | none=>false
theorem zoG {ds} {q} (h:runsB ops T ds q.guard=true):Runs ops q T∧∀ j w g',q.guard=some (j,w)→(ops[j]?).bind (·.dst)=some g'→g'∉ds:=by
 cases a:q.guard with
 | none=>exact ⟨.inl a,λj w g' e=>by cases e⟩
 | some p=>
  rw [a] at h;simp only [runsB] at h;split at h
  ·rename_i g c;split at h
   ·cases h
   ·split at h
    ·have e:=zjw h;subst e;refine ⟨.inr ⟨_,_,_,a,c,‹look _ _=_›⟩,λd f g' e i b=>?_⟩
     grind [znF]
    grind
  grind
def Und (q g:Prop):Prop:=q→g
theorem wk.und {q g} (k:p→q→g):p→Und q g:=k
theorem wk.no {g:Prop}:(none:Option R)=some r→g:=λh=>(by cases h)
theorem wk.jA {g m d} {q} {z:Nat} {bo b2} (h:((zrE ops l).bind λg=>(zoy g l 0).bind λm=>cutN m l λa b=>some (g,m,a,b))=some (g,m,l1,q::l2)) (h':(q.op,look g T,zeT ops N g true l1 [],runsB ops T (dsts l1) q.guard,q.dst,Nat.blt d N)=(.pick (.tmp g) (.tmp z) (.const (.bool false)),some (.d (.bool bo)),true,true,some d,true))
  (h1:p→Und (bo=true) (TriQ Tryz.prog N ops H l1 al ((g,.d (.bool true))::T) (λ_ T'=>look z T'=some (.d (.bool b2))))) (h2:p→TriQ Tryz.prog N ops H l2 al ((d,.d (.bool (bo&&b2)))::zwc (dsts l1) T) K):p→TriQ Tryz.prog N ops H l al T K:=λc=>by
 simp only [yg] at h';obtain ⟨i,j,k,n,o,r⟩:=h';rw [Option.bind_eq_some_iff] at h;obtain ⟨u,_,h⟩:=h;rw [Option.bind_eq_some_iff] at h;obtain ⟨s,_,h⟩:=h;rw [zil] at h;simp only [yn,yg] at h;obtain ⟨rfl,rfl,rfl,e⟩:=h;obtain ⟨t,f⟩:=zoG n;exact .jAnd s e i j k t f o r (h1 c) (h2 c)
theorem wk.jO {g m d} {q} {z:Nat} {bo b2} (h:((zrE ops l).bind λg=>(zoy g l 0).bind λm=>cutN m l λa b=>some (g,m,a,b))=some (g,m,l1,q::l2)) (h':(q.op,look g T,zeT ops N g false l1 [],runsB ops T (dsts l1) q.guard,q.dst,Nat.blt d N)=(.pick (.tmp g) (.const (.bool true)) (.tmp z),some (.d (.bool bo)),true,true,some d,true))
  (h1:p→Und (bo=false) (TriQ Tryz.prog N ops H l1 al ((g,.d (.bool false))::T) (λ_ T'=>look z T'=some (.d (.bool b2))))) (h2:p→TriQ Tryz.prog N ops H l2 al ((d,.d (.bool (bo||b2)))::zwc (dsts l1) T) K):p→TriQ Tryz.prog N ops H l al T K:=λc=>by
 simp only [yg] at h';obtain ⟨i,j,k,n,o,r⟩:=h';rw [Option.bind_eq_some_iff] at h;obtain ⟨u,_,h⟩:=h;rw [Option.bind_eq_some_iff] at h;obtain ⟨s,_,h⟩:=h;rw [zil] at h;simp only [yn,yg] at h;obtain ⟨rfl,rfl,rfl,e⟩:=h;obtain ⟨t,f⟩:=zoG n;exact .jOr s e i j k t f o r (h1 c) (h2 c)
theorem wk.fin {z} {b} (h:look z T=some (.d (.bool b))):p→look z T=some (.d (.bool b)):=λ_=>h
theorem wk.rO {P} {t:Tmp} {e} {enc:R→D} (hl:look t s.T=some (.d (enc e))):some e=some r→retQ P #[.tmp t] (enc r) .ret s:=λh=>Go.Proofs.YtipkniadbkndfaaGreatDoor.rO h hl
theorem wk.sc {A B} (h:A) (k:p→B):p→A∧B:=λa=>⟨h,k a⟩
theorem wk.rC {ty:TypeId} {t i T0:Nat} {cs} {ds} (g:(look t s.T,s.H[i]?,tS ty)=(some (.loc i 0),some (.box T0 cs),some (some ds.length))) (hf:Frzs s.H cs ds):retQ Tryz.prog #[.cell t ty] (.agg ds) .ret s:=by
 simp only [yg] at g;exact zqq g.1 g.2.1 (Tab.sh _ _ g.2.2) hf
theorem wk.rCT {ty:TypeId} {t i u T0:Nat} {cs} {ds} {y} {v} (g:(look t s.T,s.H[i]?,tS ty,look u s.T)=(some (.loc i 0),some (.box T0 cs),some (some ds.length),some v)) (hf:Frzs s.H cs ds) (f2:Frz s.H v y):retQ Tryz.prog #[.cell t ty,.tmp u] (.tup [.agg ds,y]) .ret s:=by
 simp only [yg] at g;exact zeo g.1 g.2.1 (Tab.sh _ _ g.2.2.1) hf g.2.2.2 f2
end
end
section
set_option maxRecDepth 100000
variable [Drw]
abbrev slE {α:Type} (k:Nat) (f:α→D) (l:List α):D:=.sl k (l.map f)
class Kd0 {γ:outParam Type} (i:FuncId) (f:outParam (Nat→Option γ)) (e:outParam (γ→D)):Prop where
 ok:∀ n r,f n=some r→Pure Tryz.prog i [] (e r)
class Kd1 {α γ:outParam Type} (i:FuncId) (f:outParam (Nat→α→Option γ)) (a:outParam (α→D)) (e:outParam (γ→D)):Prop where
 ok:∀ n t0 r,f n t0=some r→Pure Tryz.prog i [a t0] (e r)
class Kd2 {α β γ:outParam Type} (i:FuncId) (f:outParam (Nat→α→β→Option γ)) (a:outParam (α→D)) (b:outParam (β→D)) (e:outParam (γ→D)):Prop where
 ok:∀ n t0 t1 r,f n t0 t1=some r→Pure Tryz.prog i [a t0,b t1] (e r)
class Kd3 {α β δ γ:outParam Type} (i:FuncId) (f:outParam (Nat→α→β→δ→Option γ)) (a:outParam (α→D)) (b:outParam (β→D)) (c:outParam (δ→D)) (e:outParam (γ→D)):Prop where
 ok:∀ n t0 t1 t2 r,f n t0 t1 t2=some r→Pure Tryz.prog i [a t0,b t1,c t2] (e r)
class Kd4 {α β δ ε γ:outParam Type} (i:FuncId) (f:outParam (Nat→α→β→δ→ε→Option γ)) (a:outParam (α→D)) (b:outParam (β→D)) (c:outParam (δ→D)) (d:outParam (ε→D)) (e:outParam (γ→D)):Prop where
 ok:∀ n t0 t1 t2 t3 r,f n t0 t1 t2 t3=some r→Pure Tryz.prog i [a t0,b t1,c t2,d t3] (e r)
class Kd5 {α β δ ε ζ γ:outParam Type} (i:FuncId) (f:outParam (Nat→α→β→δ→ε→ζ→Option γ)) (a:outParam (α→D)) (b:outParam (β→D)) (c:outParam (δ→D)) (d:outParam (ε→D)) (q:outParam (ζ→D)) (e:outParam (γ→D)):Prop where
 ok:∀ n t0 t1 t2 t3 t4 r,f n t0 t1 t2 t3 t4=some r→Pure Tryz.prog i [a t0,b t1,c t2,d t3,q t4] (e r)
abbrev Fn1 {α γ:Type} (a:α→D) (e:γ→D) (f:α→Option γ) (F:D):Prop:=∀ q y,f q=some y→Dyn Tryz.prog F [a q] (e y)
class Kf2 {α β δ γ:outParam Type} (i:FuncId) (f:outParam (Nat→α→(β→Option δ)→Option γ)) (a:outParam (α→D)) (b:outParam (β→D)) (d:outParam (δ→D)) (e:outParam (γ→D)):Prop where
 ok:∀ n t0 t1 F,Fn1 b d t1 F→∀ r,f n t0 t1=some r→Pure Tryz.prog i [a t0,F] (e r)
instance cf1 {γ} {i} {f} {e:γ→D}:CoeFun (Kd0 i f e) λ_=>∀ n r,f n=some r→Pure Tryz.prog i [] (e r):=⟨λk=>k.ok⟩
instance cf2 {α γ} {i} {f} {a:α→D} {e:γ→D}:CoeFun (Kd1 i f a e) λ_=>∀ n t0 r,f n t0=some r→Pure Tryz.prog i [a t0] (e r):=⟨λk=>k.ok⟩
instance cf3 {α β γ} {i} {f} {a:α→D} {b:β→D} {e:γ→D}:CoeFun (Kd2 i f a b e) λ_=>∀ n t0 t1 r,f n t0 t1=some r→Pure Tryz.prog i [a t0,b t1] (e r):=⟨λk=>k.ok⟩
instance cf4 {α β δ γ} {i} {f} {a:α→D} {b:β→D} {c:δ→D} {e:γ→D}:CoeFun (Kd3 i f a b c e) λ_=>∀ n t0 t1 t2 r,f n t0 t1 t2=some r→Pure Tryz.prog i [a t0,b t1,c t2] (e r):=⟨λk=>k.ok⟩
instance cf5 {α β δ ε γ} {i} {f} {a:α→D} {b:β→D} {c:δ→D} {d:ε→D} {e:γ→D}:CoeFun (Kd4 i f a b c d e) λ_=>∀ n t0 t1 t2 t3 r,f n t0 t1 t2 t3=some r→Pure Tryz.prog i [a t0,b t1,c t2,d t3] (e r):=⟨λk=>k.ok⟩
instance cf6 {α β δ ε ζ γ} {i} {f} {a:α→D} {b:β→D} {c:δ→D} {d:ε→D} {q:ζ→D} {e:γ→D}:CoeFun (Kd5 i f a b c d q e) λ_=>∀ n t0 t1 t2 t3 t4 r,f n t0 t1 t2 t3 t4=some r→Pure Tryz.prog i [a t0,b t1,c t2,d t3,q t4] (e r):=⟨λk=>k.ok⟩
instance cf7 {α β δ γ} {i} {f} {a:α→D} {b:β→D} {d:δ→D} {e:γ→D}:CoeFun (Kf2 i f a b d e) λ_=>∀ n t0 t1 F,Fn1 b d t1 F→∀ r,f n t0 t1=some r→Pure Tryz.prog i [a t0,F] (e r):=⟨λk=>k.ok⟩
section
variable {α β δ ε γ R:Type} {i:FuncId} {n:Nat} {xs:List D} {r:R} {K:D→Prop} {G:Prop}
theorem Kd0.c {f} {e} [k:Kd0 i f e] {kk:γ→Option R} (hx:xs=[]) (c:∀ v,kk v=some r→K (e v)):(f n).bind kk=some r→zui i xs K:=λh=>by
 obtain ⟨v,b,a⟩:=zud h;exact ⟨_,hx▸k.ok _ _ b,c v a⟩
theorem Kd1.c {f} {a e} [k:Kd1 i f a e] {x:α} {kk:γ→Option R} (hx:xs=[a x]) (c:∀ v,kk v=some r→K (e v)):(f n x).bind kk=some r→zui i xs K:=λh=>by
 obtain ⟨v,d,b⟩:=zud h;exact ⟨_,hx▸k.ok _ _ _ d,c v b⟩
theorem Kd2.c {f} {a b e} [k:Kd2 i f a b e] {x:α} {y:β} {kk:γ→Option R} (hx:xs=[a x,b y]) (c:∀ v,kk v=some r→K (e v)):(f n x y).bind kk=some r→zui i xs K:=λh=>by
 obtain ⟨v,g,d⟩:=zud h;exact ⟨_,hx▸k.ok _ _ _ _ g,c v d⟩
theorem Kd3.c {f} {a b c e} [k:Kd3 i f a b c e] {x:α} {y:β} {z:δ} {kk:γ→Option R} (hx:xs=[a x,b y,c z]) (g:∀ v,kk v=some r→K (e v)):(f n x y z).bind kk=some r→zui i xs K:=λh=>by
 obtain ⟨v,j,d⟩:=zud h;exact ⟨_,hx▸k.ok _ _ _ _ _ j,g v d⟩
theorem Kd4.c {f} {a b c d e} [k:Kd4 i f a b c d e] {x:α} {y:β} {z:δ} {u:ε} {kk:γ→Option R} (hx:xs=[a x,b y,c z,d u]) (g:∀ v,kk v=some r→K (e v)):(f n x y z u).bind kk=some r→zui i xs K:=λh=>by
 obtain ⟨v,l,j⟩:=zud h;exact ⟨_,hx▸k.ok _ _ _ _ _ _ l,g v j⟩
theorem Kf2.c {f} {a b d e} [k:Kf2 i f a b d e] {x:α} {y:β→Option δ} {F} {kk:γ→Option R} (hx:xs=[a x,F]) (hf:Fn1 b d y F) (c:∀ v,kk v=some r→K (e v)):(f n x y).bind kk=some r→zui i xs K:=λh=>by
 obtain ⟨v,j,g⟩:=zud h;exact ⟨_,hx▸k.ok _ _ _ _ hf _ j,c v g⟩
variable [Inhabited γ]
theorem Kd1.g {f:Nat→α→Option γ} {a e} [k:Kd1 i f a e] {x} (hv:G→(f n x).isSome=true) (hx:xs=[a x]) (c:G→K (e ((f n x).getD default))):G→zui i xs K:=λh=>⟨_,hx▸k.ok _ _ _ (zup (hv h)),c h⟩
theorem Kd2.g {f:Nat→α→β→Option γ} {a b e} [k:Kd2 i f a b e] {x} {y} (hv:G→(f n x y).isSome=true) (hx:xs=[a x,b y]) (c:G→K (e ((f n x y).getD default))):G→zui i xs K:=λh=>⟨_,hx▸k.ok _ _ _ _ (zup (hv h)),c h⟩
theorem Kd3.g {f:Nat→α→β→δ→Option γ} {a b c e} [k:Kd3 i f a b c e] {x} {y} {z} (hv:G→(f n x y z).isSome=true) (hx:xs=[a x,b y,c z]) (g:G→K (e ((f n x y z).getD default))):G→zui i xs K:=λh=>⟨_,hx▸k.ok _ _ _ _ _ (zup (hv h)),g h⟩
theorem Kd4.g {f:Nat→α→β→δ→ε→Option γ} {a b c d e} [k:Kd4 i f a b c d e] {x} {y} {z} {u} (hv:G→(f n x y z u).isSome=true) (hx:xs=[a x,b y,c z,d u]) (g:G→K (e ((f n x y z u).getD default))):G→zui i xs K:=λh=>⟨_,hx▸k.ok _ _ _ _ _ _ (zup (hv h)),g h⟩
theorem Kd1.gx {f:Nat→α→Option γ} {a e} [k:Kd1 i f a e] {x} (hx:xs=[a x]) (hv:G→(f n x).isSome=true) (c:G→K (e ((f n x).getD default))):G→zui i xs K:=Kd1.g hv hx c
theorem Kd2.gx {f:Nat→α→β→Option γ} {a b e} [k:Kd2 i f a b e] {x} {y} (hx:xs=[a x,b y]) (hv:G→(f n x y).isSome=true) (c:G→K (e ((f n x y).getD default))):G→zui i xs K:=Kd2.g hv hx c
theorem Kd3.gx {f:Nat→α→β→δ→Option γ} {a b c e} [k:Kd3 i f a b c e] {x} {y} {z} (hx:xs=[a x,b y,c z]) (hv:G→(f n x y z).isSome=true) (g:G→K (e ((f n x y z).getD default))):G→zui i xs K:=Kd3.g hv hx g
theorem Kf2.g {f:Nat→α→(β→Option δ)→Option γ} {a b d e} [k:Kf2 i f a b d e] {x} {y} {F} (hv:G→(f n x y).isSome=true) (hx:xs=[a x,F]) (hf:Fn1 b d y F) (c:G→K (e ((f n x y).getD default))):G→zui i xs K:=λh=>⟨_,hx▸k.ok _ _ _ _ hf _ (zup (hv h)),c h⟩
end
section
variable {α β δ ε γ R:Type} {i:FuncId} {n:Nat} {xs:List D} {r:R} {K:D→Prop} {G:Prop} {cs:List D} {j:FuncId}
theorem fn1 {a} {e} {f:α→Option γ} (hc:memN tCl j=true) (h:∀ q y,f q=some y→zui j (a q::cs) λd=>d=e y):Fn1 a e f (.fn (.func j) [] cs):=λq y c=>by
 obtain ⟨d,g,b⟩:=(h q y c).out;subst b;exact ⟨_,_,rfl,zt3 hc,g⟩
theorem Kd5.d {ζ} {f} {a b c d q e} [k:Kd5 i f a b c d q e] {x:α} {y:β} {z:δ} {u:ε} {w:ζ} {v:γ} (hx:xs=[a x,b y,c z,d u,q w]):f n x y z u w=some v→zui i xs λd=>d=e v:=λh=>⟨_,hx▸k.ok _ _ _ _ _ _ _ h,rfl⟩
theorem Kd1.d {f} {a e} [k:Kd1 i f a e] {x:α} {v:γ} (hx:xs=[a x]):f n x=some v→zui i xs λd=>d=e v:=λh=>⟨_,hx▸k.ok _ _ _ h,rfl⟩
theorem Kd2.d {f} {a b e} [k:Kd2 i f a b e] {x:α} {y:β} {v:γ} (hx:xs=[a x,b y]):f n x y=some v→zui i xs λd=>d=e v:=λh=>⟨_,hx▸k.ok _ _ _ _ h,rfl⟩
theorem Kd3.d {f} {a b c e} [k:Kd3 i f a b c e] {x:α} {y:β} {z:δ} {v:γ} (hx:xs=[a x,b y,c z]):f n x y z=some v→zui i xs λd=>d=e v:=λh=>⟨_,hx▸k.ok _ _ _ _ _ h,rfl⟩
end
def hid:Code→Option Nat
 | .region i _ _=>some i
 | .seq x y=>match hid x with
  | some i=>some i
  | none=>hid y
 | .cond _ x y=>match hid x with
  | some i=>some i
  | none=>hid y
 | .block _ c=>hid c
 | .loop c=>hid c
 | _=>none
class HL (i:Nat) {σ:outParam Type} (ks:outParam (List Nat)) (u:outParam (σ→List (Nat×V))) (f:outParam (List Blk→σ→List (Nat×Blk))):Prop where mk ::
class HJ (i:Nat) {σ:outParam Type} (ks:outParam (List Nat)) (u:outParam (σ→List (Nat×V))) (f:outParam (List Blk→σ→List (Nat×Blk))):Prop where mk ::
class HK (i:Nat) (ks:outParam (List Nat)):Prop where mk ::
def setL:List V→List (Nat×V)→List V
 | cs,[]=>cs
 | cs,(i,v)::l=>setL (cs.set i v) l
def bx (i:Nat) (l:List (Nat×V)) (H:List Blk):Nat×Blk:=(i,match nthD H i with
 | some (.box t cs)=>.box t (setL cs l)
 | _=>.dead)
def appK {β:Type}:List (Nat×V)→List (Nat×V)→(List (Nat×V)→β)→β
 | [],K,k=>k K
 | q::l,K,k=>appK l K λm=>k (q::m)
theorem znq {β}:∀ (l K) (k:List (Nat×V)→β),appK l K k=k (l++K)
 | [],K,k=>rfl
 | q::l,K,k=>by rw [appK,znq l];rfl
section
variable {p:Prop} {C:Ctx} {Q:Exit→St→Prop} {s:St} {x y c:Code} {R:Type} {r:R} {i:Nat} {ks:List Nat} {K:List (Nat×V)} {σ:Type}
theorem wk.L {body} {n} {init} {u} {f} {T:σ→List (Nat×V)} {J:σ→List Blk} {X} (hi:hid c=some i) [HL i ks u f] (g1:zwy ks s.T []=some K) (g2:(λv=>nfH (over s.H (f s.H v)) some)=λv=>some (J v)) (g3:(λv=>appK (u v) K some)=λv=>some (T v))
  (g:(s.H,(J init).all (Blk.under (J init).length),(T init).all λp=>p.2.under (J init).length,lks (T init) s.T,Nat.ble C.gn s.H.length)=(J init++X,true,true,vls (T init),true))
  (hb:∀ (rec) (v),body rec v=some r→Tri Tryz.prog C c (zwb rec r (λv=>⟨T v,J v⟩) Q) ⟨T v,J v⟩):ztz body n init=some r→Tri Tryz.prog C (.loop c) Q s:=λh=>by
 have b:∀ v,J v=over s.H (f s.H v):=λv=>by
  have:=congrFun g2 v
  grind [zov]
 have d:∀ v,T v=u v++K:=λv=>by
  have:=congrFun g3 v
  grind [znq]
 have e :=funext b;have j :=funext d;subst e j;simp only [yg] at g;obtain ⟨k,l,m,o,a⟩:=g;exact Tri.L ks h u (f s.H) (by simp only [yg];exact ⟨g1,k,l,m,o,a⟩) hb
theorem wk.J {k} {m} {u} {f} {T:σ→List (Nat×V)} {J:σ→List Blk} (hi:hid y=some i) [HJ i ks u f] (g1:zwy ks s.T []=some K) (g2:(λv=>nfH (over s.H (f s.H v)) some)=λv=>some (J v)) (g3:(λv=>appK (u v) K some)=λv=>some (T v)) (g:Nat.ble C.gn s.H.length=true)
  (hm:∀ k' ,m k'=some r→Tri Tryz.prog C x (zwb k' r (λv=>⟨T v,J v⟩) Q) s) (hk:∀ v,k v=some r→Tri Tryz.prog C y Q ⟨T v,J v⟩):jn k m=some r→Tri Tryz.prog C (.seq x y) Q s:=λh=>by
 have b:∀ v,J v=over s.H (f s.H v):=λv=>by
  have:=congrFun g2 v
  grind [zov]
 have c:∀ v,T v=u v++K:=λv=>by
  have:=congrFun g3 v
  grind [znq]
 have d :=funext b;have a :=funext c;subst d a;exact Tri.J ks h u (f s.H) (by simp_all) hm hk
end
section
variable {α β δ ε γ R:Type} {r:R} {xs:List D} {K:D→Prop} {G:Prop} {i:FuncId}
theorem Fn1.c {a} {e} {f} {F} {x:α} {kk:γ→Option R} (hF:Fn1 a e f F) (hx:xs=[a x]) (c:∀ v,kk v=some r→K (e v)):(f x).bind kk=some r→DynP F xs K:=λh=>by
 obtain ⟨v,d,b⟩:=zud h;exact ⟨_,hx▸hF _ _ d,c v b⟩
theorem Fn1.g [Inhabited γ] {a} {e} {f:α→Option γ} {F} {x} (hF:Fn1 a e f F) (hv:G→(f x).isSome=true) (hx:xs=[a x]) (c:G→K (e ((f x).getD default))):G→DynP F xs K:=λh=>⟨_,hx▸hF _ _ (zup (hv h)),c h⟩
class Ks1 {α γ:outParam Type} (i:FuncId) (f:outParam (α→Option γ)) (a:outParam (α→D)) (e:outParam (γ→D)):Prop where
 ok:∀ t0 r,f t0=some r→Pure Tryz.prog i [a t0] (e r)
class Ks2 {α β γ:outParam Type} (i:FuncId) (f:outParam (α→β→Option γ)) (a:outParam (α→D)) (b:outParam (β→D)) (e:outParam (γ→D)):Prop where
 ok:∀ t0 t1 r,f t0 t1=some r→Pure Tryz.prog i [a t0,b t1] (e r)
class Ks4 {α β δ ε γ:outParam Type} (i:FuncId) (f:outParam (α→β→δ→ε→Option γ)) (a:outParam (α→D)) (b:outParam (β→D)) (c:outParam (δ→D)) (d:outParam (ε→D)) (e:outParam (γ→D)):Prop where
 ok:∀ t0 t1 t2 t3 r,f t0 t1 t2 t3=some r→Pure Tryz.prog i [a t0,b t1,c t2,d t3] (e r)
theorem Ks2.c {f} {a b e} [k:Ks2 i f a b e] {x:α} {y:β} {kk:γ→Option R} (hx:xs=[a x,b y]) (c:∀ v,kk v=some r→K (e v)):(f x y).bind kk=some r→zui i xs K:=λh=>by
 obtain ⟨v,g,d⟩:=zud h;exact ⟨_,hx▸k.ok _ _ _ g,c v d⟩
end
section
variable {α β δ ε ζ γ:Type} {i:FuncId} {n:Nat} {xs:List D} {K:D→Prop} {G:Prop}
theorem Kd1.p {f} {a e} {r0:γ} [k:Kd1 i f a e] {x:α} (hx:xs=[a x]) (hv:f n x=some r0) (c:G→K (e r0)):G→zui i xs K:=λh=>⟨_,hx▸k.ok _ _ _ hv,c h⟩
theorem Kd2.p {f} {a b e} {r0:γ} [k:Kd2 i f a b e] {x:α} {y:β} (hx:xs=[a x,b y]) (hv:f n x y=some r0) (c:G→K (e r0)):G→zui i xs K:=λh=>⟨_,hx▸k.ok _ _ _ _ hv,c h⟩
theorem Kf2.cf {R:Type} {r} {f} {a b d e} [k:Kf2 i f a b d e] {x:α} {y:β→Option δ} {j} {cs} {kk:γ→Option R} (hx:xs=[a x,.fn (.func j) [] cs]) (hc:memN tCl j=true) (hf:∀ q v,y q=some v→zui j (b q::cs) λw=>w=d v) (c:∀ v,kk v=some r→K (e v)):(f n x y).bind kk=some r→zui i xs K:=Kf2.c hx (fn1 hc hf) c
theorem Kf2.gf [Inhabited γ] {f:Nat→α→(β→Option δ)→Option γ} {a b d e} [k:Kf2 i f a b d e] {x} {y} {j} {cs} (hx:xs=[a x,.fn (.func j) [] cs]) (hc:memN tCl j=true) (hv:G→(f n x y).isSome=true) (hf:∀ q v,y q=some v→zui j (b q::cs) λw=>w=d v) (c:G→K (e ((f n x y).getD default))):G→zui i xs K:=Kf2.g hv hx (fn1 hc hf) c
theorem dynF {j:FuncId} {cs} (hc:memN tCl j=true) (h:G→zui j (xs++cs) K):G→DynP (.fn (.func j) [] cs) xs K:=λb=>by
 obtain ⟨y,c,a⟩:=(h b).out;exact ⟨y,⟨_,_,rfl,zt3 hc,c⟩,a⟩
end
theorem isS {p:Prop} {c} (h:p→c=true:=by
 first
 | exact λb=>impT (by assumption) b
 | exact λb=>impF (by assumption) b
 | exact λb=>impT (impT (by assumption) (by assumption)) b
 | exact λb=>impT (impF (by assumption) (by assumption)) b
 | exact λb=>impF (impT (by assumption) (by assumption)) b
 | exact λb=>impF (impF (by assumption) (by assumption)) b
 | exact λb=>impT (impT (impT (by assumption) (by assumption)) (by assumption)) b
 | exact λb=>impT (impT (impF (by assumption) (by assumption)) (by assumption)) b
 | exact λb=>impT (impF (impT (by assumption) (by assumption)) (by assumption)) b
 | exact λb=>impT (impF (impF (by assumption) (by assumption)) (by assumption)) b
 | exact λb=>impF (impT (impT (by assumption) (by assumption)) (by assumption)) b
 | exact λb=>impF (impT (impF (by assumption) (by assumption)) (by assumption)) b
 | exact λb=>impF (impF (impT (by assumption) (by assumption)) (by assumption)) b
 | exact λb=>impF (impF (impF (by assumption) (by assumption)) (by assumption)) b):p→c=true:=h
theorem all1 {γ:Type} {P:γ→Prop} (h:∀ v,P v):∀ v,P v:=h
end
section
set_option maxRecDepth 100000
variable [Drw]
section
variable {p:Prop} {o:Oper} {e:Operand→Option V} {H:List Blk} {G:V→Prop} {q i z:Operand} {t u kk:Nat} {R:Type} {r:R}
def intOp (op:BinOp) (k:IntKind) (a b:Int):Option Int:=match op with
 | .add=>some (k.wrap (a+b))
 | .sub=>some (k.wrap (a - b))
 | .mul=>some (k.wrap (a*b))
 | .and=>some (band k a b)
 | .or=>some (bor k a b)
 | _=>none
theorem wk.oin {op} {k} {a b c} (g:(o.op,e q,e z,intOp op k a b)=(.binOp op t q z u,some (.d (.val (.int k a))),some (.d (.val (.int k b))),some c)) (hk:p→G (.d (.val (.int k c)))):p→OpP o e H G:=λl=>by
 simp only [yg] at g;obtain ⟨f,h,i,j⟩:=g;refine ⟨_,?_,hk l⟩;unfold intOp at j;split at j <;> cases j
 ·exact .add f h i
 ·exact .sub f h i
 ·exact .mul f h i
 ·exact .band f h i
 ·exact .bor f h i
theorem wk.osh {k j} {a b} {f} (g:(o.op,e q,e z)=(.binOp .shr t q z u,some (.d (.val (.int k a))),some (.d (.val (.int j b))))) (hk:∀ v,f v=some r→G (.d (.val (.int k v)))):(shrO k a b).bind f=some r→OpP o e H G:=λh=>by
 simp only [yg] at g;obtain ⟨v,i,c⟩:=zud h;exact ⟨_,.shr g.1 g.2.1 g.2.2 i,hk v c⟩
theorem wk.oqug {a b} (g:(o.op,e q,e z)=(.binOp .quo t q z u,some (.d (.int a)),some (.d (.int b)))) (hv:p→(zuU a b).isSome=true) (k:p→G (.d (.int ((zuU a b).getD default)))):p→OpP o e H G:=λc=>by
 simp only [yg] at g;exact ⟨_,.quo6 g.1 g.2.1 g.2.2 (zup (hv c)),k c⟩
class UI (t:TypeId) (k:outParam IntKind):Prop where
 ok:Tryz.prog.underlying t=some (.int k)
theorem wk.om3 {k} {a b c} {tys} (g:(o.op,e q,e i,e z)=(.call { callee:=.builtin .max,args:=#[q,i,z],argTypes:=tys },some (.d (.val (.int k a))),some (.d (.val (.int k b))),some (.d (.val (.int k c))))) (hk:p→G (.d (.val (.int k (gmax (gmax a b) c))))):p→OpP o e H G:=λf=>by
 simp only [yg] at g;exact ⟨_,.max3 g.1 g.2.1 g.2.2.1 g.2.2.2,hk f⟩
theorem wk.ocb {l} {a b} {f} (g:(o.op,e q,e i,e z,tSt t)=(.slice t q (some i) (some z) none,some (.d (.str l)),some (.d (.int a)),some (.d (.int b)),true)) (k:∀ v,f v=some r→G (.d (.str v))):(cut l a b).bind f=some r→OpP o e H G:=λh=>by
 simp only [yg] at g;obtain ⟨v,j,c⟩:=zud h;exact ⟨_,.zwK g.1 g.2.1 g.2.2.1 g.2.2.2.1 (zkr g.2.2.2.2) j,k v c⟩
theorem wk.ocbg {l} {a b} (g:(o.op,e q,e i,e z,tSt t)=(.slice t q (some i) (some z) none,some (.d (.str l)),some (.d (.int a)),some (.d (.int b)),true)) (hv:p→(cut l a b).isSome=true) (k:p→G (.d (.str ((cut l a b).getD default)))):p→OpP o e H G:=λc=>by
 simp only [yg] at g;exact ⟨_,.zwK g.1 g.2.1 g.2.2.1 g.2.2.2.1 (zkr g.2.2.2.2) (zup (hv c)),k c⟩
variable {α:Type} {enc:α→D} {l:List α}
end
def nilK (kk:Nat):D→D
 | .val (.slice none 0 0)=>.sl kk []
 | d=>d
section
variable {p:Prop} {o:Oper} {e:Operand→Option V} {H:List Blk} {G:V→Prop}
end
class HM (t:TypeId) {κ β:outParam Type} [dk:outParam (DecidableEq κ)] (ke:outParam (κ→Value)) (ve:outParam (β→D)) (z:outParam β):Prop where
 ok:∃ kt et,Tryz.prog.underlying t=some (.map kt et)∧KeyT Tryz.prog kt ke∧zvq Tryz.prog et (ve z)
section
variable {p:Prop} {C:Ctx} {ops:Array Oper} {Q:Exit→St→Prop} {o:Oper} {rest:List Oper} {T:List (Nat×V)} {H:List Blk} {e:Operand→Option V} {G:V→Prop} {q z y:Operand} {t:Nat}
variable {κ β:Type} [dk:DecidableEq κ] {ke:κ→Value} {ve:β→D} {z0:β}
theorem wk.mkm {d} [HM t ke ve z0] (g:(o.guard,o.op,o.dst,Nat.blt d C.n)=(none,.makeMap t none,some d,true)) (k:p→TriL Tryz.prog C ops rest Q ⟨(d,.mp H.length)::T,H++[GMap.blk ke ve GMap.empty]⟩):p→TriL Tryz.prog C ops (o::rest) Q ⟨T,H⟩:=λa=>by
 simp only [yg] at g;exact .makeMap ke ve g.1 g.2.1 g.2.2.1 g.2.2.2 (k a)
def isPut:Op→Option (TypeId×Operand×Operand×Operand)
 | .mapUpdate t x y z=>some (t,x,y,z)
 | .insert t x y z=>some (t,x,y,z)
 | _=>none
theorem wk.mput {i} {m} {k} {v} [hM:HM t ke ve z0] (g:(o.guard,isPut o.op,o.dst,ev T q,H[i]?,ev T y,ev T z)=(none,some (t,q,y,z),none,some (.mp i),some (GMap.blk ke ve m),some (.d (.val (ke k))),some (.d (ve v)))) (kk:p→TriL Tryz.prog C ops rest Q ⟨T,H.set i (GMap.blk ke ve (m.put k v))⟩):p→TriL Tryz.prog C ops (o::rest) Q ⟨T,H⟩:=λe=>by
 simp only [yg] at g;obtain ⟨c,a,f,h,j,l,r⟩:=g;obtain ⟨s,u,n,b,_⟩:=hM.ok;unfold isPut at a;split at a <;> cases a
 ·exact .mapPut c ‹o.op=_› f n b h j l r (kk e)
 ·exact .zxy c ‹o.op=_› f n b h j l r (kk e)
theorem wk.mget {i} {m} {k} [hM:HM t ke ve z0] (g:(o.op,e q,H[i]?,e y)=(.lookup t q y false,some (.mp i),some (GMap.blk ke ve m),some (.d (.val (ke k))))) (kk:p→G (.d (ve ((m.get? k).getD z0)))):p→OpP o e H G:=λb=>by
 simp only [yg] at g;obtain ⟨j,h,f,c,a⟩:=hM.ok;exact ⟨_,.zxx g.1 f c g.2.1 g.2.2.1 g.2.2.2 a,kk b⟩
theorem wk.mgetD {m} {k} [hM:HM t ke ve z0] (g:(o.op,e q,e y)=(.lookup t q y false,some (.d (GMap.dat ke ve m)),some (.d (.val (ke k))))) (kk:p→G (.d (ve ((m.get? k).getD z0)))):p→OpP o e H G:=λb=>by
 simp only [yg] at g;obtain ⟨i,h,f,c,a⟩:=hM.ok;exact ⟨_,.zx9 g.1 f c g.2.1 g.2.2 a,kk b⟩
end
class HR (i:Nat) (n:outParam Nat) (F:outParam (List Nat)):Prop where mk ::
section
variable {p:Prop} {C:Ctx} {ops:Array Oper} {Q:Exit→St→Prop} {rest:List Oper} {T:List (Nat×V)} {H:List Blk} {c:Code} {ids ts:List Nat}
class HF (i:Nat) (ids ts:outParam (List Nat)):Prop where mk ::
class HG (i:Nat) (ids ts:outParam (List Nat)):Prop where mk ::
structure FrzG (T:List (Nat×V)) (H:List Blk) (ids ts:List Nat) (K:List (Nat×D)→Prop):Prop where
 out:∃ ds,zw9 T H ids ds∧K ds
theorem FrzG.nil {K} (k:p→K []):p→FrzG T H ids [] K:=λa=>⟨[],.nil,k a⟩
theorem FrzG.cons {t} {v} {d} {K} (ht:look t T=some v) (hf:FrzI H ids v d) (k:p→FrzG T H ids ts λds=>K ((t,d)::ds)):p→FrzG T H ids (t::ts) K:=λb=>by
 obtain ⟨ds,c,a⟩:=(k b).out;exact ⟨_,.cons ht hf c,a⟩
def live (H:List Blk):List Nat→Bool
 | i::l=>match nthD H i with
  | some .dead=>false
  | some _=>live H l
  | none=>false
 | []=>true
def dst1:List Oper→Option Nat
 | o::l=>match o.dst with
  | some d=>some d
  | none=>dst1 l
 | []=>none
def noDst:List Oper→Nat→Bool
 | o::l,n+1=>match o.dst with
  | some _=>false
  | none=>noDst l n
 | [],0=>true
 | _,_=>false
def lastD:List Oper→Option Nat→Option Nat
 | o::l,r=>match o.dst with
  | some d=>lastD l (some d)
  | none=>lastD l r
 | [],r=>r
class HZ (i:Nat) (m:outParam Nat) (ids ts:outParam (List Nat)):Prop where mk ::
theorem wk.frz {i} (hi:hid c=some i) [HF i ids ts] (g:live H ids=true) (k:p→FrzG T H ids ts λds=>Tri Tryz.prog C c Q ⟨frzT ds T,zuF ids H⟩):p→Tri Tryz.prog C c Q ⟨T,H⟩:=λb=>by
 obtain ⟨ds,d,a⟩:=(k b).out;exact .ztW ids d a
theorem wk.frzL {i} (hi:dst1 rest=some i) [HG i ids ts] (g:live H ids=true) (k:p→FrzG T H ids ts λds=>TriL Tryz.prog C ops rest Q ⟨frzT ds T,zuF ids H⟩):p→TriL Tryz.prog C ops rest Q ⟨T,H⟩:=λb=>by
 obtain ⟨ds,c,a⟩:=(k b).out;exact .ztW ids c a
theorem wk.frzZ {i m} (hi:lastD ops.toList none=some i) [HZ i m ids ts] (g:(noDst rest m,live H ids)=(true,true)) (kk:p→FrzG T H ids ts λds=>TriL Tryz.prog C ops rest Q ⟨frzT ds T,zuF ids H⟩):p→TriL Tryz.prog C ops rest Q ⟨T,H⟩:=λb=>by
 obtain ⟨ds,c,a⟩:=(kk b).out;exact .ztW ids c a
end
section
variable {p:Prop} {C:Ctx} {ops:Array Oper} {Q:Exit→St→Prop} {o:Oper} {rest:List Oper} {T:List (Nat×V)} {H:List Blk}
class HA (r:Nat):Prop where mk ::
theorem wk.alA {t j} {d} [HA j] (g:(o.guard,o.op,o.dst,Nat.blt j C.n,tZd t,d.ones)=(none,.alloc t,some j,true,some d,true)) (k:p→TriL Tryz.prog C ops rest Q ⟨(j,.loc H.length 0)::T,H++[.box t (V.zt1 (.d d))]⟩):p→TriL Tryz.prog C ops (o::rest) Q ⟨T,H⟩:=wk.alo g k
theorem wk.sv {t i off n} {q z} {bt} {cs} {v} (g:(o.guard,o.op,o.dst,ev T q,nthD H i,ev T z,tC t,v.zt1.length,Nat.ble (off+n) cs.length)=(none,.store t q z,none,some (.loc i off),some (.box bt cs),some v,some n,n,true)) (h1:zvD H v.zt1)
  (k:p→TriL Tryz.prog C ops rest Q ⟨T,H.set i (.box bt (cs.take off++v.zt1++cs.drop (off+n)))⟩):p→TriL Tryz.prog C ops (o::rest) Q ⟨T,H⟩:=λb=>by
 simp only [yg] at g;obtain ⟨c,d,e,f,h,j,l,m,a⟩:=g;exact .store c d e f (zeN h) j h1 (zne l) m (yq a) (k b)
end
section
variable {p:Prop} {C:Ctx} {ops:Array Oper} {Q:Exit→St→Prop} {rest:List Oper} {T:List (Nat×V)} {H:List Blk} {N:Nat} {al:List Ev} {K:List Ev→List (Nat×V)→Prop}
class HE (n:Nat) (t:outParam Nat):Prop where mk ::
class EqD (d:D) (d':outParam D):Prop where
 eq:d=d'
end
class HTr:Prop where mk ::
theorem gX2 [HTr] {g:Prop} (k:g):g:=k
instance eqT1 {l}:EqD (.sl 5 (Tree.encs l)) (.sl 5 (l.map Tree.enc)):=⟨by rw [Tree.zut]⟩
def opT (o:Op) (k:Nat):Option Nat:=match nthO' o.operands.toList k with
 | some (.tmp t)=>some t
 | _=>none
where nthO':List Operand→Nat→Option Operand
 | [],_=>none
 | x::_,0=>some x
 | _::l,n+1=>nthO' l n
theorem wk.oeq {p:Prop} {o} {T} {H} {G} (k) {t} {d d'} (g:opT o.op k=some t) (hl:look t T=some (.d d)) [h:EqD d d'] (kk:p→OpP o (ev ((t,.d d')::T)) H G):p→OpP o (ev T) H G:=λb=>by
 have e:ev ((t,.d d')::T)=ev T:=by
  funext x;cases x with
  | tmp u=>
   simp only [ev,look];split
   ·rename_i a;subst a;rw [hl,h.eq]
   ·rfl
  | _=>rfl
 simp_all
section
variable {α β δ ε ζ γ R:Type} {r:R} {xs:List D} {K:D→Prop} {G:Prop} {i:FuncId}
class Ks3 {α β δ γ:outParam Type} (i:FuncId) (f:outParam (α→β→δ→Option γ)) (a:outParam (α→D)) (b:outParam (β→D)) (c:outParam (δ→D)) (e:outParam (γ→D)):Prop where
 ok:∀ t0 t1 t2 r,f t0 t1 t2=some r→Pure Tryz.prog i [a t0,b t1,c t2] (e r)
class Ks5 {α β δ ε ζ γ:outParam Type} (i:FuncId) (f:outParam (α→β→δ→ε→ζ→Option γ)) (a:outParam (α→D)) (b:outParam (β→D)) (c:outParam (δ→D)) (d:outParam (ε→D)) (q:outParam (ζ→D)) (e:outParam (γ→D)):Prop where
 ok:∀ t0 t1 t2 t3 t4 r,f t0 t1 t2 t3 t4=some r→Pure Tryz.prog i [a t0,b t1,c t2,d t3,q t4] (e r)
section
variable [Inhabited γ]
end
end
section
variable {p:Prop} {C:Ctx} {c:Code} {ops:Array Oper} {Q:Exit→St→Prop} {o:Oper} {rest l:List Oper} {s:St} {T:List (Nat×V)} {H:List Blk} {e:Operand→Option V} {G:V→Prop} {N:Nat} {al:List Ev} {K:List Ev→List (Nat×V)→Prop} {i:FuncId} {xs:List D} {R:D→Prop}
class HX:Prop where mk ::
theorem gX [HX] {g:Prop} (k:g):g:=k
theorem gT (k:p→Tri Tryz.prog C c Q s):p→Tri Tryz.prog C c Q s:=k
theorem gL (k:p→TriL Tryz.prog C ops l Q s):p→TriL Tryz.prog C ops l Q s:=k
theorem gQ (k:p→TriQ Tryz.prog N ops H l al T K):p→TriQ Tryz.prog N ops H l al T K:=k
theorem gO (k:p→OpP o e H G):p→OpP o e H G:=k
theorem gC (k:p→zui i xs R):p→zui i xs R:=k
def ownR:Op→Bool
 | .alloc _=>true
 | .assign (.const (.slice none 0 0))=>true
 | .buildSlice _ _ _=>true
 | .makeSlice _ _ _=>true
 | .makeMap _ _=>true
 | .build _ _=>true
 | .call c=>match c.callee with
  | .builtin .append=>true
  | _=>false
 | _=>false
theorem gP (h:ownR o.op=false) (k:p→TriL Tryz.prog C ops (o::rest) Q s):p→TriL Tryz.prog C ops (o::rest) Q s:=k
theorem gN (h:o.dst=none) (k:p→TriL Tryz.prog C ops (o::rest) Q s):p→TriL Tryz.prog C ops (o::rest) Q s:=k
theorem gI {t} {x y} (h:o.op = .indexAddr t x y) (k:p→OpP o e H G):p→OpP o e H G:=k
theorem gV {q} {a} {b} (h:o.op = .call { callee:=.value q,args:=a,argTypes:=b }) (k:p→OpP o e H G):p→OpP o e H G:=k
theorem gU {b} {x} {y} (h:o.op = .call { callee:=.builtin b,args:=x,argTypes:=y }) (k:p→OpP o e H G):p→OpP o e H G:=k
theorem gB {b} {t u} {x y} (h:o.op = .binOp b t x y u) (k:p→OpP o e H G):p→OpP o e H G:=k
theorem g1 {a} (k:p→zui i [a] R):p→zui i [a] R:=k
theorem g2 {a b} (k:p→zui i [a,b] R):p→zui i [a,b] R:=k
theorem g3 {a b c} (k:p→zui i [a,b,c] R):p→zui i [a,b,c] R:=k
end
def nlK {β:Type}:List Operand→List TypeId→List D→(List D→β)→β
 | .const (.slice none 0 0)::xs,t::ts,d::ds,k=>match d with
  | .val (.slice none 0 0)=>match tX t with
   | some kk=>nlK xs ts ds λl=>k (.sl kk []::l)
   | none=>nlK xs ts ds λl=>k (d::l)
  | _=>nlK xs ts ds λl=>k (d::l)
 | _::xs,_::ts,d::ds,k=>nlK xs ts ds λl=>k (d::l)
 | _,_,ds,k=>k ds
theorem zte {β}:∀ (xs) (ts) (ds) (k:List D→β),nlK xs ts ds k=k (ze0 xs ts ds):=by
 intro xs ts ds k
 induction xs,ts,ds,k using nlK.induct (β:=β) <;> simp_all [nlK,ze0]
theorem wk.oca {p:Prop} {o} {e} {H} {G} {f:FuncId} {args} {tys} {xs xs'} (g:(o.op,memN tCl f,evs e args.toList)=(.call { callee:=.value (.func f),args:=args,argTypes:=tys },true,some xs)) (g2:nlK args.toList tys.toList xs some=some xs') (k:p→zui f xs' λd=>G (.d d)):p→OpP o e H G:=wk.ocall g (Option.some.inj ((zte _ _ _ _).symm.trans g2)) k
class Cln (f:FuncId) (t:TypeId):Prop where
 ok:∃ fn,Tryz.prog.funcs[f]? = some fn∧fn.body=some (zfV t)∧fn.ntmps=8∧fn.results = #[.tmp 2]
section
variable {R:Type} {r:R} {C:Ctx} {ops:Array Oper} {o:Oper} {rest:List Oper} {Q:Exit→St→Prop} {T:List (Nat×V)} {H:List Blk}
theorem wk.cln {α} {f j el kk b t} {q} {enc:α→D} {xs:List α} {F:List α→Option R} [HS j] [hc:Cln f t] (g:(o.guard,o.op,o.dst,Nat.blt j C.n,memN tCl f,ev T q,tE t,Nat.blt 0 b,(T.all λp=>p.2.under H.length),Nat.ble C.gn H.length)=(none,.call { callee:=.value (.func f),args:=#[q],argTypes:=#[t] },some j,true,true,some (.d (.sl kk (xs.map enc))),some (el,kk,b),true,true,true))
  (k:∀ zs,F zs=some r→TriL Tryz.prog C ops rest Q ⟨(j,.vec H.length zs.length)::T,H++[.vec el kk (zs.map enc)]⟩) (ho:∀ z,(enc z).ones=true:=by exact λ_=>rfl) (hk:∀ z,(enc z).kOK kk=true:=by exact λ_=>rfl):(Go.Proofs.YtipkniadbkndfaaGreatDoor.app b [] xs).bind F=some r→TriL Tryz.prog C ops (o::rest) Q ⟨T,H⟩:=λh=>by
 simp only [yg] at g;obtain ⟨g1,g2,g3,g4,g5,g6,g7,g8,g9,ga⟩:=g;obtain ⟨fn,h1,h2,h3,h4⟩:=hc.ok;obtain ⟨v,y,a⟩:=zud h;exact .clone g1 g2 g3 g4 (zt3 g5) h1 h2 h3 h4 g6 (zym g7) g8 ho hk y g9 ga (k v a)
end
section
variable {p:Prop} {C:Ctx} {ops:Array Oper} {o:Oper} {rest:List Oper} {Q:Exit→St→Prop} {T:List (Nat×V)} {H:List Blk}
end
section
class Kf3 {α β δ γ:outParam Type} (i:FuncId) (f:outParam (Nat→α→(β→Option δ)→(β→Option δ)→Option γ)) (a:outParam (α→D)) (b:outParam (β→D)) (d:outParam (δ→D)) (e:outParam (γ→D)):Prop where
 ok:∀ n t0 t1 F,Fn1 b d t1 F→∀ t2 G,Fn1 b d t2 G→∀ r,f n t0 t1 t2=some r→Pure Tryz.prog i [a t0,F,G] (e r)
variable {α β δ ε γ R:Type} {i:FuncId} {n:Nat} {xs:List D} {r:R} {K:D→Prop} {G:Prop}
theorem Kf3.cf {f} {a b d e} [k:Kf3 i f a b d e] {x:α} {y z:β→Option δ} {j l} {cs es} {kk:γ→Option R} (hx:xs=[a x,.fn (.func j) [] cs,.fn (.func l) [] es]) (hc:(memN tCl j&&memN tCl l)=true) (hf:∀ q v,y q=some v→zui j (b q::cs) λw=>w=d v) (hg:∀ q v,z q=some v→zui l (b q::es) λw=>w=d v) (c:∀ v,kk v=some r→K (e v)):(f n x y z).bind kk=some r→zui i xs K:=λh=>by
 obtain ⟨v,j,g⟩:=zud h;simp only [yd] at hc;exact ⟨_,hx▸k.ok _ _ _ _ (fn1 hc.1 hf) _ _ (fn1 hc.2 hg) _ j,c v g⟩
end
section
class HI (f:FuncId) (fn:outParam Func) (N:outParam Nat) (rs:outParam (List ResultVar)):Prop where
 ok:Tryz.prog.funcs[f]? = some fn∧fn.ntmps=N∧fn.results=rs.toArray
variable {p:Prop} {C:Ctx} {ops:Array Oper} {o:Oper} {rest:List Oper} {Q:Exit→St→Prop} {T:List (Nat×V)} {H:List Blk}
def zxL (T:List (Nat×V)):List ResultVar→Option (List V)
 | []=>some []
 | .tmp t::rs=>match look t T,zxL T rs with
  | some v,some vs=>some (v::vs)
  | _,_=>none
 | _=>none
theorem zoB {s:St}:∀ {rs vs},zxL s.T rs=some vs→ResV s rs vs
 | [],vs,h=>by cases h;rfl
 | .tmp t::rs,vs,h=>by
  simp only [zxL] at h;split at h <;> cases h
  rename_i h1 h2;exact ⟨_,_,rfl,h1,zoB h2⟩
 | .cell _ _::_,_,h=>by cases h
theorem zqm {P:Program} {s:St} {rs vs} (h:zxL s.T rs=some vs):ResC P s rs (zdw vs):=by
 unfold ResC;split
 ·cases h
 ·exact ⟨_,zoB h,rfl⟩
variable {s:St} {P:Program} {rs:List ResultVar} {K:V→List Blk→Prop} {Kp:List PanicEntry→List Blk→Prop} {vs:List V}
theorem wk.vR (g:zxL s.T rs=some vs) (k:p→K (zdw vs) s.H):p→retVC P rs K Kp .ret s:=λhp=>.inl ⟨.inl rfl,_,zqm g,k hp⟩
theorem wk.vN (g:zxL s.T rs=some vs) (k:p→K (zdw vs) s.H):p→retVC P rs K Kp .normal s:=λhp=>.inl ⟨.inr rfl,_,zqm g,k hp⟩
end
section
variable {p:Prop} {C:Ctx} {ops:Array Oper} {o:Oper} {rest:List Oper} {Q:Exit→St→Prop} {T:List (Nat×V)} {H:List Blk}
end
section
variable {p:Prop} {C:Ctx} {ops:Array Oper} {o:Oper} {rest:List Oper} {Q:Exit→St→Prop} {T:List (Nat×V)} {H:List Blk} {e:Operand→Option V} {G:V→Prop}
theorem wk.mkv {g:FuncId} {cs:Array Operand} {vs:List V} (h:(o.op,evsV e cs.toList)=(.makeFunc (.func g) #[] cs,some vs)) (k:p→G (.fn (.func g) [] vs)):p→OpP o e H G:=λhp=>by
 simp only [yg] at h;exact ⟨_,.zuS h.1 h.2,k hp⟩
class Kr1 {α:outParam Type} (i:FuncId) (a:outParam (α→D)) (F:outParam (α→D)):Prop where
 ok:∀ x,Pure Tryz.prog i [a x] (F x)
theorem Kr1.c {α:Type} {i} {a F:α→D} [k:Kr1 i a F] {x} {xs:List D} {K:D→Prop} (hx:xs=[a x]) (c:p→K (F x)):p→zui i xs K:=λh=>⟨_,hx▸k.ok x,c h⟩
theorem wk.inlc {f fn N rs} {x:Operand} {args:Array Operand} {tys:Array TypeId} {xs caps:List V} {c:Code} (g0:(o.op,ev T x)=(.call { callee:=.value x,args:=args,argTypes:=tys },some (.fn (.func f) [] caps))) [hI:HI f fn N rs] (g:(o.guard,zt2 o.dst C.n,memN tCl f,evsV (ev T) args.toList,Nat.ble (xs++caps).length N,(T.all λp=>p.2.under H.length),Nat.ble C.gn H.length)=(none,true,true,some xs,true,true,true)) (hb:fn.body=some c)
  (k:∀ (own0:Nat→Prop) (w:World) (gh:List (V×Value)),p→Tri Tryz.prog ⟨C.A0,own0,w,N,λ_ _=>False,gh,H.length,[]⟩ c (retVC Tryz.prog rs (λv H'=>TriL Tryz.prog C ops rest Q ⟨putT T o.dst v,H'⟩) (λch H'=>Q (.panic ch) ⟨T,H'⟩)) ⟨zbE 0 (xs++caps),H⟩):p→TriL Tryz.prog C ops (o::rest) Q ⟨T,H⟩:=λhp=>by
 simp only [yg] at g g0;obtain ⟨g1,g3,g4,g5,g6,g7,g8⟩:=g;exact .zu1 g1 g3 (.clos g0.1 g0.2 (zt3 g4) g5) hI.ok.1 hb hI.ok.2.1 hI.ok.2.2 g6 g7 g8 λa b d=>k a b d hp
end
section
variable {p:Prop} {o:Oper} {H:List Blk} {e:Operand→Option V} {G:V→Prop}
theorem wk.ofe {t f o1 i n j off el kk:Nat} {q:Operand} {xs:List D} (g:(o.op,e q,H[i]?,tF t f)=(Op.fieldAddr t q f,some (V.el i n j off),some (Blk.vec el kk xs),some o1)) (hn:n=xs.length) (k:p→G (.el i n j (off+o1))):p→OpP o e H G:=λhp=>by
 simp only [yg] at g;obtain ⟨g1,g2,g3,g4⟩:=g;exact ⟨_,.zxf g1 g2 g3 hn (Tab.fl _ _ _ g4),k hp⟩
theorem wk.olf {α:Type} {t b n el kk off:Nat} {q:Operand} {xs:List α} {enc:α→D} {a:Int} {v:α} {s:Option Nat} {cs:List D} {y:D} (g:(o.op,e q,H[b]?,tS t)=(.load t q,some (.el b n a.toNat off),some (.vec el kk (xs.map enc)),some s)) (hv:idx xs a=some v) (hc:(enc v,zk2 cs off s,y.shape)=(.agg cs,some y,s)) (k:p→G (.d y)) (hn:n=xs.length:=by exact rfl):p→OpP o e H G:=λhp=>by
 simp only [yg] at g hc;exact ⟨_,.zxj g.1 g.2.1 g.2.2.1 hn hv (Tab.sh _ _ g.2.2.2) hc.1 hc.2.1 hc.2.2,k hp⟩
end
def relL (i m:Nat):List V→List V
 | .vec j n::l=>.vec j (match Nat.beq i j with
  | true=>m
  | false=>n)::relL i m l
 | v::l=>v::relL i m l
 | []=>[]
def relB (i m:Nat):List Blk→List Blk
 | .box t cs::l=>.box t (relL i m cs)::relB i m l
 | b::l=>b::relB i m l
 | []=>[]
theorem zl4 {i m el kk:Nat} {xs:List D}:∀ {H:List Blk} {j},relB i m (H.set j (.vec el kk xs))=(relB i m H).set j (.vec el kk xs)
 | [],_=>rfl
 | b::l,0=>by cases b <;> rfl
 | b::l,j+1=>by cases b <;> simp only [List.set_cons_succ,relB,zl4 (H:=l)]
section
variable {R:Type} {r:R} {C:Ctx} {ops:Array Oper} {o:Oper} {rest:List Oper} {Q:Exit→St→Prop} {T:List (Nat×V)} {H:List Blk}
theorem wk.tsf {t i n kk el off:Nat} {q z:Operand} {α:Type} {enc:α→D} {xs:List α} {a:Int} {x0 y:α} {ds:List D} {dy:D} {f:List α→Option R} (g:(o.guard,o.op,o.dst,ev T q,H[i]?,ev T z,tC t)=(none,.store t q z,none,some (.el i n a.toNat off),some (.vec el kk (xs.map enc)),some (.d dy),some 1)) (h0:idx xs a=some x0) (g2:(dy.shape,dy.ones,Nat.blt off kk,enc x0,D.agg (ds.set off dy))=(none,true,true,.agg ds,enc y))
  (k:∀ v,f v=some r→TriL Tryz.prog C ops rest Q ⟨relT i v.length (dedT [] T),relB i v.length (H.set i (.vec el kk (v.map enc)))⟩) (hn:n=xs.length:=by exact rfl) (he:(relT i xs.length (dedT [] T),relB i xs.length H)=(dedT [] T,H):=by exact rfl):(sto xs a y).bind f=some r→TriL Tryz.prog C ops (o::rest) Q ⟨T,H⟩:=λh=>by
 simp only [yg] at g g2 he;obtain ⟨e,u,j,l,m,p,s⟩:=g;obtain ⟨v,c,b⟩:=zud h;have:=k v b;rw [zl4,(za7 c).symm,he.1,he.2] at this;exact .storeElF e u j l m hn p g2.1 g2.2.1 (zne s) h0 g2.2.2.2.1 g2.2.2.2.2 g2.2.2.1 c (.ded this)
theorem wk.tsb {t i n kk el:Nat} {q z:Operand} {α:Type} {enc:α→D} {xs:List α} {a:Int} {y:α} {f:List α→Option R} (g:(o.guard,o.op,o.dst,ev T q,H[i]?,ev T z,tC t)=(none,.store t q z,none,some (.el i n a.toNat 0),some (.vec el kk (xs.map enc)),some (.d (enc y)),some kk)) (g2:((enc y).kOK kk,(enc y).ones)=(true,true))
  (k:∀ v,f v=some r→TriL Tryz.prog C ops rest Q ⟨relT i v.length (dedT [] T),relB i v.length (H.set i (.vec el kk (v.map enc)))⟩) (hn:n=xs.length:=by exact rfl) (he:(relT i xs.length (dedT [] T),relB i xs.length H)=(dedT [] T,H):=by exact rfl):(sto xs a y).bind f=some r→TriL Tryz.prog C ops (o::rest) Q ⟨T,H⟩:=λh=>by
 simp only [yg] at g g2 he;obtain ⟨e,u,j,l,m,p,s⟩:=g;obtain ⟨v,c,b⟩:=zud h;have:=k v b;rw [zl4,(za7 c).symm,he.1,he.2] at this;exact .zux e u j l m hn p g2.1 g2.2 (zne s) c (.ded this)
end
section
variable {p:Prop} {C:Ctx} {ops:Array Oper} {Q:Exit→St→Prop} {c:Code} {rest:List Oper} {T:List (Nat×V)} {H:List Blk} {ids ts:List Nat}
theorem wk.frz' {i:Nat} (hi:hid c=some i) [HF i ids ts] (g:live H ids=true) (g0:C.own0=ze) (k:p→FrzG T H ids ts λds=>Tri Tryz.prog C c Q ⟨frzT ds T,zuF ids H⟩):p→Tri Tryz.prog C c Q ⟨T,H⟩:=wk.frz hi g k
end
section
variable {p:Prop} {C:Ctx} {Q:Exit→St→Prop} {l l1 l2:List Oper} {T:List (Nat×V)} {H:List Blk}
class HD (i:Nat) (n:outParam Nat):Prop where mk ::
theorem wk.regH {id n} [HD id n] (h:cutN n l (λa b=>some (a,b))=some (l1,l2)) (k:p→TriQ Tryz.prog C.n l.toArray H l1 [] T (λal T=>TriL Tryz.prog C l.toArray l2 Q (zkQ Tryz.prog H al T))) (h1:regOK l n=true:=by kernel_rfl) (h2:(zfq (l.take n)&&zef (l.take n))=true:=by kernel_rfl):p→Tri Tryz.prog C (.region id l.toArray true) Q ⟨T,H⟩:=λc=>by
 simp only [zil] at h;cases h;exact .draw n Hm h1 h2 (k c)
end
def hidN (n:Nat) (c:Code):Option Nat:=match hid c with
 | some i=>some (i+1000*n)
 | none=>none
section
variable {p:Prop} {C:Ctx} {Q:Exit→St→Prop} {s:St} {x y c:Code} {R:Type} {r:R} {i:Nat} {ks:List Nat} {K:List (Nat×V)} {σ:Type}
theorem zse {n} (h:hidN n c=some i):∃ j,hid c=some j:=by
 unfold hidN at h;split at h
 ·exact ⟨_,‹_›⟩
 ·cases h
theorem wk.Ji {k:σ→Option R} {m} {u} {f} {T:σ→List (Nat×V)} {J:σ→List Blk} (hi:hidN C.n y=some i) [HJ i ks u f] (g1:zwy ks s.T []=some K) (g2:(λv=>nfH (over s.H (f s.H v)) some)=λv=>some (J v)) (g3:(λv=>appK (u v) K some)=λv=>some (T v)) (g:Nat.ble C.gn s.H.length=true)
  (hm:∀ k' ,m k'=some r→Tri Tryz.prog C x (zwb k' r (λv=>⟨T v,J v⟩) Q) s) (hk:∀ v,k v=some r→Tri Tryz.prog C y Q ⟨T v,J v⟩):jn k m=some r→Tri Tryz.prog C (.seq x y) Q s:=by
 obtain ⟨j,hj⟩:=zse hi;have:HJ j ks u f:=⟨⟩
 exact wk.J hj g1 g2 g3 g hm hk
end
section
variable {p:Prop} {C:Ctx} {ops:Array Oper} {Q:Exit→St→Prop} {c:Code} {rest:List Oper} {T:List (Nat×V)} {H:List Blk} {ids ts:List Nat} {i:Nat}
theorem wk.frzL' (hi:dst1 rest=some i) [HG i ids ts] (g:live H ids=true) (g0:C.own0=ze) (k:p→FrzG T H ids ts λds=>TriL Tryz.prog C ops rest Q ⟨frzT ds T,zuF ids H⟩):p→TriL Tryz.prog C ops rest Q ⟨T,H⟩:=wk.frzL hi g k
theorem wk.frzZ' {m} (hi:lastD ops.toList none=some i) [HZ i m ids ts] (g:(noDst rest m,live H ids)=(true,true)) (g0:C.own0=ze) (kk:p→FrzG T H ids ts λds=>TriL Tryz.prog C ops rest Q ⟨frzT ds T,zuF ids H⟩):p→TriL Tryz.prog C ops rest Q ⟨T,H⟩:=wk.frzZ hi g kk
end
section
variable {p:Prop} {o:Oper} {H:List Blk} {e:Operand→Option V} {G:V→Prop}
end
theorem walk {R:Type} {m} {r:R} {g:Prop} (h:m=some r) (k:m=some r→g:=by
 repeat' first
  | exact I
  | (refine gL ?_;first | (refine gX ?_;first | refine wk.tnc 0 I ?_ | refine wk.tnc 1 I ?_ | refine wk.tnc 2 I ?_ | refine wk.tnc 3 I ?_ | refine wk.tnc 4 I ?_ | refine wk.tnc 5 I ?_ | apply wk.frzL' I I I | apply wk.frzZ' I I I | (refine wk.inlc I I I ?_;intro _ _ _)) | refine wk.aq ?_ | refine wk.W I ?_ | refine wk.nil ?_ | (refine wk.gK ?_;intro _) | (refine wk.cln I ?_;intro _) | (refine gP I ?_;refine wk.oL I ?_) | (refine gN I ?_;first | refine wk.so I ?_ | (refine gX ?_;refine wk.tsb I I ?_) | refine wk.tst I I I I ?_ | (refine wk.tsf (x0:=?_) (ds:=?_) I ?_ ?_ ?_;rotate_left 2;assumption;exact I) | apply wk.sv I | refine wk.mput I ?_) | refine wk.alN I ?_ | refine wk.alA I ?_ | refine wk.aS I ?_ | refine wk.alo I ?_ | refine wk.blN I ?_ | refine wk.tnv I ?_ | refine wk.tbv I ?_ | (refine wk.app I ?_;intro _) | refine wk.mkm I ?_ | (refine wk.tmk I ?_ I;intro _) | refine wk.oL I ?_)
  | (refine gT ?_;first | (refine gX ?_;first | (refine wk.Ji I I I I I ?_ ?_ <;> intro _) | apply wk.frz' I I I | refine wk.regH I ?_) | (refine wk.J I I I I I ?_ ?_ <;> intro _) | refine wk.seq ?_ | refine wk.reg I ?_ | refine wk.regP I I ?_ | refine wk.regD I ?_ | refine wk.cond I ?_ ?_ | refine wk.zw0 I ?_ | refine wk.block ?_ | refine wk.skip ?_ | refine wk.exit ?_ | refine wk.ret ?_ | (refine wk.L I I I I I ?_;intro _ _) | exact wk.no | (refine wk.gK ?_;intro _))
  | (refine gO ?_;first | (refine gX2 ?_;first | refine wk.oeq 0 I I ?_ | refine wk.oeq 1 I I ?_ | refine wk.oeq 2 I I ?_) | (refine gV I ?_;first | refine wk.oca I I ?_ | refine wk.odyn I ?_ | apply wk.ocallB I) | (refine gI I ?_;first | (refine wk.ox I ?_;intro _) | refine wk.oxg I isS ?_ | (refine wk.oxv I ?_;intro _ _)) | (refine gU I ?_;first | refine wk.oe I ?_ | refine wk.oev I ?_ | refine wk.om3 I ?_) | (refine gB I ?_;first | (refine wk.oqu I ?_;intro _) | (refine wk.ore I ?_;intro _) | refine wk.oqug I isS ?_ | refine wk.osn I ?_ | refine wk.osn (b:=⟨_,_⟩) I ?_ | refine wk.oin I ?_ | (refine wk.osh I ?_;intro _)) | refine wk.ons I ?_ | refine wk.obl I ?_ | refine wk.ole I (by assumption) I ?_ | refine wk.ofe I (by simp) ?_ | refine wk.olf I (by assumption) I ?_ | (refine wk.osi I ?_;intro _) | refine wk.osig I isS ?_ | (refine wk.ocl I ?_;intro _) | refine wk.ochg I isS ?_ | (refine wk.ocb I ?_;intro _) | refine wk.ocbg I isS ?_ | refine wk.mget I ?_ | refine wk.mgetD I ?_ | refine wk.mkv I ?_ | exact wk.no | (refine wk.gK ?_;intro _))
  | (refine gC ?_;first | (refine g1 ?_;first | (refine Kd1.c I ?_;intro _) | refine Kr1.c I ?_ | (apply Kd1.p (n:=0);exact I;exact I) | (apply Kd1.gx;exact I;exact isS) | refine Kd1.g isS ?_ ?_) | (refine g2 ?_;first | (refine Kd2.c I ?_;intro _) | (refine Ks2.c I ?_;intro _) | (refine Kf2.cf I I ?_ ?_) | (apply Kd2.p (n:=0);exact I;exact I) | (apply Kd2.gx;exact I;exact isS) | refine Kd2.g isS ?_ ?_ | refine Kf2.c I (by assumption) ?_ | (apply Kf2.gf;exact I;exact I;exact isS)) | (refine g3 ?_;first | (refine Kd3.c I ?_;intro _) | (refine Kf3.cf I I ?_ ?_ ?_) | (apply Kd3.gx;exact I;exact isS) | refine Kd3.g isS ?_ ?_) | (refine Kd4.c I ?_;intro _) | (refine Kd0.c I ?_;intro _) | refine Kd4.g isS ?_ ?_)
  | (refine gQ ?_;first | refine wk.QW I ?_ | refine wk.Qn ?_ | (refine wk.gK ?_;intro _) | refine wk.Qal I ?_ | refine wk.Qst I ?_ | refine wk.oQ I ?_ | apply wk.jA I I | apply wk.jO I I)
  | (refine wk.und ?_;intro _)
  | refine wk.nB ?_
  | refine wk.xT ?_
  | refine wk.xB ?_
  | refine wk.xJ ?_
  | refine wk.rT ?_
  | refine wk.rB ?_
  | refine wk.rJ ?_
  | refine wk.vR I ?_
  | refine wk.vN I ?_
  | exact wk.nd I
  | exact wk.rO I
  | exact wk.fin I
  | (refine wk.gK ?_;intro _)
  | refine Fn1.c (by assumption) ?_ ?_
  | refine Fn1.g (by assumption) isS ?_ ?_
  | refine dynF I ?_
  | (intro _ _;first | exact Kd1.d I | exact Kd2.d I | exact Kd3.d I | exact Kd5.d I)
  | refine wk.sc I ?_
  | exact Frz.d _
  | exact Frzs.nil
  | apply Frzs.cons
  | exact Frz.vec I (by simp)
  | apply Frz.agg
  | refine FrzG.nil ?_
  | apply FrzG.cons I
  | exact FrzI.d _
  | exact FrzI.vec (zur I) I (by simp)
  | apply FrzI.loc (zur I) I
  | (refine FrzI.loc1 (zur I) I ?_ I)
  | exact zvt.nil
  | apply zvt.cons
  | exact zvD.nil
  | apply zvD.cons
  | exact OneV.d I
  | exact OneV.vec I (by simp)
  | exact OneV.mp I
  | exact OneV.loc I
  | exact OneV.fn
  | exact Lent.nil
  | apply Lent.cons I
  | refine all1 λ_=>?_
  | (intro h;cases h;first | exact zfO I (.vec I (by simp)) | exact zfO I (.d _) | exact zfO I (.mp I (GMap.wfm _)) | refine zrO I I ?_ ?_ | refine zjs I I I ?_ ?_ ?_ | refine wk.rC I ?_ | refine wk.rCT I ?_ ?_)
  | fail):g:=k h
end
end Go.Proofs.YtipkniadbkndfaaGreatDoor
