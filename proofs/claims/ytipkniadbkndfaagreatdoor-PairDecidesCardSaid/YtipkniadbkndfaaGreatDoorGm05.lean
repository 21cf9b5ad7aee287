/- Part of the proof of one law of the seat. -/
import Derived.Test.YtipkniadbkndfaaGreatDoorGm04
set_option linter.all false
set_option maxRecDepth 100000
set_option maxHeartbeats 40000000
namespace Go.Proofs.YtipkniadbkndfaaGreatDoor
open Go Go.RowKit
open Option renaming some->O,none->Y,bind_eq_some_iff->vv
open Bool renaming true->U,false->M
open Decidable renaming decide->Z
open Inhabited renaming default->J
open D renaming reps->xv,rep->xC
open Nat renaming blt->xz,ble->xP,eq_of_beq_eq_true->ww,beq->wR
open GMap renaming empty->wj
open List renaming range'->wr
open List.cons renaming injEq->wM
open Option.some renaming inj->vE
open Go.Proofs.Tryz renaming prog->xg
noncomputable section
def zhM (n:Nat):Option Model:=O ⟨[],[⟨[99],1,[],⟨0,3⟩,0⟩],[[99]],[⟨0,0,⟨[⟨0,-1⟩],0⟩,0,0⟩,⟨0,0,⟨[⟨0,1⟩],3⟩,0,0⟩],[⟨[116,119,111],M,[]⟩],[⟨0,[],⟨[⟨0,2⟩],[],[]⟩⟩],[]⟩
def zP.l1 (n:Nat)(t0:List Int)(t1:Int->Option Bool)(b:Int->Option Int)(a:Int):=if Z (a<t0.length)then(idx t0 a).bind λc=>(t1 c).bind λd=>if d then O a else b (ztc a 1)else O (-1)
def zP (n:Nat)(t0:List Int)(t1:Int->Option Bool):=ztg (zP.l1 n t0 t1) n 0
def zt (n:Nat)(t0:List Int)(t1:Int->Option Bool):Option Bool:=(zP n t0 t1).bind λa=>O (0<=a)
def zdT (n:Nat)(t0:Int)(t1:Int)(t2:Int):=O (t1<=t0&&t0<=t2)
def zfF (n:Nat)(t0:Int):=(zdT n t0 1 6).bind λa=>O (!a)
def zfE (n:Nat)(t0:List Int):=(zt n t0 λq0=>zfF n q0).bind λa=>O (!a)
def zad.l1 (n:Nat)(t0:List Bool)(t1:Bool)(b:Int->Option Int)(a:Int):=if Z (a<t0.length)then(idx t0 a).bind λc=>if t1==c then O a else b (ztc a 1)else O (-1)
def zad (n:Nat)(t0:List Bool)(t1:Bool):=ztg (zad.l1 n t0 t1) n 0
def zbS (n:Nat)(t0:List Bool)(t1:Bool):Option Bool:=(zad n t0 t1).bind λa=>O (0<=a)
def zf8 (n:Nat)(t0:List Bool):=(zbS n t0 M).bind λa=>O (!a)
def zdE (n:Nat)(t0:List UInt8)(t1:Int->Option Bool):Option (List (List UInt8)):=Y
def zeI (n:Nat)(t0:Int):=if Z (wk .u32 t0<=255)then jn (λv=>let b:=v;if b then O U else O M) λa=>if t0==9 then a (t0==9)else if t0==10 then a (t0==10)else if t0==11 then a (t0==11)else if t0==12 then a (t0==12)else if t0==13 then a (t0==13)else if t0==32 then a (t0==32)else if t0==133 then a (t0==133)else a (t0==160)else Y
def za2.l4 (n:Nat)(t0:List UInt8)(e:Int)(c:List (List UInt8)×Int×Int×Int->Option (List (List UInt8)))(b:List (List UInt8))(d:Int->Option (List (List UInt8)))(a:Int):=grd (! a<t0.length||(sidx t0 a).isSome)<|grd (! a<t0.length||(idx tab0 ((sidx t0 a).getD J)).isSome)<|if a<t0.length&&(idx tab0 ((sidx t0 a).getD J)).getD J !=0 then d (ztc a 1)else c (b,ztc e 1,a,a)
def za2.l3 (n:Nat)(t0:List UInt8)(e:List (List UInt8)×Int×Int×Int->Option (List (List UInt8)))(s:List (List UInt8)×Int×Int×Int):=let a:=s.2.1;let c:=s.2.2.1;let b:=s.2.2.2;if Z (b<t0.length)then(sidx t0 b).bind λj=>(idx tab0 j).bind λk=>if k==0 then e (s.1,a,c,ztc b 1)else(cut t0 c b).bind λl=>(idx s.1 a).bind λo=>(sto s.1 a l).bind λh=>ztg (za2.l4 n t0 a e h) n (ztc b 1)else jn (λv=>let f:=v;O f) λd=>if Z (c<t0.length)then(cut t0 c t0.length).bind λi=>(idx s.1 a).bind λm=>(sto s.1 a i).bind λg=>d g else d s.1
def za2.l2 (n:Nat)(t0:List UInt8)(c:List (List UInt8))(b:Int->Option (List (List UInt8)))(a:Int):=grd (! a<t0.length||(sidx t0 a).isSome)<|grd (! a<t0.length||(idx tab0 ((sidx t0 a).getD J)).isSome)<|if a<t0.length&&(idx tab0 ((sidx t0 a).getD J)).getD J !=0 then b (ztc a 1)else ztg (za2.l3 n t0) n (c,0,a,a)
def za2.l1 (n:Nat)(t0:List UInt8)(d:Int×Int×Int×Int->Option (List (List UInt8)))(s:Int×Int×Int×Int):=let a:=s.2.2.2;if Z (a<t0.length)then(sidx t0 a).bind λb=>(idx tab0 b).bind λc=>d (ztc s.1 (band .i64 s.2.1 (bnot .i64 (wk .i64 c))),wk .i64 c,bor .u8 s.2.2.1 b,ztc a 1)else if Z (128<=s.2.2.1)then(zdE n t0 λq0=>zeI n q0).bind λe=>O e else(mkl 16 s.1 []).bind λf=>ztg (za2.l2 n t0 f) n 0
def za2 (n:Nat)(t0:List UInt8):=ztg (za2.l1 n t0) n (0,1,0,0)
def zbH.l1 (n:Nat)(a:List (List UInt8))(b:GMap (List UInt8) Bool×Int->Option (GMap (List UInt8) Bool))(s:GMap (List UInt8) Bool×Int):=if Z (s.2<a.length)then(idx a s.2).bind λc=>b (s.1.put c U,ztc s.2 1)else O s.1
def zbH (n:Nat):=(za2 n [115,111,114,116,32,114,101,108,97,116,105,111,110,32,99,111,117,110,116,101,114,32,115,101,116,32,114,101,103,105,115,116,101,114,32,105,110,118,97,114,105,97,110,116,32,111,112,101,114,97,116,105,111,110,32,107,101,121,32,114,101,102,101,114,101,110,99,101,32,116,111,32,99,111,117,110,116,32,97,99,121,99,108,105,99,32,97,108,108,32,115,117,109,32,105,110,32,97,100,100,119,105,110,115,32,114,101,109,111,118,101,119,105,110,115,32,108,97,115,116,32,109,117,108,116,105,32,104,105,100,101,32,111,114,100,101,114,101,100,32,114,101,113,117,105,114,101,32,104,111,108,100,32,105,110,115,101,114,116,32,100,101,108,101,116,101,32,97,100,100,32,102,114,111,109,32,112,117,116,32,100,114,111,112,32,97,115,115,105,103,110,32,102,111,114,32,119,104,101,114,101,32,97,110,100,32,111,114,32,110,111,116]).bind λa=>ztg (zbH.l1 n a) n (wj,0)
def zb6 (n:Nat)(t0:Int):=O (t0==32||t0==9||t0==10||t0==13)
def zcQ.l1 (n:Nat)(t0:List UInt8)(t1:Int->Option Bool)(b:Int->Option Int)(a:Int):=grd (! a<t0.length||(sidx t0 a).isSome)<|grd (! a<t0.length||(t1 ((sidx t0 a).getD J)).isSome)<|if a<t0.length&&(t1 ((sidx t0 a).getD J)).getD J then b (ztc a 1)else O a
def zcQ (n:Nat)(t0:List UInt8)(t1:Int->Option Bool):=ztg (zcQ.l1 n t0 t1) n 0
def zgi (n:Nat)(t0:Int):=O (t0 !=10)
def zcY.l1 (n:Nat)(t0:List UInt8)(b:Int->Option Int)(a:Int):=if Z (a<t0.length)then(sidx t0 a).bind λc=>(zb6 n c).bind λd=>if d then b (ztc a 1)else(sidx t0 a).bind λe=>if e==35 then(cut t0 a t0.length).bind λf=>(zcQ n f λq0=>zgi n q0).bind λg=>b (ztc a g)else O a else O a
def zcY (n:Nat)(t0:List UInt8):=ztg (zcY.l1 n t0) n 0
def zcP (n:Nat)(t0:Int):=O (97<=t0&&t0<=122)
def zbK (n:Nat)(t0:Int):=O (48<=t0&&t0<=57)
def ziE (n:Nat)(t0:Int):=(zcP n t0).bind λa=>grd (a||(zbK n t0).isSome)<|O (a||(zbK n t0).getD J||t0==95)
def zbs (n:Nat)(t0:List UInt8)(t1:List UInt8):=grd (! t1.length<=(t0.length:Int)||(cut t0 0 t1.length).isSome)<|O (t1.length<=(t0.length:Int)&&(cut t0 0 t1.length).getD J=t1)
def zc1 (n:Nat)(t0:List UInt8)(t1:List UInt8):=(zbs n t0 t1).bind λa=>O a
def zaX (n:Nat)(t0:List UInt8)(t1:Int):=O (Lib.indexByte t0 t1.toNat.toUInt8)
def zcp (n:Nat)(t0:List UInt8)(t1:Int):=(zaX n t0 t1).bind λa=>O a
def zbi.l1 (n:Nat)(t0:List UInt8)(b:Int->Option Int)(a:Int):=if Z (a<[[61,61],[33,61],[60,61],[62,61],[46,46]].length)then(idx [[61,61],[33,61],[60,61],[62,61],[46,46]] a).bind λd=>(zc1 n t0 d).bind λc=>if c then O 2 else b (ztc a 1)else grd (! ! t0=[]||(sidx t0 0).isSome)<|grd (! ! t0=[]||(zcp n [60,62,61,43,45,42,40,41,123,125,44,58,59] ((sidx t0 0).getD J)).isSome)<|if ! t0=[]&&0<=(zcp n [60,62,61,43,45,42,40,41,123,125,44,58,59] ((sidx t0 0).getD J)).getD J then O 1 else O 0
def zbi (n:Nat)(t0:List UInt8):=ztg (zbi.l1 n t0) n 0
def zdn (n:Nat)(t0:List UInt8):=(sidx t0 0).bind λb=>(zcP n b).bind λa=>grd (a||(sidx t0 0).isSome)<|grd (a||(zbK n ((sidx t0 0).getD J)).isSome)<|grd (a||(zbK n ((sidx t0 0).getD J)).getD J||(zbi n t0).isSome)<|O (a||(zbK n ((sidx t0 0).getD J)).getD J||0<(zbi n t0).getD J)
def zaA.l2 (n:Nat)(a:List UInt8)(c:Int×Int->Option Token)(d:Int->Option Token)(b:Int):=grd (! b<a.length||(sidx a b).isSome)<|grd (! b<a.length||(zb6 n ((sidx a b).getD J)).isSome)<|grd (!(b<a.length&&!(zb6 n ((sidx a b).getD J)).getD J)||(sidx a b).isSome)<|grd (!(b<a.length&&!(zb6 n ((sidx a b).getD J)).getD J&&(sidx a b).getD J !=35)||(cut a b a.length).isSome)<|grd (!(b<a.length&&!(zb6 n ((sidx a b).getD J)).getD J&&(sidx a b).getD J !=35)||(zdn n ((cut a b a.length).getD J)).isSome)<|if b<a.length&&!(zb6 n ((sidx a b).getD J)).getD J&&(sidx a b).getD J !=35&&!(zdn n ((cut a b a.length).getD J)).getD J then d (ztc b 1)else c (5,b)
def zaA.l1 (n:Nat)(t1:List UInt8)(t2:GMap (List UInt8) Bool)(q:Unit->Option Token)(s:Unit):=(cut t1 0 t1.length).bind λf=>(zcY n f).bind λc=>(cut t1 (ztc 0 c) t1.length).bind λa=>jn (λv=>let e:=v.1;let p:=v.2;O ⟨e,0,ztc 0 c,ztc (ztc 0 c) p⟩) λb=>if Z (a=[])then b (0,0)else(sidx a 0).bind λg=>(zcP n g).bind λh=>if h then(zcQ n a λq0=>ziE n q0).bind λd=>(cut a 0 d).bind λi=>if(t2.get? i).getD M then b (2,d)else b (1,d)else(sidx a 0).bind λj=>(zbK n j).bind λk=>if k then(zcQ n a λq0=>zbK n q0).bind λl=>b (3,l)else(zbi n a).bind λm=>if Z (0<m)then(zbi n a).bind λo=>b (4,o)else ztg (zaA.l2 n a b) n 1
def zaA (n:Nat)(t1:List UInt8)(t2:GMap (List UInt8) Bool):=ztg (zaA.l1 n t1 t2) n ()
def zel (n:Nat)(t0:List UInt8):=if(t0=[]||4096<(t0.length:Int))=U then O 0 else(zbH n).bind λkw=>(zaA n t0 kw).bind λtok=>if(tok.at_ !=0||tok.end_ !=t0.length)=U then O 0 else O tok.kind
def zfl (n:Nat)(t0:List UInt8):=grd (!(t0.length:Int)<=16||(zel n t0).isSome)<|O ((t0.length:Int)<=16&&(zel n t0).getD J==1)
def zdc (n:Nat)(t0:Int)(t1:List Int):=O (t0<0||t1.length<=t0)
def zdP (n:Nat)(t0:List Int)(t1:List Int):=grd (!(t1.length:Int)<=3||(zt n t1 λq0=>zdc n q0 t0).isSome)<|O ((t1.length:Int)<=3&&!(zt n t1 λq0=>zdc n q0 t0).getD J)
def zdS (n:Nat)(t0:Table):=jn (λv=>let b:=v;if b then O (t0.range.lo<=t0.range.hi&&-9999<=t0.range.lo&&t0.range.hi<=9999)else O (t0.range=⟨0,1⟩)) λa=>if t0.kind==1 then a (t0.kind==1)else if t0.kind==4 then a (t0.kind==4)else a (t0.kind==5)
def zb3 (n:Nat)(t0:Table):=O (t0.kind==0||t0.kind==1)
def zba.l1 (n:Nat)(t0:List Int)(t1:List Int)(a:Int×Int->Option Int)(s:Int×Int):=if Z (s.2<t1.length)then(idx t1 s.2).bind λb=>(idx t0 b).bind λc=>a (zto s.1 c,ztc s.2 1)else O s.1
def zba (n:Nat)(t0:List Int)(t1:List Int):=ztg (zba.l1 n t0 t1) n (1,0)
def zbJ.l1 (n:Nat)(t0:List Int)(t1:List Table)(h:GMap (List UInt8) Bool×Int×Int×Int->Option Bool)(s:GMap (List UInt8) Bool×Int×Int×Int):=let b:=s.2.2.1;let c:=s.2.2.2;if Z (c<t1.length)then jn (λv=>let g:=v.1;let e:=v.2.1;let f:=v.2.2;h (g,e,f,ztc c 1)) λd=>(idx t1 c).bind λa=>(zfl n a.name).bind λi=>(zdT n a.kind 0 5).bind λj=>(zdP n t0 a.ztd).bind λk=>(zdS n a).bind λl=>(zf8 n [i,!(s.1.get? a.name).getD M,j,k,l]).bind λm=>if !m then O M else(zb3 n a).bind λo=>if o then if a.first !=s.2.1 then O M else(zba n t0 a.ztd).bind λp=>d (s.1.put a.name U,ztc s.2.1 p,b)else if a.first !=b then O M else(zba n t0 a.ztd).bind λq=>d (s.1.put a.name U,s.2.1,ztc b q)else O (s.2.1<=128&&b<=64)
def zbJ (n:Nat)(t0:List Int)(t1:List Table):=(zfE n t0).bind λa=>(zf8 n [(t0.length:Int)<=4,(t1.length:Int)<=12,a]).bind λb=>if !b then O M else ztg (zbJ.l1 n t0 t1) n (wj,0,0,0)
def zaM.l1 (n:Nat)(t0:List (List UInt8))(b:GMap (List UInt8) Bool×Int->Option Bool)(s:GMap (List UInt8) Bool×Int):=if Z (s.2<t0.length)then(idx t0 s.2).bind λa=>(zfl n a).bind λc=>if !c||(s.1.get? a).getD M then O M else b (s.1.put a U,ztc s.2 1)else O U
def zaM (n:Nat)(t0:List (List UInt8)):=ztg (zaM.l1 n t0) n (wj,0)
def zew (n:Nat)(t0:Int)(t1:Int):=(shrO .u64 t0 32).bind λa=>(shrO .u64 t1 32).bind λb=>(shrO .u64 (wk .u64 (band .u64 t0 4294967295*band .u64 t1 4294967295)) 32).bind λc=>(shrO .u64 (wk .u64 (wk .u64 (a*band .u64 t1 4294967295)+c)) 32).bind λd=>(shrO .u64 (wk .u64 (band .u64 (wk .u64 (wk .u64 (a*band .u64 t1 4294967295)+c)) 4294967295+wk .u64 (band .u64 t0 4294967295*b))) 32).bind λe=>O (wk .u64 (wk .u64 (wk .u64 (a*b)+d)+e),wk .u64 (t0*t1))
def zeh (n:Nat)(t0:Int)(t1:Int):=(zew n t0 t1).bind λa=>O (a.1,a.2)
def zL.l1 (n:Nat)(b:List Range×Int->Option (List Range))(s:List Range×Int):=let a:=s.1;if Z (s.2<a.length)then(cut a s.2 a.length).bind λc=>(cut a 0 s.2).bind λd=>b (zeL a s.2.toNat a.length ((a.drop 0).take (s.2.toNat-0)),ztc s.2 (min (a.length-s.2.toNat) ((a.drop 0).take (s.2.toNat-0)).length:Nat))else O a
def zL (n:Nat)(t0:List Range)(t1:Int):=if Z (t1<0)then Y else(zeh n (wk .u64 t0.length) (wk .u64 t1)).bind λa=>if 0<a.1||9223372036854775807<a.2 then Y else(mkl 16 (wk .i64 a.2) ⟨0,0⟩).bind λb=>ztg (zL.l1 n) n (zeL b 0 b.length t0,(min (b.length-0) t0.length:Nat))
def zbG.l1 (n:Nat)(t0:List Int)(t1:List Table)(t2:Bool)(d:List Range×Int->Option (List Range))(s:List Range×Int):=if Z (s.2<t1.length)then jn (λv=>let c:=v;d (c,ztc s.2 1)) λb=>(idx t1 s.2).bind λa=>(zb3 n a).bind λe=>if e==t2 then(zba n t0 a.ztd).bind λf=>(zL n [a.range] f).bind λg=>(app 16 s.1 g).bind λh=>b h else b s.1 else O s.1
def zbG (n:Nat)(t0:List Int)(t1:List Table)(t2:Bool):=(zbJ n t0 t1).bind λa=>if !a then O []else ztg (zbG.l1 n t0 t1 t2) n ([],0)
def zaC (n:Nat)(t0:Int)(t1:Int):=O (0<=t0&&t0<t1)
def za5 (n:Nat)(t0:Int)(t1:Int):=O (ztU t1<=t0&&t0<=t1)
def zaJ.l1 (n:Nat)(t0:zt3)(t1:Row)(b:Int×Int->Option Bool)(s:Int×Int):=if Z (s.2<t1.ztf.length)then(idx t1.ztf s.2).bind λa=>grd (a.cell<=s.1||t0.strict.length<=a.cell||a.ztl==0||(za5 n a.ztl 1000).isSome)<|if a.cell<=s.1||t0.strict.length<=a.cell||a.ztl==0||!(za5 n a.ztl 1000).getD J then O M else b (a.cell,ztc s.2 1)else(za5 n t1.bound 1000000000).bind λc=>O c
def zaJ (n:Nat)(t0:zt3)(t1:Row):=ztg (zaJ.l1 n t0 t1) n (-1,0)
def zbL (n:Nat)(t0:Table)(t1:Constraint)(t2:zt3):=grd (!(t0.kind==0&&(t0.ztd.length:Int)==2)||(idx t0.ztd 0).isSome)<|grd (!(t0.kind==0&&(t0.ztd.length:Int)==2)||(idx t0.ztd 1).isSome)<|grd (!(t0.kind==0&&(t0.ztd.length:Int)==2&&(idx t0.ztd 0).getD J==(idx t0.ztd 1).getD J&&t0.first==t1.first)||(idx t0.ztd 0).isSome)<|grd (!(t0.kind==0&&(t0.ztd.length:Int)==2&&(idx t0.ztd 0).getD J==(idx t0.ztd 1).getD J&&t0.first==t1.first)||(idx t2.model.ztj ((idx t0.ztd 0).getD J)).isSome)<|O (t0.kind==0&&(t0.ztd.length:Int)==2&&(idx t0.ztd 0).getD J==(idx t0.ztd 1).getD J&&t0.first==t1.first&&(idx t2.model.ztj ((idx t0.ztd 0).getD J)).getD J==t1.size)
def zy.l1 (n:Nat)(t0:List Table)(t1:Table->Option Bool)(b:Int->Option Int)(a:Int):=if Z (a<t0.length)then(idx t0 a).bind λc=>(t1 c).bind λd=>if d then O a else b (ztc a 1)else O (-1)
def zy (n:Nat)(t0:List Table)(t1:Table->Option Bool):=ztg (zy.l1 n t0 t1) n 0
def zae (n:Nat)(t0:List Table)(t1:Table->Option Bool):Option Bool:=(zy n t0 t1).bind λa=>O (0<=a)
def zcm (n:Nat)(t0:zt3)(t1:Constraint):=grd (!((t1.row.ztf.length:Int)==0&&t1.row.bound==0)||(zae n t0.model.tables λq0=>zbL n q0 t1 t0).isSome)<|O ((t1.row.ztf.length:Int)==0&&t1.row.bound==0&&(zae n t0.model.tables λq0=>zbL n q0 t1 t0).getD J)
def zU.l1 (n:Nat)(t0:List Term)(t1:List Term)(b:Int->Option Bool)(a:Int):=if Z (a<t0.length)then(idx t0 a).bind λc=>(idx t1 a).bind λd=>if ! c=d then O M else b (ztc a 1)else O U
def zU (n:Nat)(t0:List Term)(t1:List Term):=if t0.length !=(t1.length:Int)then O M else ztg (zU.l1 n t0 t1) n 0
def zd0 (n:Nat)(t0:Row)(t1:Int)(t2:Int)(t3:Int):=(zU n t0.ztf [⟨t1,t2⟩]).bind λa=>O (a&&t0.bound==t3)
def zac.l1 (n:Nat)(t0:zt3)(i:Int->Option Bool)(b:Int):=if Z (b<t0.model.constraints.length)then jn (λv=>i (ztc b 1)) λc=>(idx t0.model.constraints b).bind λa=>jn (λv=>(zul b 2).bind λk=>if Z (k<t0.strict.length)then(zul b 2).bind λl=>(idx t0.strict l).bind λh=>jn (λv=>let f:=v.1;let g:=v.2;grd (a.kind !=0||(zul b 2).isSome)<|grd (a.kind !=0||(zd0 n a.row ((zul b 2).getD J) f g).isSome)<|if a.kind !=0||!(zd0 n a.row ((zul b 2).getD J) f g).getD J then O M else c ()) λe=>(zuo b 2).bind λm=>if m==0 then e (-1,ztU h.lo)else e (1,h.hi)else c ()) λd=>(zaC n a.family t0.model.ztq.length).bind λj=>if !j then O M else if a.kind==0 then grd (a.first !=0||a.size !=0||(zaJ n t0 a.row).isSome)<|if a.first !=0||a.size !=0||!(zaJ n t0 a.row).getD J then O M else d ()else grd (a.kind !=1||(zcm n t0 a).isSome)<|if a.kind !=1||!(zcm n t0 a).getD J then O M else d ()else O U
def zac (n:Nat)(t0:zt3):=if 512<(t0.model.constraints.length:Int)||t0.model.constraints.length<zto 2 t0.strict.length then O M else ztg (zac.l1 n t0) n 0
def zby (n:Nat)(t0:Int)(t1:zt3):=O (t0<(-1)||t1.model.ztj.length<=t0)
def zO.l1 (n:Nat)(t0:zt3)(b:List (List UInt8)×Int->Option Bool)(s:List (List UInt8)×Int):=if Z (s.2<t0.model.zth.length)then(idx t0.model.zth s.2).bind λa=>(app 16 s.1 [a.name]).bind λc=>grd (3<(a.ztj.length:Int)||(zt n a.ztj λq0=>zby n q0 t0).isSome)<|if 3<(a.ztj.length:Int)||(zt n a.ztj λq0=>zby n q0 t0).getD J then O M else b (c,ztc s.2 1)else grd (!(s.1.length:Int)<=8||(zaM n s.1).isSome)<|O ((s.1.length:Int)<=8&&(zaM n s.1).getD J)
def zO (n:Nat)(t0:zt3):=ztg (zO.l1 n t0) n ([],0)
def zdu (n:Nat)(t0:Int):=O (t0 !=t0)
def zci (n:Nat)(t0:Int)(t1:Int):=(zdu n t0).bind λb=>(zdu n t1).bind λa=>if b then if a then O 0 else O (-1)else if a then O 1 else if Z (t0<t1)then O (-1)else if Z (t1<t0)then O 1 else O 0
def zq.l1 (n:Nat)(t0:List Int)(t1:List Int)(c:Int->Option Int)(a:Int):=if Z (a<t0.length)then(idx t0 a).bind λd=>if Z (t1.length<=a)then O 1 else(idx t1 a).bind λe=>(zci n d e).bind λb=>if b !=0 then O b else c (ztc a 1)else if Z (t0.length<(t1.length:Int))then O (-1)else O 0
def zq (n:Nat)(t0:List Int)(t1:List Int):=ztg (zq.l1 n t0 t1) n 0
def za4.l2 (n:Nat)(t0:List Int)(e:Int)(f:Table)(d:List Int×Int×Int->Option (Int×List Int×Bool))(s:List Int×Int×Int):=let a:=s.2.2;if Z (0<=a)then(idx f.ztd a).bind λg=>(idx t0 g).bind λb=>(zuo s.2.1 b).bind λh=>(zul s.2.1 b).bind λi=>(idx s.1 a).bind λj=>(sto s.1 a h).bind λc=>d (c,i,ztn a 1)else O (e,s.1,U)
def za4.l1 (n:Nat)(t0:List Int)(t1:List Table)(t2:Bool)(t3:Int)(e:Int->Option (Int×List Int×Bool))(b:Int):=if Z (b<t1.length)then(idx t1 b).bind λa=>(zb3 n a).bind λc=>grd (c !=t2||ztn t3 a.first<0||(zba n t0 a.ztd).isSome)<|if c !=t2||ztn t3 a.first<0||(zba n t0 a.ztd).getD J<=ztn t3 a.first then e (ztc b 1)else(mkl 8 a.ztd.length 0).bind λd=>ztg (za4.l2 n t0 b a) n (d,ztn t3 a.first,ztn d.length 1)else O (0,[],M)
def za4 (n:Nat)(t0:List Int)(t1:List Table)(t2:Bool)(t3:Int):=(zbJ n t0 t1).bind λa=>if !a||t3<0 then O (0,[],M)else ztg (za4.l1 n t0 t1 t2 t3) n 0
def zbZ (n:Nat)(t0:zt3)(t1:zuJ):=(za4 n t0.model.ztj t0.model.tables M t1.cell).bind λc=>if !c.2.2 then O M else(idx t0.model.tables c.1).bind λa=>jn (λv=>let d:=v;if d then O ((t1.kind==0||t1.kind==1)&&t1.value==0)else O (t1.kind==2&&a.range.lo<=t1.value&&t1.value<=a.range.hi)) λb=>if a.kind==2 then b (a.kind==2)else b (a.kind==3)
def zbD (n:Nat)(t0:Row)(t1:zt3):=(zaJ n t1 t0).bind λa=>O (!a)
def zm.l1 (n:Nat)(t0:List Row)(t1:Row->Option Bool)(b:Int->Option Int)(a:Int):=if Z (a<t0.length)then(idx t0 a).bind λc=>(t1 c).bind λd=>if d then O a else b (ztc a 1)else O (-1)
def zm (n:Nat)(t0:List Row)(t1:Row->Option Bool):=ztg (zm.l1 n t0 t1) n 0
def zn (n:Nat)(t0:List Row)(t1:Row->Option Bool):Option Bool:=(zm n t0 t1).bind λa=>O (0<=a)
def zS.l2 (n:Nat)(t0:zt3)(t1:ztE)(b:Int×Int->Option Bool)(s:Int×Int):=if Z (s.2<t1.ztm.length)then(idx t1.ztm s.2).bind λa=>grd (a.cell<=s.1||(zbZ n t0 a).isSome)<|if a.cell<=s.1||!(zbZ n t0 a).getD J then O M else b (a.cell,ztc s.2 1)else grd (!((t1.hold.length:Int)<=8&&(t1.ztm.length:Int)<=32)||(zn n t1.hold λq0=>zbD n q0 t0).isSome)<|O ((t1.hold.length:Int)<=8&&(t1.ztm.length:Int)<=32&&!(zn n t1.hold λq0=>zbD n q0 t0).getD J)
def zS.l1 (n:Nat)(t0:zt3)(t1:ztE)(b:Int×Int->Option Bool)(s:Int×Int):=if Z (s.2<t1.delta.length)then(idx t1.delta s.2).bind λa=>grd (a.cell<=s.1||t0.strict.length<=a.cell||a.add==0||(za5 n a.add 1000000000).isSome)<|if a.cell<=s.1||t0.strict.length<=a.cell||a.add==0||!(za5 n a.add 1000000000).getD J then O M else b (a.cell,ztc s.2 1)else ztg (zS.l2 n t0 t1) n (-1,0)
def zS (n:Nat)(t0:zt3)(t1:ztE):=ztg (zS.l1 n t0 t1) n (-1,0)
def zK.l2 (n:Nat)(t0:zt3)(f:Int)(j:Int->Option Bool)(b:Action)(h:ztQ)(i:Int->Option Bool)(e:Int):=if Z (e<h.ztj.length)then(idx h.ztj e).bind λa=>(idx b.arguments e).bind λc=>grd (! a<0||(za5 n c 9999).isSome)<|grd (a<0&&!(za5 n c 9999).getD J||(! 0<=a||(idx t0.model.ztj a).isSome))<|grd (a<0&&!(za5 n c 9999).getD J||(! 0<=a||(zaC n c ((idx t0.model.ztj a).getD J)).isSome))<|if a<0&&!(za5 n c 9999).getD J||0<=a&&!(zaC n c ((idx t0.model.ztj a).getD J)).getD J then O M else i (ztc e 1)else jn (λv=>(zS n t0 b.effect).bind λk=>if !k then O M else j (ztc f 1)) λg=>if Z (0<f)then(idx t0.model.zte (ztn f 1)).bind λd=>grd (b.operation<d.operation||(! d.operation==b.operation||(zq n d.arguments b.arguments).isSome))<|if b.operation<d.operation||d.operation==b.operation&&0<=(zq n d.arguments b.arguments).getD J then O M else g ()else g ()
def zK.l1 (n:Nat)(t0:zt3)(d:Int->Option Bool)(b:Int):=if Z (b<t0.model.zte.length)then(idx t0.model.zte b).bind λa=>(zaC n a.operation t0.model.zth.length).bind λc=>grd (!c||(idx t0.model.zth a.operation).isSome)<|if !c||a.arguments.length !=((((idx t0.model.zth a.operation).getD J).ztj).length:Int)then O M else(idx t0.model.zth a.operation).bind λe=>ztg (zK.l2 n t0 b d a e) n 0 else O U
def zK (n:Nat)(t0:zt3):=if Z (256<(t0.model.zte.length:Int))then O M else ztg (zK.l1 n t0) n 0
def zc6 (n:Nat)(t0:Hide)(t1:Int)(t2:GMap Int Bool):=O (t0.table==t1&&(t2.get? t0.to).getD M)
def zF.l1 (n:Nat)(t0:List Hide)(t1:Hide->Option Bool)(b:Int->Option Int)(a:Int):=if Z (a<t0.length)then(idx t0 a).bind λc=>(t1 c).bind λd=>if d then O a else b (ztc a 1)else O (-1)
def zF (n:Nat)(t0:List Hide)(t1:Hide->Option Bool):=ztg (zF.l1 n t0 t1) n 0
def zaz (n:Nat)(t0:List Hide)(t1:Hide->Option Bool):Option Bool:=(zF n t0 t1).bind λa=>O (0<=a)
def zh.l4 (n:Nat)(t0:zt3)(c:GMap Int Bool)(e:Int)(d:GMap Int Bool×Int->Option Bool)(b:GMap Int Bool×List Nat×Nat->Option Bool)(s:GMap Int Bool×List Nat×Nat):=stepM s.1 s.2.1 c.clock s.2.2 (d (s.1,ztc e 1)) λa=>grd (s.1.es.map (·.1)).Nodup<|(zaz n t0.model.zts λq0=>zc6 n q0 a.2.1 s.1).bind λf=>if !f then b (s.1.del a.2.1,s.2.1++[a.1],s.1.clock)else b (s.1,s.2.1++[a.1],s.1.clock)
def zh.l3 (n:Nat)(t0:zt3)(a:GMap Int Bool×Int->Option Bool)(s:GMap Int Bool×Int):=if Z (s.2<t0.model.zts.length)then ztg (zh.l4 n t0 s.1 s.2 a) n (s.1,[],s.1.clock)else O ((s.1.es.length:Int)==0)
def zh.l2 (n:Nat)(t0:zt3)(a:GMap Int Bool×Int->Option Bool)(s:GMap Int Bool×Int):=if Z (s.2<t0.model.zts.length)then(idx t0.model.zts s.2).bind λb=>a (s.1.put b.table U,ztc s.2 1)else ztg (zh.l3 n t0) n (s.1,0)
def zh.l1 (n:Nat)(t0:zt3)(f:Int->Option Bool)(d:Int):=if Z (d<t0.model.zts.length)then(idx t0.model.zts d).bind λa=>(zaC n a.table t0.model.tables.length).bind λe=>grd (!e||(zaC n a.to t0.model.tables.length).isSome)<|if !e||!(zaC n a.to t0.model.tables.length).getD J||a.table==a.to then O M else(idx t0.model.tables a.table).bind λb=>(idx t0.model.tables a.to).bind λc=>grd (b.kind !=0||c.kind !=0||(zaC n a.column b.ztd.length).isSome)<|grd (b.kind !=0||c.kind !=0||!(zaC n a.column b.ztd.length).getD J||(c.ztd.length:Int)!=1||(idx c.ztd 0).isSome)<|grd (b.kind !=0||c.kind !=0||!(zaC n a.column b.ztd.length).getD J||(c.ztd.length:Int)!=1||(idx b.ztd a.column).isSome)<|if b.kind !=0||c.kind !=0||!(zaC n a.column b.ztd.length).getD J||(c.ztd.length:Int)!=1||(idx c.ztd 0).getD J !=(idx b.ztd a.column).getD J then O M else f (ztc d 1)else ztg (zh.l2 n t0) n (wj,0)
def zh (n:Nat)(t0:zt3):=if Z (12<(t0.model.zts.length:Int))then O M else ztg (zh.l1 n t0) n 0
def zey (n:Nat)(t0:Model):=(zbJ n t0.ztj t0.tables).bind λc=>grd (!c||24<(t0.ztq.length:Int)||(zaM n t0.ztq).isSome)<|if !c||24<(t0.ztq.length:Int)||!(zaM n t0.ztq).getD J then O M else(zbG n t0.ztj t0.tables U).bind λa=>(zac n ⟨t0,a⟩).bind λb=>grd (!b||(zO n ⟨t0,a⟩).isSome)<|grd (!(b&&(zO n ⟨t0,a⟩).getD J)||(zK n ⟨t0,a⟩).isSome)<|grd (!(b&&(zO n ⟨t0,a⟩).getD J&&(zK n ⟨t0,a⟩).getD J)||(zh n ⟨t0,a⟩).isSome)<|O (b&&(zO n ⟨t0,a⟩).getD J&&(zK n ⟨t0,a⟩).getD J&&(zh n ⟨t0,a⟩).getD J)
def zo.l5 (n:Nat)(a:Int)(g:List Place×List Place×Int->Option (Option zuE×Bool))(i:Table)(d:List (List Int))(h:List Place×List Place×Int->Option (Option zuE×Bool))(s:List Place×List Place×Int):=if Z (s.2.2<d.length)then jn (λv=>let e:=v.1;let f:=v.2;h (e,f,ztc s.2.2 1)) λb=>(idx d s.2.2).bind λc=>if Z (i.kind<=1)then(app 32 s.1 [⟨a,c⟩]).bind λj=>b (j,s.2.1)else(app 32 s.2.1 [⟨a,c⟩]).bind λk=>b (s.1,k)else g (s.1,s.2.1,ztc a 1)
def zo.l4 (n:Nat)(c:Int)(a:List (List Int)×Int->Option (Option zuE×Bool))(d:List Int)(e:Int)(b:List (List Int)×Int->Option (Option zuE×Bool))(s:List (List Int)×Int):=if Z (s.2<e)then(app 8 [] d).bind λf=>(app 8 f [s.2]).bind λg=>(app 24 s.1 [g]).bind λh=>b (h,ztc s.2 1)else a (s.1,ztc c 1)
def zo.l3 (n:Nat)(t0:Model)(a:List (List Int))(d:Int)(b:List (List Int)×Int->Option (Option zuE×Bool))(e:Int)(c:List (List Int)×Int->Option (Option zuE×Bool))(s:List (List Int)×Int):=if Z (s.2<a.length)then(idx a s.2).bind λf=>(idx t0.ztj e).bind λg=>ztg (zo.l4 n s.2 c f g) n (s.1,0)else b (s.1,ztc d 1)
def zo.l2 (n:Nat)(t0:Model)(b:List Place)(c:List Place)(f:Int)(d:List Place×List Place×Int->Option (Option zuE×Bool))(a:Table)(e:List (List Int)×Int->Option (Option zuE×Bool))(s:List (List Int)×Int):=if Z (s.2<a.ztd.length)then(idx a.ztd s.2).bind λg=>ztg (zo.l3 n t0 s.1 s.2 e g) n ([],0)else ztg (zo.l5 n f d a s.1) n (b,c,0)
def zo.l1 (n:Nat)(t0:Model)(a:List Place×List Place×Int->Option (Option zuE×Bool))(s:List Place×List Place×Int):=if Z (s.2.2<t0.tables.length)then(idx t0.tables s.2.2).bind λb=>ztg (zo.l2 n t0 s.1 s.2.1 s.2.2 a b) n ([[]],0)else O (O ⟨t0,s.1,s.2.1⟩,U)
def zo (n:Nat)(t0:Model):=(zey n t0).bind λa=>if !a then O (Y,M)else ztg (zo.l1 n t0) n ([],[],0)
def zbx (n:Nat)(t0:zuE)(t1:Question):=if t1.e<0||t1.f<0||t0.m.zte.length<=t1.e||t0.m.zte.length<=t1.f||t1.target.index<0 then O M else if t1.target.hold then(idx t0.m.zte t1.e).bind λa=>O (t1.target.index<a.effect.hold.length)else O (t1.e<=t1.f&&t1.target.index<t0.m.constraints.length)
def zda (n:Nat)(t0:Model)(t1:Question):=(zo n t0).bind λa=>grd (!a.2||a.1.isSome)<|grd (!a.2||(zbx n (a.1.getD J) t1).isSome)<|O (a.2&&(zbx n (a.1.getD J) t1).getD J)
def zgp (n:Nat)(t0:Model)(t1:Bool):=(zey n t0).bind λb=>if !b then O []else(zbG n t0.ztj t0.tables t1).bind λa=>O a
def zeR (n:Nat)(t0:Model):=(zgp n t0 U).bind λa=>O a
def zR.l1 (n:Nat)(t0:Action)(t1:Int)(c:Int->Option Int)(a:Int):=if Z (a<t0.effect.delta.length)then(idx t0.effect.delta a).bind λb=>if b.cell==t1 then O b.add else c (ztc a 1)else O 0
def zR (n:Nat)(t0:Action)(t1:Int):=ztg (zR.l1 n t0 t1) n 0
def zJ.l1 (n:Nat)(t0:Action)(t1:Row)(b:Int×Int->Option Int)(s:Int×Int):=if Z (s.2<t1.ztf.length)then(idx t1.ztf s.2).bind λa=>(zR n t0 a.cell).bind λc=>b (ztc s.1 (zto a.ztl c),ztc s.2 1)else O s.1
def zJ (n:Nat)(t0:Action)(t1:Row):=ztg (zJ.l1 n t0 t1) n (0,0)
def zat.l1 (n:Nat)(t0:List Int)(t1:Int)(b:Int->Option Int)(a:Int):=if Z (a<t0.length)then(idx t0 a).bind λc=>if t1==c then O a else b (ztc a 1)else O (-1)
def zat (n:Nat)(t0:List Int)(t1:Int):=ztg (zat.l1 n t0 t1) n 0
def zaH (n:Nat)(t0:List Int)(t1:Int):Option Bool:=(zat n t0 t1).bind λa=>O (0<=a)
def zd6 (n:Nat)(t0:Int)(t1:Int):=O (ztn t0 t1)
def zV.l1 (n:Nat)(t0:Row)(t1:Int->Option Int)(c:Int)(b:List Term×Int->Option Row)(s:List Term×Int):=if Z (s.2<t0.ztf.length)then(idx t0.ztf s.2).bind λa=>(t1 a.ztl).bind λd=>(app 16 s.1 [⟨a.cell,d⟩]).bind λe=>b (e,ztc s.2 1)else O ⟨s.1,c⟩
def zV (n:Nat)(t0:Row)(t1:Int->Option Int)(t2:Int->Option Int):=(t2 t0.bound).bind λa=>ztg (zV.l1 n t0 t1 a) n ([],0)
def zbn (n:Nat)(t0:Int):=O t0
def zap (n:Nat)(t0:Int)(t1:Int):=O (ztn (ztc (ztU t0) t1) 1)
def zaP (n:Nat)(t0:Int):=O (ztU t0)
def zI.l1 (n:Nat)(t0:Constraint)(t1:Int->Option Int)(a:List Int×Int->Option ztv)(s:List Int×Int):=if Z (s.2<zto t0.size t0.size)then(t1 (ztc t0.first s.2)).bind λb=>(app 8 s.1 [ztn 1 b]).bind λc=>a (c,ztc s.2 1)else O ⟨t0.first,t0.size,s.1⟩
def zI (n:Nat)(t0:Constraint)(t1:Int->Option Int):=ztg (zI.l1 n t0 t1) n ([],0)
def zaW (n:Nat)(t0:Int):Option Int:=O 0
def zD.l1 (n:Nat)(t0:Action)(t1:Constraint)(c:List Int×Int->Option (List Int))(s:List Int×Int):=if Z (s.2<zto t1.size t1.size)then jn (λv=>let b:=v;c (b,ztc s.2 1)) λa=>(zR n t0 (ztc t1.first s.2)).bind λd=>if Z (0<d)then(app 8 s.1 [s.2]).bind λe=>a e else a s.1 else O s.1
def zD (n:Nat)(t0:Action)(t1:Constraint):=ztg (zD.l1 n t0 t1) n ([],0)
def zQ (n:Nat)(t0:Int)(t1:Action):=(zR n t1 t0).bind λa=>O a
def zag (n:Nat)(t0:Int)(t1:Action):=(zR n t1 t0).bind λa=>O a
def zaO (n:Nat)(t0:Int)(t1:Action)(t2:Constraint)(t3:Action):=(zR n t1 (ztc t2.first t0)).bind λa=>(zR n t3 (ztc t2.first t0)).bind λb=>O (ztc a b)
def zbW (n:Nat)(t0:Int)(t1:List Bool):Option (zud×Bool):=O (⟨t0,t1⟩,1<=t0&&t0<=6&&t1.length==zto t0 t0)
def zaQ (n:Nat)(t0:zud)(t1:Int)(t2:Int):=(idx t0.ztr (ztc (zto t1 t0.size) t2)).bind λa=>O a
def zcW.l1 (n:Nat)(t0:List Int)(c:Int->Option Int)(a:Int):=if Z (a<t0.length)then(idx t0 a).bind λb=>if b !=0 then O b else c (ztc a 1)else O 0
def zcW (n:Nat)(t0:List Int):=ztg (zcW.l1 n t0) n 0
def zcj (n:Nat)(t0:List Int)(t1:List Int):=(zci n t0.length t1.length).bind λc=>(zq n t0 t1).bind λa=>(zcW n [c,a]).bind λb=>O b
def zE.l1 (n:Nat)(g:zud)(v:List Int->List (List Int)->Option (List (List Int)))(l:List Int)(last:Int)(rec:Int×List (List Int)->Option (List (List Int)))(s:Int×List (List Int)):=if Z (s.1<g.size)then(zaQ n g last s.1).bind λe=>if e then(zaH n l s.1).bind λf=>if f=U then rec (ztc s.1 1,s.2)else(app 8 [] l).bind λc=>(app 8 c [s.1]).bind λl2=>(v l2 s.2).bind λout=>rec (ztc s.1 1,out)else rec (ztc s.1 1,s.2)else O s.2
def zE (n:Nat)(g:zud):Nat->List Int->List (List Int)->Option (List (List Int))|0,_,_=>Y|k+1,l,out=>(idx l (ztn l.length 1)).bind λlast=>(idx l 0).bind λfirst=>(zaQ n g last first).bind λe=>if e then(app 8 [] l).bind λc=>(app 24 out [c]).bind λout=>ztg (zE.l1 n g (zE n g k) l last) n (ztc first 1,out)else ztg (zE.l1 n g (zE n g k) l last) n (ztc first 1,out)
def ztI.l1 (n:Nat)(g:zud)(rec:Int×List (List Int)->Option (List (List Int)))(s:Int×List (List Int)):=if Z (s.1<g.size)then(zE n g n [s.1] s.2).bind λout=>rec (ztc s.1 1,out)else O s.2
def zbo (n:Nat)(t0:Int)(t1:List Bool):=(zbW n t0 t1).bind λo=>if(!o.2)=U then O []else(ztg (ztI.l1 n o.1) n (0,[])).bind λout=>zw1 (zcj n) out
def zk.l3 (n:Nat)(t1:Constraint)(t2:Action)(t3:Action)(f:List (List Row))(g:List (List Row)->Option (List (List Row)))(c:List Int)(h:List Row×Bool×Bool×Int->Option (List (List Row)))(s:List Row×Bool×Bool×Int):=let e:=s.2.2.1;let d:=s.2.2.2;if Z (d<c.length)then(idx c d).bind λa=>(zuo (ztc d 1) c.length).bind λl=>(idx c l).bind λb=>grd (s.2.1||(zR n t2 (ztc t1.first (ztc (zto a t1.size) b))).isSome)<|grd (e||(zR n t3 (ztc t1.first (ztc (zto a t1.size) b))).isSome)<|(zaO n (ztc (zto a t1.size) b) t2 t1 t3).bind λi=>(app 32 s.1 [⟨[⟨ztc t1.first (ztc (zto a t1.size) b),-1⟩],ztn i 1⟩]).bind λj=>h (j,s.2.1||0<(zR n t2 (ztc t1.first (ztc (zto a t1.size) b))).getD J,e||0<(zR n t3 (ztc t1.first (ztc (zto a t1.size) b))).getD J,ztc d 1)else if s.2.1&&e then(app 24 f [s.1]).bind λk=>g k else g f
def zk.l2 (n:Nat)(t1:Constraint)(t2:Action)(t3:Action)(a:List (List Int))(d:List (List Row)×Int->Option (List (List Row)))(s:List (List Row)×Int):=if Z (s.2<a.length)then jn (λv=>let b:=v;d (b,ztc s.2 1)) λc=>(idx a s.2).bind λe=>ztg (zk.l3 n t1 t2 t3 s.1 c e) n ([],M,M,0)else O s.1
def zk.l1 (n:Nat)(t0:List Range)(t1:Constraint)(t2:Action)(t3:Action)(c:List Bool)(b:List Bool×Int->Option (List (List Row)))(s:List Bool×Int):=if Z (s.2<c.length)then(idx t0 (ztc t1.first s.2)).bind λd=>(zaO n s.2 t2 t1 t3).bind λe=>(idx s.1 s.2).bind λg=>(sto s.1 s.2 (1<=ztc d.hi e)).bind λa=>b (a,ztc s.2 1)else(zbo n t1.size s.1).bind λf=>ztg (zk.l2 n t1 t2 t3 f) n ([],0)
def zk (n:Nat)(t0:List Range)(t1:Constraint)(t2:Action)(t3:Action):=(mkl 1 (zto t1.size t1.size) M).bind λa=>ztg (zk.l1 n t0 t1 t2 t3 a) n (a,0)
def zaI.l1 (n:Nat)(t0:List Range)(c:Int->Option Bool)(b:Int):=if Z (b<t0.length)then(idx t0 b).bind λa=>if a.lo<(-1000000)||1000000<a.lo||a.hi<(-1000000)||1000000<a.hi then O M else c (ztc b 1)else O ((t0.length:Int)<=128)
def zaI (n:Nat)(t0:List Range):=ztg (zaI.l1 n t0) n 0
def zaF.l1 (n:Nat)(t0:Int)(t1:Row)(b:Int×Int->Option Bool)(s:Int×Int):=if Z (s.2<t1.ztf.length)then(idx t1.ztf s.2).bind λa=>if a.cell<=s.1||t0<=a.cell||a.ztl==0||a.ztl<(-1000)||1000<a.ztl then O M else b (a.cell,ztc s.2 1)else O (-1000000000<=t1.bound&&t1.bound<=1000000000)
def zaF (n:Nat)(t0:Int)(t1:Row):=ztg (zaF.l1 n t0 t1) n (-1,0)
def zbB (n:Nat)(t0:Row)(t1:List Range):=(zaF n t1.length t0).bind λa=>O (!a)
def za9 (n:Nat)(t0:List Range)(t1:List Row):=(zaI n t0).bind λa=>grd (!a||(zn n t1 λq0=>zbB n q0 t0).isSome)<|O (a&&!(zn n t1 λq0=>zbB n q0 t0).getD J)
def zi.l1 (n:Nat)(t0:List Range)(t1:Range->Option Bool)(b:Int->Option Int)(a:Int):=if Z (a<t0.length)then(idx t0 a).bind λc=>(t1 c).bind λd=>if d then O a else b (ztc a 1)else O (-1)
def zi (n:Nat)(t0:List Range)(t1:Range->Option Bool):=ztg (zi.l1 n t0 t1) n 0
def zar (n:Nat)(t0:List Range)(t1:Range->Option Bool):Option Bool:=(zi n t0 t1).bind λa=>O (0<=a)
def zc8 (n:Nat)(t0:Range):Option Bool:=O (t0.hi<t0.lo)
def zb4 (n:Nat)(t0:List Range):=(zar n t0 λq0=>zc8 n q0).bind λa=>O a
def zdN (n:Nat)(t0:System)(t1:List Row)(t2:Int):=grd (! t1.length<=t2||(za9 n t0.box t1).isSome)<|O (t1.length<=t2&&(za9 n t0.box t1).getD J)
def zfd (n:Nat)(t0:Int):=O (t0<(-4000000)||4000000<t0)
def ze0 (n:Nat)(t0:Int)(t1:ztv):=if t1.size<1||6<t1.size||t1.first<0||ztn t0 (zto t1.size t1.size)<t1.first||t1.least.length !=zto t1.size t1.size then O M else(zt n t1.least λq0=>zfd n q0).bind λa=>O (!a)
def zfc (n:Nat)(t0:List Row)(t1:System):=(zdN n t1 t0 64).bind λa=>O (!a)
def zZ.l1 (n:Nat)(t0:List (List Row))(t1:List Row->Option Bool)(b:Int->Option Int)(a:Int):=if Z (a<t0.length)then(idx t0 a).bind λc=>(t1 c).bind λd=>if d then O a else b (ztc a 1)else O (-1)
def zZ (n:Nat)(t0:List (List Row))(t1:List Row->Option Bool):=ztg (zZ.l1 n t0 t1) n 0
def zaZ (n:Nat)(t0:List (List Row))(t1:List Row->Option Bool):Option Bool:=(zZ n t0 t1).bind λa=>O (0<=a)
def zal.l1 (n:Nat)(t0:System)(b:Int->Option Bool)(a:Int):=if Z (a<t0.zti.length)then(idx t0.zti a).bind λc=>(ze0 n t0.box.length c).bind λd=>if !d then O M else b (ztc a 1)else(zaZ n t0.cases λq0=>zfc n q0 t0).bind λe=>O (!e)
def zal (n:Nat)(t0:System):=(za9 n t0.box []).bind λa=>grd (!a||(zb4 n t0.box).isSome)<|grd (!a||(zb4 n t0.box).getD J||(zdN n t0 t0.rows 1024).isSome)<|if !a||(zb4 n t0.box).getD J||!(zdN n t0 t0.rows 1024).getD J||64<(t0.zti.length:Int)||1024<(t0.cases.length:Int)then O M else ztg (zal.l1 n t0) n 0
def zf.l4 (n:Nat)(t0:Model)(t1:Question)(i:Action)(b:Action)(j:List Range)(c:List Row)(o:Int)(t:Int)(u:List Term)(w:Int)(x:Int)(y:Int)(z:List ztv×Int->Option (System×Int))(s:List ztv×Int):=if Z (s.2<t0.constraints.length)then jn (λv=>let r:=v;z (r,ztc s.2 1)) λd=>(idx t0.constraints s.2).bind λa=>if a.kind !=1 then d s.1 else(zI n a λq0=>zaW n q0).bind λA=>(app 40 s.1 [A]).bind λq=>jn (λv=>let l:=v;grd (! t1.e !=t1.f||(zD n b a).isSome)<|if t1.e !=t1.f&&0<(((zD n b a).getD J).length:Int)then(zI n a λq0=>zag n q0 b).bind λE=>(app 40 l [E]).bind λF=>d F else d l) λp=>(zD n i a).bind λB=>if Z (0<(B.length:Int))then(zI n a λq0=>zQ n q0 i).bind λC=>(app 40 q [C]).bind λD=>p D else p q else jn (λv=>let k:=v.1;let m:=v.2;(zal n ⟨j,k,s.1,m⟩).bind λH=>if !H then O (⟨[],[],[],[]⟩,8)else O (⟨j,k,s.1,m⟩,0)) λg=>if o==1 then(zk n j ⟨o,t,⟨u,w⟩,x,y⟩ i b).bind λh=>if(h.length:Int)==0 then(app 32 c [⟨[],-1⟩]).bind λG=>g (G,h)else g (c,h)else g (c,[])
def zf.l3 (n:Nat)(t0:Model)(t1:Question)(c:Action)(d:Action)(z:List Range)(e:List Row)(o:List Row×Int->Option (System×Int))(s:List Row×Int):=if Z (s.2<e.length)then(idx e s.2).bind λr=>(zV n r (λq0=>zbn n q0) λq0=>zbn n q0).bind λt=>(app 32 s.1 [t]).bind λu=>o (u,ztc s.2 1)else jn (λv=>let g:=v.1;let h:=v.2.1;let i:=v.2.2.1;let j:=v.2.2.2.1;let k:=v.2.2.2.2.1;let l:=v.2.2.2.2.2.1;let m:=v.2.2.2.2.2.2;ztg (zf.l4 n t0 t1 c d z g h i j k l m) n ([],0)) λb=>if t1.target.hold then(idx c.effect.hold t1.target.index).bind λf=>(zJ n d f).bind λw=>(zV n f (λq0=>zaP n q0) λq0=>zap n q0 w).bind λA=>(app 32 s.1 [A]).bind λq=>b (q,0,0,[],0,0,0)else(idx t0.constraints t1.target.index).bind λa=>if a.kind==0 then(zJ n c a.row).bind λx=>(zJ n d a.row).bind λy=>(zV n a.row (λq0=>zaP n q0) λq0=>zap n q0 (ztc x y)).bind λB=>(app 32 s.1 [B]).bind λp=>b (p,a.kind,a.family,a.row.ztf,a.row.bound,a.first,a.size)else b (s.1,a.kind,a.family,a.row.ztf,a.row.bound,a.first,a.size)
def zf.l2 (n:Nat)(t0:Model)(t1:Question)(t2:List Int)(b:Action)(c:Action)(u:List Range)(o:List Row×Int->Option (System×Int))(s:List Row×Int):=if Z (s.2<t0.constraints.length)then jn (λv=>let l:=v;o (l,ztc s.2 1)) λh=>(idx t0.constraints s.2).bind λa=>if a.kind !=0 then h s.1 else(zJ n b a.row).bind λd=>(zJ n c a.row).bind λg=>jn (λv=>let t:=v;(zV n a.row (λq0=>zbn n q0) λq0=>zd6 n q0 t).bind λp=>(app 32 s.1 [p]).bind λq=>h q) λi=>(zaH n t2 s.2).bind λw=>if w&&(t1.target.hold||t1.target.index !=s.2)then i (gmax (gmax (gmax 0 d) g) (ztc d g))else i (gmax (gmax 0 d) g)else(app 32 [] b.effect.hold).bind λk=>jn (λv=>let m:=v;ztg (zf.l3 n t0 t1 b c u m) n (s.1,0)) λj=>if t1.e !=t1.f then(app 32 k c.effect.hold).bind λr=>j r else j k
def zf.l1 (n:Nat)(t0:Model)(t1:Question)(t2:List Int)(c:Int->Option (System×Int))(b:Int):=if Z (b<t2.length)then(idx t2 b).bind λa=>grd (a<0||t0.constraints.length<=a||(idx t0.constraints a).isSome)<|if a<0||t0.constraints.length<=a||((idx t0.constraints a).getD J).kind !=0 then O (⟨[],[],[],[]⟩,2)else c (ztc b 1)else(idx t0.zte t1.e).bind λd=>(idx t0.zte t1.f).bind λg=>(zeR n t0).bind λh=>ztg (zf.l2 n t0 t1 t2 d g h) n ([],0)
def zf (n:Nat)(t0:Model)(t1:Question)(t2:List Int):=(zda n t0 t1).bind λa=>if !a then O (⟨[],[],[],[]⟩,1)else ztg (zf.l1 n t0 t1 t2) n 0
def zbY (n:Nat)(t0:Term)(t1:Int):=O (t0.cell==t1)
def zG.l1 (n:Nat)(t0:List Term)(t1:Term->Option Bool)(b:Int->Option Int)(a:Int):=if Z (a<t0.length)then(idx t0 a).bind λc=>(t1 c).bind λd=>if d then O a else b (ztc a 1)else O (-1)
def zG (n:Nat)(t0:List Term)(t1:Term->Option Bool):=ztg (zG.l1 n t0 t1) n 0
def zbp.l1 (n:Nat)(t0:Row)(t1:List Range)(t2:Int)(t3:Int)(d:Int×Int->Option Int)(s:Int×Int):=if Z (s.2<t0.ztf.length)then jn (λv=>let e:=v;d (e,ztc s.2 1)) λb=>(idx t0.ztf s.2).bind λa=>(idx t1 a.cell).bind λc=>if a.cell==t2 then b s.1 else if Z (0<zto a.ztl t3)then b (ztc s.1 (zto a.ztl c.lo))else b (ztc s.1 (zto a.ztl c.hi))else O s.1
def zbp (n:Nat)(t0:Row)(t1:List Range)(t2:Int)(t3:Int):=ztg (zbp.l1 n t0 t1 t2 t3) n (0,0)
def zcC (n:Nat)(t0:Int)(t1:Int):=(zul t0 t1).bind λb=>jn (λv=>let d:=v;O d) λa=>(zuo t0 t1).bind λc=>if c !=0&&(t0<0)!=(t1<0)then a (ztn b 1)else a b
def zdd (n:Nat)(t0:Row)(t1:List Range)(t2:Int):=(idx t1 t2).bind λa=>(zG n t0.ztf λq0=>zbY n q0 t2).bind λf=>if Z (f<0)then O a else(idx t0.ztf f).bind λb=>(zbp n t0 t1 t2 1).bind λg=>jn (λv=>let c:=v.1;let d:=v.2;(zc8 n ⟨c,d⟩).bind λj=>if j then O ⟨1,0⟩else O ⟨c,d⟩) λe=>if Z (0<b.ztl)then(zcC n (ztn t0.bound g) b.ztl).bind λh=>e (a.lo,gmin a.hi h)else(zcC n (ztn t0.bound g) (ztU b.ztl)).bind λi=>e (gmax a.lo (ztU i),a.hi)
def zcy (n:Nat)(t0:Row)(t1:List Range)(t2:Int):=(za9 n t1 [t0]).bind λa=>if !a||t2<0||t1.length<=t2 then O ⟨0,0⟩else(zdd n t0 t1 t2).bind λb=>O b
def zN.l2 (n:Nat)(t0:zud)(i:List Bool×List (List Int)×Nat->Option (List Int))(l:List Int)(m:Int)(j:List Bool×List (List Int)×Nat×Int->Option (List Int))(s:List Bool×List (List Int)×Nat×Int):=let b:=s.2.2.1;let a:=s.2.2.2;if Z (a<t0.size)then jn (λv=>let e:=v.1;let g:=v.2.1;let h:=v.2.2;j (e,g,h,ztc a 1)) λc=>(zaQ n t0 m a).bind λd=>grd (!d||(idx s.1 a).isSome)<|if d&&!(idx s.1 a).getD J then(idx s.1 a).bind λr=>(sto s.1 a U).bind λf=>(app 8 [] l).bind λo=>(app 8 o [a]).bind λp=>(app 24 s.2.1 [p]).bind λq=>c (f,q,b+1)else c (s.1,s.2.1,b)else(cut s.2.1 1 s.2.1.length).bind λk=>i (s.1,k,b+1)
def zN.l1 (n:Nat)(t0:zud)(t2:Int)(c:List Bool×List (List Int)×Nat->Option (List Int))(s:List Bool×List (List Int)×Nat):=if Z (0<(s.2.1.length:Int))then(idx s.2.1 0).bind λa=>(idx a (ztn a.length 1)).bind λb=>if b==t2 then O a else ztg (zN.l2 n t0 c a b) n (s.1,s.2.1,s.2.2,0)else O []
def zN (n:Nat)(t0:zud)(t1:Int)(t2:Int):=(mkl 1 t0.size M).bind λa=>(idx a t1).bind λc=>(sto a t1 U).bind λb=>ztg (zN.l1 n t0 t2) n (b,[[t1]],0)
def zdU (n:Nat)(t0:Int)(t1:List Bool)(t2:Int)(t3:Int):=(zbW n t0 t1).bind λa=>if !a.2||t2<0||t0<=t2||t3<0||t0<=t3 then O []else(zN n a.1 t2 t3).bind λb=>O b
def zbr.l1 (n:Nat)(t0:ztv)(t1:List Range)(t2:Int)(b:List Bool×Int->Option Bool)(s:List Bool×Int):=if Z (s.2<t0.least.length)then(idx t0.least s.2).bind λc=>(idx t1 (ztc t0.first s.2)).bind λd=>(idx s.1 s.2).bind λh=>(sto s.1 s.2 (c<=d.lo)).bind λa=>b (a,ztc s.2 1)else(zuo t2 t0.size).bind λe=>(zul t2 t0.size).bind λf=>(zdU n t0.size s.1 e f).bind λg=>O (0<(g.length:Int))
def zbr (n:Nat)(t0:ztv)(t1:List Range)(t2:Int):=(mkl 1 t0.least.length M).bind λa=>ztg (zbr.l1 n t0 t1 t2) n (a,0)
def zg.l2 (n:Nat)(t0:List (List Row))(a:List Row×Int->Option (List Row))(s:List Row×Int):=if Z (s.2<t0.length)then(idx t0 s.2).bind λb=>(app 32 s.1 b).bind λc=>a (c,ztc s.2 1)else O s.1
def zg.l1 (n:Nat)(t0:List (List Row))(b:Int×Int->Option (List Row))(s:Int×Int):=if Z (s.2<t0.length)then(idx t0 s.2).bind λa=>if Z (ztc s.1 a.length<0)then Y else b (ztc s.1 a.length,ztc s.2 1)else grd (0<=s.1/\s.1.toNat*32<=140737488355328)<|ztg (zg.l2 n t0) n ([],0)
def zg (n:Nat)(t0:List (List Row)):=ztg (zg.l1 n t0) n (0,0)
def zbz (n:Nat)(t0:Range):Option Bool:=O (t0.lo<t0.hi)
def zcO (n:Nat)(t0:Range):=(zaI n [t0]).bind λb=>if !b then O 0 else(zcC n (ztc t0.lo t0.hi) 2).bind λa=>O a
def za.l14 (n:Nat)(self:ztJ->List Range->Int->Option (Option (Found×ztJ)))(t1:List Range)(t2:Int)(c:List Range)(q:List Step)(e:Int)(b:Int)(k:Range)(l:Range)(r:List Tree×List Range×List Row×List ztv×List (List Row)×List Row×Int×Int×Int->Option (Option (Found×ztJ)))(s:List Tree×List Range×List Row×List ztv×List (List Row)×List Row×Int×Int×Int):=let f:=s.2.2.2.2.1;let g:=s.2.2.2.2.2.1;let h:=s.2.2.2.2.2.2.1;let i:=s.2.2.2.2.2.2.2.1;let d:=s.2.2.2.2.2.2.2.2;if Z (d<[⟨k.lo,b⟩,(⟨ztc b 1,l.hi⟩:Range)].length)then(idx [⟨k.lo,b⟩,⟨ztc b 1,l.hi⟩] d).bind λt=>(app 16 [] c).bind λm=>(idx m e).bind λx=>(sto m e t).bind λp=>grd (c.length=t1.length)<|(self ⟨⟨s.2.1,s.2.2.1,s.2.2.2.1,f⟩,g,h,i⟩ p t2).bind λu=>pnk u λa=>(app 72 s.1 [⟨0,[],0,0,[]⟩]).bind λj=>(idx j s.1.length).bind λw=>(sto j s.1.length a.1.tree).bind λo=>if !a.1.values.isEmpty then grd (c.length=t1.length)<|O (O (a.1,a.2))else r (o,a.2.s.box,a.2.s.rows,a.2.s.zti,a.2.s.cases,a.2.rows,a.2.ztx,a.2.cost,ztc d 1)else grd (c.length=t1.length)<|O (O (⟨[],0,⟨1,q,e,b,s.1⟩⟩,⟨⟨s.2.1,s.2.2.1,s.2.2.2.1,f⟩,g,h,i⟩))
def za.l13 (n:Nat)(t0:ztJ)(t1:List Range)(t2:Int)(a:List Range)(c:Int)(d:List Int×Int->Option (Option (Found×ztJ)))(s:List Int×Int):=if Z (s.2<a.length)then(idx a s.2).bind λe=>(idx s.1 s.2).bind λf=>(sto s.1 s.2 e.lo).bind λb=>d (b,ztc s.2 1)else grd (!s.1.isEmpty)<|grd (a.length=t1.length)<|O (O (⟨s.1,gmax t2 0,⟨0,[],0,0,[]⟩⟩,⟨t0.s,t0.rows,t0.ztx,c⟩))
def za.l12 (n:Nat)(self:ztJ->List Range->Int->Option (Option (Found×ztJ)))(t0:ztJ)(t1:List Range)(b:List Range)(j:List Step)(k:List Tree×List Range×List Row×List ztv×List (List Row)×List Row×Int×Int×Int->Option (Option (Found×ztJ)))(s:List Tree×List Range×List Row×List ztv×List (List Row)×List Row×Int×Int×Int):=let d:=s.2.2.1;let e:=s.2.2.2.2.1;let f:=s.2.2.2.2.2.2.1;let g:=s.2.2.2.2.2.2.2.1;let c:=s.2.2.2.2.2.2.2.2;if Z (c<t0.s.cases.length)then(idx t0.s.cases c).bind λl=>(zg n [d,l]).bind λm=>(app 16 [] b).bind λo=>grd (b.length=t1.length)<|(self ⟨⟨s.2.1,d,s.2.2.2.1,e⟩,m,f,g⟩ o c).bind λp=>pnk p λa=>(app 72 s.1 [⟨0,[],0,0,[]⟩]).bind λh=>(idx h s.1.length).bind λq=>(sto h s.1.length a.1.tree).bind λi=>if !a.1.values.isEmpty then grd (b.length=t1.length)<|O (O (a.1,a.2))else k (i,a.2.s.box,a.2.s.rows,a.2.s.zti,a.2.s.cases,a.2.rows,a.2.ztx,a.2.cost,ztc c 1)else grd (b.length=t1.length)<|O (O (⟨[],0,⟨2,j,0,0,s.1⟩⟩,⟨⟨s.2.1,d,s.2.2.2.1,e⟩,s.2.2.2.2.2.1,f,g⟩))
def za.l11 (n:Nat)(t0:ztJ)(t1:List Range)(m:List Range)(u:List Range×List Step×Int->Option (Option (Found×ztJ)))(k:Int)(r:List Range×List Step×Int×Bool×Int->Option (Option (Found×ztJ)))(c:ztv)(t:List Range×List Step×Int×Bool×Int->Option (Option (Found×ztJ)))(s:List Range×List Step×Int×Bool×Int):=let a:=s.1;let d:=s.2.2.1;let h:=s.2.2.2.1;let b:=s.2.2.2.2;if Z (b<c.least.length)then jn (λv=>let l:=v.1;let o:=v.2.1;let p:=v.2.2.1;let q:=v.2.2.2;t (l,o,p,q,ztc b 1)) λi=>(idx c.least b).bind λf=>(idx a (ztc c.first b)).bind λg=>grd (g.hi<f||(zbr n c a b).isSome)<|if g.hi<f||!(zbr n c a b).getD J then i (a,s.2.1,d,h)else(idx a (ztc c.first b)).bind λw=>if Z (⟨g.lo,ztn f 1⟩=w)then i (a,s.2.1,d,h)else if d==t0.ztx then grd (a.length=t1.length)<|O Y else(idx a (ztc c.first b)).bind λx=>(sto a (ztc c.first b) ⟨g.lo,ztn f 1⟩).bind λe=>(app 24 s.2.1 [⟨1,k,ztc c.first b⟩]).bind λj=>if Z (ztn f 1<g.lo)then grd (m.length=e.length)<|if U||!true then grd (t1.length=e.length)<|grd (e.length=t1.length)<|O (O (⟨[],0,⟨0,j,0,0,[]⟩⟩,⟨t0.s,t0.rows,t0.ztx,ztc d 1⟩))else u (e,j,ztc d 1)else i (e,j,ztc d 1,U)else r (a,s.2.1,d,h,ztc k 1)
def za.l10 (n:Nat)(self:ztJ->List Range->Int->Option (Option (Found×ztJ)))(t0:ztJ)(t1:List Range)(t2:Int)(e:List Range)(f:List Range×List Step×Int->Option (Option (Found×ztJ)))(g:List Range×List Step×Int×Bool×Int->Option (Option (Found×ztJ)))(s:List Range×List Step×Int×Bool×Int):=let a:=s.1;let b:=s.2.2.1;let d:=s.2.2.2.2;if Z (d<t0.s.zti.length)then(idx t0.s.zti d).bind λl=>ztg (za.l11 n t0 t1 e f d g l) n (a,s.2.1,b,s.2.2.2.1,0)else grd (e.length=a.length)<|if M||!s.2.2.2.1 then grd (t1.length=a.length)<|if 0<(t0.s.cases.length:Int)&&t2<0 then ztg (za.l12 n self t0 t1 a s.2.1) n ([],t0.s.box,t0.s.rows,t0.s.zti,t0.s.cases,t0.rows,t0.ztx,b,0)else(zi n a λq0=>zbz n q0).bind λc=>if Z (c<0)then(mkl 8 a.length 0).bind λm=>ztg (za.l13 n t0 t1 t2 a b) n (m,0)else(idx a c).bind λh=>(zcO n h).bind λi=>(idx a c).bind λj=>(idx a c).bind λk=>ztg (za.l14 n self t1 t2 a s.2.1 c i j k) n ([],t0.s.box,t0.s.rows,t0.s.zti,t0.s.cases,t0.rows,t0.ztx,b,0)else f (a,s.2.1,b)
def za.l9 (n:Nat)(t0:ztJ)(t1:List Range)(j:List Range)(p:List Range×List Step×Int->Option (Option (Found×ztJ)))(i:Int)(q:List Range×List Step×Int×Bool×Int->Option (Option (Found×ztJ)))(e:Row)(r:List Range×List Step×Int×Bool×Int->Option (Option (Found×ztJ)))(s:List Range×List Step×Int×Bool×Int):=let a:=s.2.2.1;let g:=s.2.2.2.2;if Z (g<e.ztf.length)then jn (λv=>let k:=v.1;let l:=v.2.1;let m:=v.2.2.1;let o:=v.2.2.2;r (k,l,m,o,ztc g 1)) λh=>(idx e.ztf g).bind λc=>(zcy n e s.1 c.cell).bind λd=>(idx s.1 c.cell).bind λt=>if Z (d=t)then h (s.1,s.2.1,a,s.2.2.2.1)else if a==t0.ztx then grd (s.1.length=t1.length)<|O Y else(idx s.1 c.cell).bind λu=>(sto s.1 c.cell d).bind λb=>(app 24 s.2.1 [⟨0,i,c.cell⟩]).bind λf=>if Z (d.hi<d.lo)then grd (j.length=b.length)<|if U||!true then grd (t1.length=b.length)<|grd (b.length=t1.length)<|O (O (⟨[],0,⟨0,f,0,0,[]⟩⟩,⟨t0.s,t0.rows,t0.ztx,ztc a 1⟩))else p (b,f,ztc a 1)else h (b,f,ztc a 1,U)else q (s.1,s.2.1,a,s.2.2.2.1,ztc i 1)
def za.l8 (n:Nat)(self:ztJ->List Range->Int->Option (Option (Found×ztJ)))(t0:ztJ)(t1:List Range)(t2:Int)(c:List Range)(d:List Range×List Step×Int->Option (Option (Found×ztJ)))(g:List Range×List Step×Int×Bool×Int->Option (Option (Found×ztJ)))(s:List Range×List Step×Int×Bool×Int):=let a:=s.2.2.1;let b:=s.2.2.2.2;if Z (b<t0.rows.length)then(idx t0.rows b).bind λe=>if(e.ztf.length:Int)==0&&e.bound<0 then if a==t0.ztx then grd (s.1.length=t1.length)<|O Y else(app 24 s.2.1 [⟨0,b,-1⟩]).bind λf=>grd (c.length=s.1.length)<|if U||!true then grd (t1.length=s.1.length)<|grd (s.1.length=t1.length)<|O (O (⟨[],0,⟨0,f,0,0,[]⟩⟩,⟨t0.s,t0.rows,t0.ztx,ztc a 1⟩))else d (s.1,f,ztc a 1)else ztg (za.l9 n t0 t1 c d b g e) n (s.1,s.2.1,a,s.2.2.2.1,0)else ztg (za.l10 n self t0 t1 t2 c d) n (s.1,s.2.1,a,s.2.2.2.1,0)
def za.l7 (n:Nat)(self:ztJ->List Range->Int->Option (Option (Found×ztJ)))(t0:ztJ)(t1:List Range)(t2:Int)(a:List Range×List Step×Int->Option (Option (Found×ztJ)))(s:List Range×List Step×Int):=ztg (za.l8 n self t0 t1 t2 s.1 a) n (s.1,s.2.1,s.2.2,M,0)
def za.body (n:Nat)(self:ztJ->List Range->Int->Option (Option (Found×ztJ)))(t0:ztJ)(t1:List Range)(t2:Int):=if t0.cost==t0.ztx then grd (t1.length=t1.length)<|O Y else ztg (za.l7 n self t0 t1 t2) n (t1,[],ztc t0.cost 1)
def za:Nat->ztJ->List Range->Int->Option (Option (Found×ztJ))|0,_,_,_=>Y|n+1,t0,t1,t2=>za.body n (za n) t0 t1 t2
def zfU (n:Nat)(t0:System)(t1:Int):Option (Answer×Int):=(zal n t0).bind λb=>if !b then O (⟨0,0,[],⟨0,[],0,0,[]⟩,0⟩,1)else if t1<0||65536<t1 then O (⟨0,0,[],⟨0,[],0,0,[]⟩,0⟩,2)else(app 16 [] t0.box).bind λc=>(za n ⟨t0,t0.rows,t1,0⟩ c (-1)).bind λd=>ppk d (O (⟨2,0,[],⟨0,[],0,0,[]⟩,t1⟩,0)) λa=>if !a.1.values.isEmpty then O (⟨0,a.1.index,a.1.values,⟨0,[],0,0,[]⟩,a.2.cost⟩,0)else O (⟨1,0,[],a.1.tree,a.2.cost⟩,0)
def zhW (n:Nat)(t0:Answer):Option ztM:=O ⟨0,t0.values,⟨0,[],0,0,[]⟩,0⟩
def zhX (n:Nat)(t0:Answer):Option ztM:=O ⟨1,[],t0.tree,0⟩
def zhY (n:Nat):Option ztM:=O ⟨2,[],⟨0,[],0,0,[]⟩,0⟩
def zbM (n:Nat)(t0:Model)(t1:Question)(t2:Int)(t3:List Int):Option (ztM×Int):=(zf n t0 t1 t3).bind λb=>if b.2==1||b.2==2 then O (⟨0,[],⟨0,[],0,0,[]⟩,0⟩,b.2)else if t2<0||65536<t2 then O (⟨0,[],⟨0,[],0,0,[]⟩,0⟩,2)else if b.2 !=0 then O (⟨2,[],⟨0,[],0,0,[]⟩,0⟩,0)else(zfU n b.1 t2).bind λa=>if a.2 !=0 then O (⟨0,[],⟨0,[],0,0,[]⟩,0⟩,a.2)else if a.1.kind==0 then(zhW n a.1).bind λc=>O (⟨c.kind,c.state,c.tree,a.1.steps⟩,0)else if a.1.kind==1 then(zhX n a.1).bind λe=>O (⟨e.kind,e.state,e.tree,a.1.steps⟩,0)else if a.1.kind==2 then(zhY n).bind λd=>O (⟨d.kind,d.state,d.tree,a.1.steps⟩,0)else Y
def zas.l1 (n:Nat)(t0:List Int)(t1:List Int)(b:Int->Option Bool)(a:Int):=if Z (a<t0.length)then(idx t0 a).bind λc=>(idx t1 a).bind λd=>if c !=d then O M else b (ztc a 1)else O U
def zas (n:Nat)(t0:List Int)(t1:List Int):=if t0.length !=(t1.length:Int)then O M else ztg (zas.l1 n t0 t1) n 0
def zeH (n:Nat)(t0:Int):=O (t0<(-4000000)||4000000<t0)
def zid (n:Nat)(t0:System)(t1:List Int):=(zal n t0).bind λa=>grd (!(a&&t1.length==(t0.box.length:Int))||(zt n t1 λq0=>zeH n q0).isSome)<|O (a&&t1.length==(t0.box.length:Int)&&!(zt n t1 λq0=>zeH n q0).getD J)
def zck.l1 (n:Nat)(t0:List Range)(t1:List Int)(d:Int->Option Bool)(a:Int):=if Z (a<t0.length)then(idx t0 a).bind λb=>(idx t1 a).bind λc=>grd (c<b.lo||(idx t1 a).isSome)<|if c<b.lo||b.hi<(idx t1 a).getD J then O M else d (ztc a 1)else O U
def zck (n:Nat)(t0:List Range)(t1:List Int):=if t0.length !=(t1.length:Int)then O M else ztg (zck.l1 n t0 t1) n 0
def ze1.l1 (n:Nat)(t0:Row)(t1:List Int)(b:Int×Int->Option Int)(s:Int×Int):=if Z (s.2<t0.ztf.length)then(idx t0.ztf s.2).bind λa=>(idx t1 a.cell).bind λc=>b (ztc s.1 (zto a.ztl c),ztc s.2 1)else O s.1
def ze1 (n:Nat)(t0:Row)(t1:List Int):=ztg (ze1.l1 n t0 t1) n (0,0)
def zgD (n:Nat)(t0:Row)(t1:List Int):Option Bool:=(ze1 n t0 t1).bind λa=>O (a<=t0.bound)
def zcf.l1 (n:Nat)(c:List Int)(b:List Int×Int->Option (List Int))(s:List Int×Int):=if Z (s.2<c.length)then(idx s.1 s.2).bind λd=>(sto s.1 s.2 s.2).bind λa=>b (a,ztc s.2 1)else O s.1
def zcf (n:Nat)(t0:Int):=(mkl 8 t0 0).bind λa=>ztg (zcf.l1 n a) n (a,0)
def zdF (n:Nat)(t0:Int)(t1:List Bool)(t2:List Int)(t3:ztv)(t4:Int):=(idx t1 t0).bind λa=>grd (! !a||(idx t2 (ztc (ztc t3.first (zto t0 t3.size)) t4)).isSome)<|grd (! !a||(idx t3.least (ztc (zto t0 t3.size) t4)).isSome)<|O (!a&&(idx t3.least (ztc (zto t0 t3.size) t4)).getD J<=(idx t2 (ztc (ztc t3.first (zto t0 t3.size)) t4)).getD J)
def zf3 (n:Nat)(t0:Int)(t1:List Bool)(t2:ztv)(t3:List Int):=(idx t1 t0).bind λa=>grd (! !a||(zcf n t2.size).isSome)<|grd (! !a||(zt n ((zcf n t2.size).getD J) λq0=>zdF n q0 t1 t3 t2 t0).isSome)<|O (!a&&!(zt n ((zcf n t2.size).getD J) λq0=>zdF n q0 t1 t3 t2 t0).getD J)
def zdb.l1 (n:Nat)(t0:ztv)(t1:List Int)(c:List Bool×Int->Option Bool)(s:List Bool×Int):=if Z (s.2<t0.size)then(zcf n t0.size).bind λd=>(zP n d λq0=>zf3 n q0 s.1 t0 t1).bind λa=>if Z (a<0)then O M else(idx s.1 a).bind λe=>(sto s.1 a U).bind λb=>c (b,ztc s.2 1)else O U
def zdb (n:Nat)(t0:ztv)(t1:List Int):=(mkl 1 t0.size M).bind λa=>ztg (zdb.l1 n t0 t1) n (a,0)
def zdq.l2 (n:Nat)(t0:System)(t1:List Int)(b:List Int)(d:List Int×Int->Option (List Int×List Int))(s:List Int×Int):=if Z (s.2<t0.zti.length)then jn (λv=>let c:=v;d (c,ztc s.2 1)) λa=>(idx t0.zti s.2).bind λe=>(zdb n e t1).bind λf=>if !f then(app 8 s.1 [s.2]).bind λg=>a g else a s.1 else O (b,s.1)
def zdq.l1 (n:Nat)(t0:System)(t1:List Int)(c:List Int×Int->Option (List Int×List Int))(s:List Int×Int):=if Z (s.2<t0.rows.length)then jn (λv=>let b:=v;c (b,ztc s.2 1)) λa=>(idx t0.rows s.2).bind λd=>(zgD n d t1).bind λe=>if !e then(app 8 s.1 [s.2]).bind λf=>a f else a s.1 else ztg (zdq.l2 n t0 t1 s.1) n ([],0)
def zdq (n:Nat)(t0:System)(t1:List Int):=ztg (zdq.l1 n t0 t1) n ([],0)
def zee (n:Nat)(t0:Row)(t1:List Int):=(zgD n t0 t1).bind λa=>O (!a)
def zcJ.l1 (n:Nat)(t0:System)(t1:List Int)(b:Int->Option (Int×Bool))(a:Int):=if Z (a<t0.cases.length)then(idx t0.cases a).bind λc=>(zn n c λq0=>zee n q0 t1).bind λd=>if !d then O (a,U)else b (ztc a 1)else O (0,M)
def zcJ (n:Nat)(t0:System)(t1:List Int):=ztg (zcJ.l1 n t0 t1) n 0
def zie (n:Nat)(t0:System)(t1:List Int):=(zdq n t0 t1).bind λa=>if Z (0<ztc a.1.length a.2.length)then O M else(zcJ n t0 t1).bind λb=>O (b.2||(t0.cases.length:Int)==0)
def zjg (n:Nat)(t0:System)(t1:List Int):=(zid n t0 t1).bind λa=>grd (!a||(zck n t0.box t1).isSome)<|if !a||!(zck n t0.box t1).getD J then O M else(zie n t0 t1).bind λb=>O b
def zai.l1 (n:Nat)(t0:List Step)(t1:List Step)(b:Int->Option Bool)(a:Int):=if Z (a<t0.length)then(idx t0 a).bind λc=>(idx t1 a).bind λd=>if ! c=d then O M else b (ztc a 1)else O U
def zai (n:Nat)(t0:List Step)(t1:List Step):=if t0.length !=(t1.length:Int)then O M else ztg (zai.l1 n t0 t1) n 0
def zx.l1 (n:Nat)(t0:List Tree)(t1:List Tree)(t2:Tree->Tree->Option Bool)(b:Int->Option Bool)(a:Int):=if Z (a<t0.length)then(idx t0 a).bind λc=>(idx t1 a).bind λd=>(t2 c d).bind λe=>if !e then O M else b (ztc a 1)else O U
def zx (n:Nat)(t0:List Tree)(t1:List Tree)(t2:Tree->Tree->Option Bool):=if t0.length !=(t1.length:Int)then O M else ztg (zx.l1 n t0 t1 t2) n 0
def zbg.body (n:Nat)(self:Tree->Tree->Option Bool)(t0:Tree)(t1:Tree):=grd (!(t0.kind==t1.kind&&t0.cell==t1.cell&&t0.at_==t1.at_)||(zai n t0.steps t1.steps).isSome)<|grd (!(t0.kind==t1.kind&&t0.cell==t1.cell&&t0.at_==t1.at_&&(zai n t0.steps t1.steps).getD J)||(zx n t0.kids t1.kids λq0 q1=>self q0 q1).isSome)<|O (t0.kind==t1.kind&&t0.cell==t1.cell&&t0.at_==t1.at_&&(zai n t0.steps t1.steps).getD J&&(zx n t0.kids t1.kids λq0 q1=>self q0 q1).getD J)
def zbg:Nat->Tree->Tree->Option Bool|0,_,_=>Y|n+1,t0,t1=>zbg.body n (zbg n) t0 t1
def zbQ.l1 (n:Nat)(t0:Tree)(d:Int->Option Bool)(b:Int):Option Bool:=if Z (b<t0.steps.length)then(idx t0.steps b).bind λa=>jn (λv=>let e:=v;if a.kind !=0&&a.kind !=1||a.index<0||2048<a.index||a.cell<e||128<=a.cell then O M else d (ztc b 1)) λc=>if a.kind==1 then c 0 else c (-1)else if t0.kind==0 then O ((t0.kids.length:Int)==0&&t0.cell==0&&t0.at_==0)else if t0.kind==1 then O ((t0.kids.length:Int)==2&&0<=t0.cell&&t0.cell<128&&-1000000<=t0.at_&&t0.at_<=1000000)else if t0.kind==2 then O (1<=(t0.kids.length:Int)&&(t0.kids.length:Int)<=1024&&t0.cell==0&&t0.at_==0)else O M
def zbQ (n:Nat)(t0:Tree):=ztg (zbQ.l1 n t0) n 0
def zaq.l1 (n:Nat)(v:Int->Tree->Int->Option (Bool×Int))(level:Int)(kids:List Tree)(rec:Int×Int->Option (Bool×Int))(s:Int×Int):=if Z (s.2<kids.length)then(idx kids s.2).bind λx=>(v (ztc level 1) x s.1).bind λr=>if r.1=U then rec (r.2,ztc s.2 1)else O (M,r.2)else O (U,s.1)
def zaq (n:Nat):Nat->Int->Tree->Int->Option (Bool×Int)|0,_,_,_=>Y|k+1,level,t,cost=>if(4096<level||65536<ztc cost (ztc 1 t.steps.length))=U then O (M,ztc cost (ztc 1 t.steps.length))else(zbQ n t).bind λb=>if(!b)=U then O (M,ztc cost (ztc 1 t.steps.length))else ztg (zaq.l1 n (zaq n k) level t.kids) n (ztc cost (ztc 1 t.steps.length),0)
def zbU (n:Nat)(t0:Tree):=(zaq n n 1 t0 0).map (·.1)
def zbF.l1 (n:Nat)(t0:ztG)(t1:ztv)(t2:Int)(b:List Bool×Int->Option Bool)(s:List Bool×Int):=if Z (s.2<t1.least.length)then(idx t1.least s.2).bind λc=>(idx t0.box (ztc t1.first s.2)).bind λd=>(idx s.1 s.2).bind λh=>(sto s.1 s.2 (c<=d.lo)).bind λa=>b (a,ztc s.2 1)else(zuo t2 t1.size).bind λe=>(zul t2 t1.size).bind λf=>(zdU n t1.size s.1 e f).bind λg=>O (0<(g.length:Int))
def zbF (n:Nat)(t0:ztG)(t1:ztv)(t2:Int):=(mkl 1 t1.least.length M).bind λa=>ztg (zbF.l1 n t0 t1 t2) n (a,0)
def zfL (n:Nat)(t0:Range)(t1:Range):Option Range:=O ⟨gmax t0.lo t1.lo,gmin t0.hi t1.hi⟩
def zz.l2 (n:Nat)(self:ztG->Tree->Option Bool)(t0:ztG)(t1:Tree)(b:List Range)(c:Int->Option Bool)(a:Int):=if Z (a<t1.kids.length)then(idx t1.kids a).bind λd=>(idx t0.s.cases a).bind λe=>(zg n [t0.rows,e]).bind λf=>(self ⟨t0.s,f,b,U⟩ d).bind λg=>if !g then O M else c (ztc a 1)else O U
def zz.l1 (n:Nat)(self:ztG->Tree->Option Bool)(t0:ztG)(t1:Tree)(r:List Range×Int->Option Bool)(s:List Range×Int):=let b:=s.1;if Z (s.2<t1.steps.length)then jn (λv=>let o:=v;r (o,ztc s.2 1)) λd=>(idx t1.steps s.2).bind λa=>if a.kind==1 then if Z (t0.s.zti.length<=a.index)then if !false then O M else d b else(idx t0.s.zti a.index).bind λc=>if ztn a.cell c.first<0||c.least.length<=ztn a.cell c.first then if !false then O M else d b else jn (λv=>let g:=v;(idx g a.cell).bind λB=>(idx g a.cell).bind λD=>if Z (D.hi<B.lo)then O U else if !true then O M else d g) λk=>(zbF n ⟨t0.s,t0.rows,b,t0.zty⟩ c (ztn a.cell c.first)).bind λx=>if x then(idx b a.cell).bind λy=>(idx c.least (ztn a.cell c.first)).bind λz=>(idx b a.cell).bind λA=>(sto b a.cell ⟨A.lo,gmin y.hi (ztn z 1)⟩).bind λp=>k p else k b else if t0.rows.length<=a.index||b.length<=a.cell then if !false then O M else d b else(idx t0.rows a.index).bind λe=>if Z (a.cell<0)then if(e.ztf.length:Int)==0&&e.bound<0 then O U else if !((e.ztf.length:Int)==0&&e.bound<0)then O M else d b else(zcy n e b a.cell).bind λt=>(idx b a.cell).bind λG=>(sto b a.cell t).bind λh=>(idx h a.cell).bind λu=>(idx h a.cell).bind λw=>if Z (w.hi<u.lo)then O U else if !true then O M else d h else if t1.kind==1 then if Z (b.length<=t1.cell)then O M else(idx b t1.cell).bind λf=>(app 16 [] b).bind λl=>(app 16 [] b).bind λm=>(zfL n f ⟨f.lo,t1.at_⟩).bind λC=>(idx l t1.cell).bind λH=>(sto l t1.cell C).bind λq=>(zfL n f ⟨ztc t1.at_ 1,f.hi⟩).bind λE=>(idx m t1.cell).bind λI=>(sto m t1.cell E).bind λj=>(idx t1.kids 0).bind λF=>(self ⟨t0.s,t0.rows,q,t0.zty⟩ F).bind λi=>grd (!i||(idx t1.kids 1).isSome)<|grd (!i||(self ⟨t0.s,t0.rows,j,t0.zty⟩ ((idx t1.kids 1).getD J)).isSome)<|O (i&&(self ⟨t0.s,t0.rows,j,t0.zty⟩ ((idx t1.kids 1).getD J)).getD J)else if t1.kind==2 then if t0.zty||t1.kids.length !=(t0.s.cases.length:Int)then O M else ztg (zz.l2 n self t0 t1 b) n 0 else O M
def zz.body (n:Nat)(self:ztG->Tree->Option Bool)(t0:ztG)(t1:Tree):=(zb4 n t0.box).bind λa=>if a then O U else(app 16 [] t0.box).bind λb=>ztg (zz.l1 n self t0 t1) n (b,0)
def zz:Nat->ztG->Tree->Option Bool|0,_,_=>Y|n+1,t0,t1=>zz.body n (zz n) t0 t1
def zf1 (n:Nat)(t0:System)(t1:Tree):=(zal n t0).bind λa=>grd (!a||(zbU n t1).isSome)<|grd (!(a&&(zbU n t1).getD J)||(zz n ⟨t0,t0.rows,t0.box,M⟩ t1).isSome)<|O (a&&(zbU n t1).getD J&&(zz n ⟨t0,t0.rows,t0.box,M⟩ t1).getD J)
def zbu (n:Nat)(t0:Model)(t1:Question)(t2:ztM)(t3:List Int):=(zf n t0 t1 t3).bind λa=>if a.2 !=0||t2.steps<0||65536<t2.steps then O M else if t2.kind==0 then(zjg n a.1 t2.state).bind λb=>grd (!b||(zbg n t2.tree ⟨0,[],0,0,[]⟩).isSome)<|O (b&&(zbg n t2.tree ⟨0,[],0,0,[]⟩).getD J)else if t2.kind==1 then(zf1 n a.1 t2.tree).bind λc=>O (c&&(t2.state.length:Int)==0)else O M
def zhk (n:Nat):=(zhM n).bind λc=>(zbM n c ⟨0,0,⟨M,1⟩⟩ 100 []).bind λa=>(zbM n c ⟨0,0,⟨M,0⟩⟩ 100 []).bind λb=>(zbM n c ⟨0,0,⟨M,1⟩⟩ 0 []).bind λd=>grd (!(a.2==0&&a.1.kind==0)||(zas n a.1.state [0]).isSome)<|grd (!(a.2==0&&a.1.kind==0&&(zas n a.1.state [0]).getD J&&b.2==0&&b.1.kind==1)||(zbu n c ⟨0,0,⟨M,1⟩⟩ a.1 []).isSome)<|grd (!(a.2==0&&a.1.kind==0&&(zas n a.1.state [0]).getD J&&b.2==0&&b.1.kind==1&&(zbu n c ⟨0,0,⟨M,1⟩⟩ a.1 []).getD J)||(zbu n c ⟨0,0,⟨M,0⟩⟩ b.1 []).isSome)<|grd (!(a.2==0&&a.1.kind==0&&(zas n a.1.state [0]).getD J&&b.2==0&&b.1.kind==1&&(zbu n c ⟨0,0,⟨M,1⟩⟩ a.1 []).getD J&&(zbu n c ⟨0,0,⟨M,0⟩⟩ b.1 []).getD J)||(zbu n c ⟨0,0,⟨M,1⟩⟩ b.1 []).isSome)<|O (a.2==0&&a.1.kind==0&&(zas n a.1.state [0]).getD J&&b.2==0&&b.1.kind==1&&(zbu n c ⟨0,0,⟨M,1⟩⟩ a.1 []).getD J&&(zbu n c ⟨0,0,⟨M,0⟩⟩ b.1 []).getD J&&!(zbu n c ⟨0,0,⟨M,1⟩⟩ b.1 []).getD J&&d.2==0&&d.1.kind==2)
def zc9.l1 (n:Nat)(t0:List Int)(t1:List Table)(c:Int->Option Bool)(a:Int):=if Z (a<t1.length)then(idx t1 a).bind λb=>grd (40<(b.name.length:Int)||(idx t1 a).isSome)<|if 40<(b.name.length:Int)||12<((((idx t1 a).getD J).ztd).length:Int)then O M else c (ztc a 1)else O ((t0.length:Int)<=12&&(t1.length:Int)<=20)
def zc9 (n:Nat)(t0:List Int)(t1:List Table):=ztg (zc9.l1 n t0 t1) n 0
def zu.l5 (n:Nat)(f:Int)(c:Int->Option Bool)(b:Action)(d:Int->Option Bool)(a:Int):=if Z (a<b.effect.hold.length)then(idx b.effect.hold a).bind λe=>if Z (20<(e.ztf.length:Int))then O M else d (ztc a 1)else c (ztc f 1)
def zu.l4 (n:Nat)(t0:Model)(c:Int->Option Bool)(b:Int):=if Z (b<t0.zte.length)then(idx t0.zte b).bind λa=>(idx t0.zte b).bind λd=>if 6<(d.arguments.length:Int)||20<(a.effect.delta.length:Int)||10<(a.effect.hold.length:Int)||40<(a.effect.ztm.length:Int)then O M else ztg (zu.l5 n b c a) n 0 else O U
def zu.l3 (n:Nat)(t0:Model)(c:Int->Option Bool)(a:Int):=if Z (a<t0.zth.length)then(idx t0.zth a).bind λb=>grd (40<(b.name.length:Int)||(idx t0.zth a).isSome)<|if 40<(b.name.length:Int)||6<((((idx t0.zth a).getD J).ztj).length:Int)then O M else c (ztc a 1)else ztg (zu.l4 n t0) n 0
def zu.l2 (n:Nat)(t0:Model)(b:Int->Option Bool)(a:Int):=if Z (a<t0.constraints.length)then(idx t0.constraints a).bind λc=>if Z (20<(c.row.ztf.length:Int))then O M else b (ztc a 1)else ztg (zu.l3 n t0) n 0
def zu.l1 (n:Nat)(t0:Model)(b:Int->Option Bool)(a:Int):=if Z (a<t0.ztq.length)then(idx t0.ztq a).bind λc=>if Z (40<(c.length:Int))then O M else b (ztc a 1)else ztg (zu.l2 n t0) n 0
def zu (n:Nat)(t0:Model):=grd (8<(t0.ztj.length:Int)||6<(t0.tables.length:Int)||20<(t0.ztq.length:Int)||60<(t0.constraints.length:Int)||8<(t0.zth.length:Int)||30<(t0.zte.length:Int)||12<(t0.zts.length:Int)||(zc9 n t0.ztj t0.tables).isSome)<|if 8<(t0.ztj.length:Int)||6<(t0.tables.length:Int)||20<(t0.ztq.length:Int)||60<(t0.constraints.length:Int)||8<(t0.zth.length:Int)||30<(t0.zte.length:Int)||12<(t0.zts.length:Int)||!(zc9 n t0.ztj t0.tables).getD J then O M else ztg (zu.l1 n t0) n 0
def zbC.l1 (n:Nat)(t0:List Int)(c:Int->Option Bool)(a:Int):=if Z (a<t0.length)then(idx t0 a).bind λb=>grd (b<1||(idx t0 a).isSome)<|if b<1||6<(idx t0 a).getD J then O M else c (ztc a 1)else O U
def zbC (n:Nat)(t0:List Int):=ztg (zbC.l1 n t0) n 0
def zao.l1 (n:Nat)(t0:List Int)(t1:List Int)(b:Int×Int->Option Int)(s:Int×Int):=if Z (s.2<t1.length)then(idx t1 s.2).bind λa=>grd (a<0||(idx t1 s.2).isSome)<|if a<0||t0.length<=(idx t1 s.2).getD J then O 0 else(idx t1 s.2).bind λc=>(idx t0 c).bind λd=>b (zto s.1 d,ztc s.2 1)else O s.1
def zao (n:Nat)(t0:List Int)(t1:List Int):=grd (3<(t1.length:Int)||(zbC n t0).isSome)<|if 3<(t1.length:Int)||!(zbC n t0).getD J then O 0 else ztg (zao.l1 n t0 t1) n (1,0)
def zbd (n:Nat)(t0:Int):=O (t0==9||t0==10||t0==13||t0==32)
def zbh.l2 (n:Nat)(t0:List UInt8)(b:Int->Option Int)(c:Int->Option Int)(a:Int):=grd (! a<t0.length||(sidx t0 a).isSome)<|if a<t0.length&&(sidx t0 a).getD J !=10 then c (ztc a 1)else b a
def zbh.l1 (n:Nat)(t0:List UInt8)(b:Int->Option Int)(a:Int):=grd (! a<t0.length||(sidx t0 a).isSome)<|grd (! a<t0.length||(zbd n ((sidx t0 a).getD J)).isSome)<|grd (! a<t0.length||((zbd n ((sidx t0 a).getD J)).getD J||(sidx t0 a).isSome))<|if a<t0.length&&((zbd n ((sidx t0 a).getD J)).getD J||(sidx t0 a).getD J==35)then(sidx t0 a).bind λc=>if c==35 then ztg (zbh.l2 n t0 b) n a else b (ztc a 1)else O a
def zbh (n:Nat)(t0:List UInt8)(t1:Int):=ztg (zbh.l1 n t0) n t1
def za6 (n:Nat)(t0:Int):=O (97<=t0&&t0<=122)
def zbN (n:Nat)(t0:Int):=O (48<=t0&&t0<=57)
def ze8 (n:Nat):Option (List (List UInt8)):=O [[115,111,114,116],[114,101,108,97,116,105,111,110],[99,111,117,110,116,101,114],[115,101,116],[114,101,103,105,115,116,101,114],[105,110,118,97,114,105,97,110,116],[111,112,101,114,97,116,105,111,110],[107,101,121],[114,101,102,101,114,101,110,99,101],[116,111],[99,111,117,110,116],[97,99,121,99,108,105,99],[97,108,108],[115,117,109],[105,110],[97,100,100,119,105,110,115],[114,101,109,111,118,101,119,105,110,115],[108,97,115,116],[109,117,108,116,105],[104,105,100,101],[111,114,100,101,114,101,100],[114,101,113,117,105,114,101],[104,111,108,100],[105,110,115,101,114,116],[100,101,108,101,116,101],[97,100,100],[102,114,111,109],[112,117,116],[100,114,111,112],[97,115,115,105,103,110],[102,111,114],[119,104,101,114,101],[97,110,100],[111,114],[110,111,116]]
def zcT.l1 (n:Nat)(t0:List (List UInt8))(t1:List UInt8)(b:Int->Option Bool)(a:Int):=if Z (a<t0.length)then(idx t0 a).bind λc=>if Z (c=t1)then O U else b (ztc a 1)else O M
def zcT (n:Nat)(t0:List (List UInt8))(t1:List UInt8):=ztg (zcT.l1 n t0 t1) n 0
def zfO (n:Nat):Option (List (List UInt8)):=O [[61,61],[33,61],[60,61],[62,61],[46,46],[60],[62],[61],[43],[45],[42],[40],[41],[123],[125],[44],[58],[59]]
def zbv.l1 (n:Nat)(t0:List UInt8)(t1:Int)(c:List (List UInt8))(d:Int->Option Int)(b:Int):Option Int:=if Z (b<c.length)then(idx c b).bind λa=>grd (! ztc t1 a.length<=t0.length||(cut t0 t1 (ztc t1 a.length)).isSome)<|grd (! ztc t1 a.length<=t0.length||(idx c b).isSome)<|if ztc t1 a.length<=t0.length&&(cut t0 t1 (ztc t1 a.length)).getD J=(idx c b).getD J then O a.length else d (ztc b 1)else O 0
def zbv (n:Nat)(t0:List UInt8)(t1:Int):=(zfO n).bind λa=>ztg (zbv.l1 n t0 t1 a) n 0
def zax.l3 (n:Nat)(t0:List UInt8)(b:Int->Option (Int×Int))(a:Int):=grd (! a<t0.length||(sidx t0 a).isSome)<|grd (! a<t0.length||(zbd n ((sidx t0 a).getD J)).isSome)<|grd (!(a<t0.length&&!(zbd n ((sidx t0 a).getD J)).getD J)||(sidx t0 a).isSome)<|grd (!(a<t0.length&&!(zbd n ((sidx t0 a).getD J)).getD J&&(sidx t0 a).getD J !=35)||(sidx t0 a).isSome)<|grd (!(a<t0.length&&!(zbd n ((sidx t0 a).getD J)).getD J&&(sidx t0 a).getD J !=35)||(za6 n ((sidx t0 a).getD J)).isSome)<|grd (!(a<t0.length&&!(zbd n ((sidx t0 a).getD J)).getD J&&(sidx t0 a).getD J !=35&&!(za6 n ((sidx t0 a).getD J)).getD J)||(sidx t0 a).isSome)<|grd (!(a<t0.length&&!(zbd n ((sidx t0 a).getD J)).getD J&&(sidx t0 a).getD J !=35&&!(za6 n ((sidx t0 a).getD J)).getD J)||(zbN n ((sidx t0 a).getD J)).isSome)<|grd (!(a<t0.length&&!(zbd n ((sidx t0 a).getD J)).getD J&&(sidx t0 a).getD J !=35&&!(za6 n ((sidx t0 a).getD J)).getD J&&!(zbN n ((sidx t0 a).getD J)).getD J)||(zbv n t0 a).isSome)<|if a<t0.length&&!(zbd n ((sidx t0 a).getD J)).getD J&&(sidx t0 a).getD J !=35&&!(za6 n ((sidx t0 a).getD J)).getD J&&!(zbN n ((sidx t0 a).getD J)).getD J&&(zbv n t0 a).getD J==0 then b (ztc a 1)else O (5,a)
def zax.l2 (n:Nat)(t0:List UInt8)(b:Int->Option (Int×Int))(a:Int):=grd (! a<t0.length||(sidx t0 a).isSome)<|grd (! a<t0.length||(zbN n ((sidx t0 a).getD J)).isSome)<|if a<t0.length&&(zbN n ((sidx t0 a).getD J)).getD J then b (ztc a 1)else O (3,a)
def zax.l1 (n:Nat)(t0:List UInt8)(t1:Int)(b:Int->Option (Int×Int))(a:Int):=grd (! a<t0.length||(sidx t0 a).isSome)<|grd (! a<t0.length||(za6 n ((sidx t0 a).getD J)).isSome)<|grd (! a<t0.length||((za6 n ((sidx t0 a).getD J)).getD J||(sidx t0 a).isSome))<|grd (! a<t0.length||((za6 n ((sidx t0 a).getD J)).getD J||(zbN n ((sidx t0 a).getD J)).isSome))<|grd (! a<t0.length||((za6 n ((sidx t0 a).getD J)).getD J||(zbN n ((sidx t0 a).getD J)).getD J||(sidx t0 a).isSome))<|if a<t0.length&&((za6 n ((sidx t0 a).getD J)).getD J||(zbN n ((sidx t0 a).getD J)).getD J||(sidx t0 a).getD J==95)then b (ztc a 1)else(ze8 n).bind λc=>(cut t0 t1 a).bind λd=>(zcT n c d).bind λe=>if e then O (2,a)else O (1,a)
def zax (n:Nat)(t0:List UInt8)(t1:Int):=(sidx t0 t1).bind λb=>(za6 n b).bind λc=>if c then ztg (zax.l1 n t0 t1) n t1 else(sidx t0 t1).bind λd=>(zbN n d).bind λe=>if e then ztg (zax.l2 n t0) n t1 else(zbv n t0 t1).bind λa=>if Z (0<a)then O (4,ztc t1 a)else ztg (zax.l3 n t0) n t1
def zcZ.l1 (n:Nat)(t0:List UInt8)(c:List Token×Int->Option (List Token×Int))(s:List Token×Int):=(zbh n t0 s.2).bind λd=>if Z (d<t0.length)then(zbh n t0 s.2).bind λb=>(zax n t0 b).bind λa=>(app 32 s.1 [⟨a.1,s.2,b,a.2⟩]).bind λe=>c (e,a.2)else(app 32 s.1 [⟨0,s.2,t0.length,t0.length⟩]).bind λf=>O (f,0)
def zcZ (n:Nat)(t0:List UInt8):=if Z (4096<(t0.length:Int))then O ([],8)else ztg (zcZ.l1 n t0) n ([],0)
def zgP (n:Nat)(t0:List UInt8):=(zcZ n t0).bind λa=>grd (a.2 !=0||(a.1.length:Int)!=2||(idx a.1 0).isSome)<|grd (a.2 !=0||(a.1.length:Int)!=2||((idx a.1 0).getD J).at_ !=0||(idx a.1 0).isSome)<|if a.2 !=0||(a.1.length:Int)!=2||((idx a.1 0).getD J).at_ !=0||((idx a.1 0).getD J).end_ !=t0.length then O 0 else(idx a.1 0).bind λb=>O b.kind
def zfo (n:Nat)(t0:List UInt8):=(zgP n t0).bind λa=>O (a==1&&(t0.length:Int)<=16)
def zb0 (n:Nat)(t0:Int):=O (t0==0||t0==1)
def zaD.l2 (n:Nat)(t0:List Int)(t1:List Table)(c:Int)(d:Int)(k:Int)(f:Int×Int->Option Bool)(a:Table)(g:Int->Option Bool)(e:Int):=if Z (e<k)then(idx t1 e).bind λi=>if Z (i.name=a.name)then O M else g (ztc e 1)else(zao n t0 a.ztd).bind λb=>(zfo n a.name).bind λj=>if !j||a.kind<0||5<a.kind||b==0 then O M else if a.range.hi<a.range.lo||a.range.lo<(-9999)||9999<a.range.hi then O M else if(a.kind==0||a.kind==2||a.kind==3)&&(a.range.lo !=0||a.range.hi !=1)then O M else(zb0 n a.kind).bind λh=>if h then if a.first !=c then O M else f (ztc c b,d)else if a.first !=d then O M else f (c,ztc d b)
def zaD.l1 (n:Nat)(t0:List Int)(t1:List Table)(b:Int×Int×Int->Option Bool)(s:Int×Int×Int):=if Z (s.2.2<t1.length)then jn (λv=>let d:=v.1;let e:=v.2;b (d,e,ztc s.2.2 1)) λa=>(idx t1 s.2.2).bind λc=>ztg (zaD.l2 n t0 t1 s.1 s.2.1 s.2.2 a c) n 0 else O (s.1<=128&&s.2.1<=64)
def zaD (n:Nat)(t0:List Int)(t1:List Table):=grd (4<(t0.length:Int)||(zbC n t0).isSome)<|if 4<(t0.length:Int)||!(zbC n t0).getD J||12<(t1.length:Int)then O M else ztg (zaD.l1 n t0 t1) n (0,0,0)
def zaK.l2 (n:Nat)(t0:List Int)(t1:List Table)(t2:Bool)(a:Int)(c:List Range×Int->Option (List Range))(d:List Range×Int->Option (List Range))(s:List Range×Int):=(idx t1 a).bind λe=>(zb0 n e.kind).bind λb=>grd (! b==t2||(idx t1 a).isSome)<|grd (! b==t2||(zao n t0 ((idx t1 a).getD J).ztd).isSome)<|if b==t2&&s.2<(zao n t0 ((idx t1 a).getD J).ztd).getD J then(idx t1 a).bind λf=>(app 16 s.1 [f.range]).bind λg=>d (g,ztc s.2 1)else c (s.1,ztc a 1)
def zaK.l1 (n:Nat)(t0:List Int)(t1:List Table)(t2:Bool)(a:List Range×Int->Option (List Range))(s:List Range×Int):=if Z (s.2<t1.length)then ztg (zaK.l2 n t0 t1 t2 s.2 a) n (s.1,0)else O s.1
def zaK (n:Nat)(t0:List Int)(t1:List Table)(t2:Bool):=(zaD n t0 t1).bind λa=>if !a then O []else ztg (zaK.l1 n t0 t1 t2) n ([],0)
def zcr (n:Nat)(t0:Model):=(zaK n t0.ztj t0.tables U).bind λa=>O a
def zbO.l2 (n:Nat)(a:List Range)(d:Int×Int->Option Bool)(s:Int×Int):=if Z (s.2<a.length)then(idx a s.2).bind λb=>(idx a s.2).bind λc=>if Z (4096<zto s.1 (ztc (ztn b.hi c.lo) 1))then O M else d (zto s.1 (ztc (ztn b.hi c.lo) 1),ztc s.2 1)else O U
def zbO.l1 (n:Nat)(t0:Model)(c:Int->Option Bool)(a:Int):=if Z (a<t0.zte.length)then(idx t0.zte a).bind λd=>if Z (4<(d.effect.hold.length:Int))then O M else c (ztc a 1)else(zcr n t0).bind λb=>if Z (12<(b.length:Int))then O M else ztg (zbO.l2 n b) n (1,0)
def zbO (n:Nat)(t0:Model):=(zu n t0).bind λa=>if !a||12<(t0.zte.length:Int)||40<(t0.constraints.length:Int)then O M else ztg (zbO.l1 n t0) n 0
def zaN.l1 (n:Nat)(t0:List (List UInt8))(c:Int->Option Bool)(a:Int):=if Z (a<t0.length)then(idx t0 a).bind λd=>(zfo n d).bind λb=>grd (!b||(cut t0 0 a).isSome)<|grd (!b||(idx t0 a).isSome)<|grd (!b||(zcT n ((cut t0 0 a).getD J) ((idx t0 a).getD J)).isSome)<|if !b||(zcT n ((cut t0 0 a).getD J) ((idx t0 a).getD J)).getD J then O M else c (ztc a 1)else O U
def zaN (n:Nat)(t0:List (List UInt8)):=ztg (zaN.l1 n t0) n 0
def za1.l1 (n:Nat)(t0:List Term)(t1:List Term)(b:Int->Option Bool)(a:Int):=if Z (a<t0.length)then(idx t0 a).bind λc=>(idx t1 a).bind λd=>if ! c=d then O M else b (ztc a 1)else O U
def za1 (n:Nat)(t0:List Term)(t1:List Term):=if t0.length !=(t1.length:Int)then O M else ztg (za1.l1 n t0 t1) n 0
def zc0 (n:Nat)(t0:Row)(t1:Row):=grd (! t0.bound==t1.bound||(za1 n t0.ztf t1.ztf).isSome)<|O (t0.bound==t1.bound&&(za1 n t0.ztf t1.ztf).getD J)
def zaG (n:Nat)(t0:Int)(t1:Int):=O (ztU t1<=t0&&t0<=t1)
def zcA.l1 (n:Nat)(t0:Row)(t1:Int)(c:Int->Option Bool)(b:Int):=if Z (b<t0.ztf.length)then(idx t0.ztf b).bind λa=>grd (a.cell<0||t1<=a.cell||(! 0<b||(idx t0.ztf (ztn b 1)).isSome))<|grd (a.cell<0||t1<=a.cell||0<b&&a.cell<=((idx t0.ztf (ztn b 1)).getD J).cell||a.ztl==0||(zaG n a.ztl 1000).isSome)<|if a.cell<0||t1<=a.cell||0<b&&a.cell<=((idx t0.ztf (ztn b 1)).getD J).cell||a.ztl==0||!(zaG n a.ztl 1000).getD J then O M else c (ztc b 1)else(zaG n t0.bound 1000000000).bind λd=>O d
def zcA (n:Nat)(t0:Row)(t1:Int):=ztg (zcA.l1 n t0 t1) n 0
def zb8.l1 (n:Nat)(t0:Model)(t1:Constraint)(c:Int->Option Bool)(b:Int):=if Z (b<t0.tables.length)then(idx t0.tables b).bind λa=>grd (!(a.kind==0&&(a.ztd.length:Int)==2)||(idx a.ztd 0).isSome)<|grd (!(a.kind==0&&(a.ztd.length:Int)==2)||(idx a.ztd 1).isSome)<|grd (!(a.kind==0&&(a.ztd.length:Int)==2&&(idx a.ztd 0).getD J==(idx a.ztd 1).getD J&&a.first==t1.first)||(idx a.ztd 0).isSome)<|grd (!(a.kind==0&&(a.ztd.length:Int)==2&&(idx a.ztd 0).getD J==(idx a.ztd 1).getD J&&a.first==t1.first)||(idx t0.ztj ((idx a.ztd 0).getD J)).isSome)<|if a.kind==0&&(a.ztd.length:Int)==2&&(idx a.ztd 0).getD J==(idx a.ztd 1).getD J&&a.first==t1.first&&(idx t0.ztj ((idx a.ztd 0).getD J)).getD J==t1.size then O U else c (ztc b 1)else O M
def zb8 (n:Nat)(t0:Model)(t1:Constraint):=if 0<(t1.row.ztf.length:Int)||t1.row.bound !=0 then O M else ztg (zb8.l1 n t0 t1) n 0
def zW.l2 (n:Nat)(t0:Model)(b:List Range)(d:Int->Option Bool)(c:Int):=if Z (c<t0.constraints.length)then(idx t0.constraints c).bind λa=>if a.family<0||t0.ztq.length<=a.family then O M else grd (!(a.kind==0&&a.first==0&&a.size==0)||(zcA n a.row b.length).isSome)<|grd (! !(a.kind==0&&a.first==0&&a.size==0&&(zcA n a.row b.length).getD J)||(!(zto 2 b.length<=c&&a.kind==1)||(zb8 n t0 a).isSome))<|if !(a.kind==0&&a.first==0&&a.size==0&&(zcA n a.row b.length).getD J)&&!(zto 2 b.length<=c&&a.kind==1&&(zb8 n t0 a).getD J)then O M else d (ztc c 1)else O U
def zW.l1 (n:Nat)(t0:Model)(b:List Range)(e:Int->Option Bool)(a:Int):=if Z (a<b.length)then(idx b a).bind λf=>(idx b a).bind λd=>(idx t0.constraints (zto 2 a)).bind λg=>(zc0 n g.row ⟨[⟨a,-1⟩],ztU f.lo⟩).bind λc=>grd (!c||(idx t0.constraints (ztc (zto 2 a) 1)).isSome)<|grd (!c||(zc0 n ((idx t0.constraints (ztc (zto 2 a) 1)).getD J).row ⟨[⟨a,1⟩],d.hi⟩).isSome)<|if !c||!(zc0 n ((idx t0.constraints (ztc (zto 2 a) 1)).getD J).row ⟨[⟨a,1⟩],d.hi⟩).getD J then O M else e (ztc a 1)else ztg (zW.l2 n t0 b) n 0
def zW (n:Nat)(t0:Model):=(zcr n t0).bind λa=>if t0.constraints.length<zto 2 a.length||512<(t0.constraints.length:Int)then O M else ztg (zW.l1 n t0 a) n 0
def zcD.l1 (n:Nat)(t0:List Int)(t1:List Int)(b:Int->Option Bool)(a:Int):Option Bool:=if a<t0.length&&a<t1.length then(idx t0 a).bind λc=>(idx t1 a).bind λd=>if c !=d then(idx t0 a).bind λe=>(idx t1 a).bind λf=>O (e<f)else b (ztc a 1)else O (t0.length<(t1.length:Int))
def zcD (n:Nat)(t0:List Int)(t1:List Int):=ztg (zcD.l1 n t0 t1) n 0
def zdz.l1 (n:Nat)(t0:List Int)(t1:List Int)(c:List Int×Int×Int->Option (List Int))(s:List Int×Int×Int):=let a:=s.2.2;if Z (0<=a)then(idx t1 a).bind λd=>(idx t0 d).bind λe=>(zuo s.2.1 e).bind λf=>(idx s.1 a).bind λj=>(sto s.1 a f).bind λb=>(idx t1 a).bind λg=>(idx t0 g).bind λh=>(zul s.2.1 h).bind λi=>c (b,i,ztn a 1)else O s.1
def zdz (n:Nat)(t0:List Int)(t1:List Int)(t2:Int):=(mkl 8 t1.length 0).bind λa=>ztg (zdz.l1 n t0 t1) n (a,t2,ztn t1.length 1)
def zcx.l1 (n:Nat)(t0:List Int)(t1:List Table)(t2:Bool)(t3:Int)(d:Int->Option (Int×List Int×Bool))(a:Int):=if Z (a<t1.length)then(idx t1 a).bind λb=>(idx t1 a).bind λe=>(zb0 n e.kind).bind λc=>grd (!(c==t2&&0<=t3&&0<=ztn t3 b.first)||(idx t1 a).isSome)<|grd (!(c==t2&&0<=t3&&0<=ztn t3 b.first)||(zao n t0 ((idx t1 a).getD J).ztd).isSome)<|if c==t2&&0<=t3&&0<=ztn t3 b.first&&ztn t3 b.first<(zao n t0 ((idx t1 a).getD J).ztd).getD J then(idx t1 a).bind λf=>(zdz n t0 f.ztd (ztn t3 b.first)).bind λg=>O (a,g,U)else d (ztc a 1)else O (0,[],M)
def zcx (n:Nat)(t0:List Int)(t1:List Table)(t2:Bool)(t3:Int):=(zaD n t0 t1).bind λa=>if !a then O (0,[],M)else ztg (zcx.l1 n t0 t1 t2 t3) n 0
def zh1 (n:Nat)(t0:Int):=O (t0==2||t0==3)
def zaa.l3 (n:Nat)(t0:Model)(t1:ztE)(e:Int->Option Bool)(b:Int):=if Z (b<t1.ztm.length)then(idx t1.ztm b).bind λa=>(zcx n t0.ztj t0.tables M a.cell).bind λd=>grd (!d.2.2||(! 0<b||(idx t1.ztm (ztn b 1)).isSome))<|if !d.2.2||0<b&&a.cell<=((idx t1.ztm (ztn b 1)).getD J).cell then O M else(idx t0.tables d.1).bind λc=>(zh1 n c.kind).bind λf=>if f&&(a.kind !=0&&a.kind !=1||a.value !=0)then O M else(zh1 n c.kind).bind λg=>if !g&&(a.kind !=2||a.value<c.range.lo||c.range.hi<a.value)then O M else e (ztc b 1)else O ((t1.hold.length:Int)<=8&&(t1.ztm.length:Int)<=32)
def zaa.l2 (n:Nat)(t0:Model)(t1:ztE)(c:List Range)(b:Int->Option Bool)(a:Int):=if Z (a<t1.hold.length)then(idx t1.hold a).bind λd=>(zcA n d c.length).bind λe=>if !e then O M else b (ztc a 1)else ztg (zaa.l3 n t0 t1) n 0
def zaa.l1 (n:Nat)(t0:Model)(t1:ztE)(c:List Range)(d:Int->Option Bool)(b:Int):=if Z (b<t1.delta.length)then(idx t1.delta b).bind λa=>grd (a.cell<0||c.length<=a.cell||(! 0<b||(idx t1.delta (ztn b 1)).isSome))<|grd (a.cell<0||c.length<=a.cell||0<b&&a.cell<=((idx t1.delta (ztn b 1)).getD J).cell||a.add==0||(zaG n a.add 1000000000).isSome)<|if a.cell<0||c.length<=a.cell||0<b&&a.cell<=((idx t1.delta (ztn b 1)).getD J).cell||a.add==0||!(zaG n a.add 1000000000).getD J then O M else d (ztc b 1)else ztg (zaa.l2 n t0 t1 c) n 0
def zaa (n:Nat)(t0:Model)(t1:ztE):=(zcr n t0).bind λa=>ztg (zaa.l1 n t0 t1 a) n 0
def zB.l4 (n:Nat)(t0:Model)(e:Int)(g:Int->Option Bool)(a:Action)(h:Int->Option Bool)(b:Int):=if Z (b<a.arguments.length)then(idx t0.zth a.operation).bind λi=>(idx i.ztj b).bind λc=>grd (! c<0||(idx a.arguments b).isSome)<|grd (! c<0||(zaG n ((idx a.arguments b).getD J) 9999).isSome)<|grd (c<0&&!(zaG n ((idx a.arguments b).getD J) 9999).getD J||(! 0<=c||(idx a.arguments b).isSome))<|grd (c<0&&!(zaG n ((idx a.arguments b).getD J) 9999).getD J||(! 0<=c||((idx a.arguments b).getD J<0||(idx a.arguments b).isSome)))<|grd (c<0&&!(zaG n ((idx a.arguments b).getD J) 9999).getD J||(! 0<=c||((idx a.arguments b).getD J<0||(idx t0.ztj c).isSome)))<|if c<0&&!(zaG n ((idx a.arguments b).getD J) 9999).getD J||0<=c&&((idx a.arguments b).getD J<0||(idx t0.ztj c).getD J<=(idx a.arguments b).getD J)then O M else h (ztc b 1)else jn (λv=>(zaa n t0 a.effect).bind λj=>if !j then O M else g (ztc e 1)) λf=>if Z (0<e)then(idx t0.zte (ztn e 1)).bind λd=>grd (a.operation<d.operation||(! d.operation==a.operation||(zcD n d.arguments a.arguments).isSome))<|if a.operation<d.operation||d.operation==a.operation&&!(zcD n d.arguments a.arguments).getD J then O M else f ()else f ()
def zB.l3 (n:Nat)(t0:Model)(c:Int->Option Bool)(b:Int):=if Z (b<t0.zte.length)then(idx t0.zte b).bind λa=>grd (a.operation<0||t0.zth.length<=a.operation||(idx t0.zth a.operation).isSome)<|if a.operation<0||t0.zth.length<=a.operation||a.arguments.length !=((((idx t0.zth a.operation).getD J).ztj).length:Int)then O M else ztg (zB.l4 n t0 b c a) n 0 else O U
def zB.l2 (n:Nat)(t0:Model)(g:Int)(d:List (List UInt8)×Int->Option Bool)(a:ztQ)(f:List (List UInt8))(e:Int->Option Bool)(b:Int):=if Z (b<a.ztj.length)then(idx a.ztj b).bind λc=>grd (c<(-1)||(idx a.ztj b).isSome)<|if c<(-1)||t0.ztj.length<=(idx a.ztj b).getD J then O M else e (ztc b 1)else if Z (3<(a.ztj.length:Int))then O M else d (f,ztc g 1)
def zB.l1 (n:Nat)(t0:Model)(b:List (List UInt8)×Int->Option Bool)(s:List (List UInt8)×Int):=if Z (s.2<t0.zth.length)then(idx t0.zth s.2).bind λa=>(app 16 s.1 [a.name]).bind λc=>ztg (zB.l2 n t0 s.2 b a c) n 0 else grd (8<(t0.zth.length:Int)||(zaN n s.1).isSome)<|if 8<(t0.zth.length:Int)||!(zaN n s.1).getD J||256<(t0.zte.length:Int)then O M else ztg (zB.l3 n t0) n 0
def zB (n:Nat)(t0:Model):=ztg (zB.l1 n t0) n ([],0)
def zaL.l1 (n:Nat)(self:Model->Int->Int->Int->Option Bool)(t0:Model)(t1:Int)(t2:Int)(t3:Int)(c:Int->Option Bool)(a:Int):=if a<t0.zts.length&&0<t3 then(idx t0.zts a).bind λb=>grd (! b.table==t1||(idx t0.zts a).isSome)<|grd (! b.table==t1||(self t0 ((idx t0.zts a).getD J).to t2 (ztn t3 1)).isSome)<|if b.table==t1&&(self t0 ((idx t0.zts a).getD J).to t2 (ztn t3 1)).getD J then O U else c (ztc a 1)else O M
def zaL.body (n:Nat)(self:Model->Int->Int->Int->Option Bool)(t0:Model)(t1:Int)(t2:Int)(t3:Int):=if t1==t2 then O U else ztg (zaL.l1 n self t0 t1 t2 t3) n 0
def zaL:Nat->Model->Int->Int->Int->Option Bool|0,_,_,_,_=>Y|n+1,t0,t1,t2,t3=>zaL.body n (zaL n) t0 t1 t2 t3
def zaB.l2 (n:Nat)(t0:Model)(b:Int->Option Bool)(a:Int):=if Z (a<t0.zts.length)then(idx t0.zts a).bind λc=>(idx t0.zts a).bind λd=>(zaL n t0 c.to d.table t0.tables.length).bind λe=>if e then O M else b (ztc a 1)else O U
def zaB.l1 (n:Nat)(t0:Model)(e:Int->Option Bool)(d:Int):=if Z (d<t0.zts.length)then(idx t0.zts d).bind λa=>if a.table<0||t0.tables.length<=a.table||a.to<0||t0.tables.length<=a.to||a.table==a.to then O M else(idx t0.tables a.table).bind λb=>(idx t0.tables a.to).bind λc=>grd (b.kind !=0||c.kind !=0||a.column<0||b.ztd.length<=a.column||(c.ztd.length:Int)!=1||(idx c.ztd 0).isSome)<|grd (b.kind !=0||c.kind !=0||a.column<0||b.ztd.length<=a.column||(c.ztd.length:Int)!=1||(idx b.ztd a.column).isSome)<|if b.kind !=0||c.kind !=0||a.column<0||b.ztd.length<=a.column||(c.ztd.length:Int)!=1||(idx c.ztd 0).getD J !=(idx b.ztd a.column).getD J then O M else e (ztc d 1)else ztg (zaB.l2 n t0) n 0
def zaB (n:Nat)(t0:Model):=if Z (12<(t0.zts.length:Int))then O M else ztg (zaB.l1 n t0) n 0
def zfP (n:Nat)(t0:Model):=(zaD n t0.ztj t0.tables).bind λb=>grd (!b||24<(t0.ztq.length:Int)||(zaN n t0.ztq).isSome)<|if !b||24<(t0.ztq.length:Int)||!(zaN n t0.ztq).getD J then O M else(zW n t0).bind λa=>grd (!a||(zB n t0).isSome)<|grd (!(a&&(zB n t0).getD J)||(zaB n t0).isSome)<|O (a&&(zB n t0).getD J&&(zaB n t0).getD J)
def zfQ (n:Nat)(t0:Model)(t1:Question):=(zfP n t0).bind λb=>if !b||t1.e<0||t1.f<0||t0.zte.length<=t1.e||t0.zte.length<=t1.f||t1.target.index<0 then O M else if t1.target.hold then(idx t0.zte t1.e).bind λa=>O (t1.target.index<a.effect.hold.length)else O (t1.e<=t1.f&&t1.target.index<t0.constraints.length)
def zeV (n:Nat)(t0:Int):=O (t0==0||t0==1)
def zb9.l1 (n:Nat)(t0:Model)(t1:Table)(a:Int×Int->Option Int)(s:Int×Int):=if Z (s.2<t1.ztd.length)then(idx t1.ztd s.2).bind λb=>(idx t0.ztj b).bind λc=>a (zto s.1 c,ztc s.2 1)else O s.1
def zb9 (n:Nat)(t0:Model)(t1:Table):=ztg (zb9.l1 n t0 t1) n (1,0)
def zb2.l2 (n:Nat)(t0:Model)(a:Int)(b:List Range->Option (List Range))(c:List Range×Int->Option (List Range))(s:List Range×Int):=(idx t0.tables a).bind λd=>(zb9 n t0 d).bind λe=>if Z (s.2<e)then(idx t0.tables a).bind λf=>(app 16 s.1 [f.range]).bind λg=>c (g,ztc s.2 1)else b s.1
def zb2.l1 (n:Nat)(t0:Model)(c:List Range×Int->Option (List Range))(s:List Range×Int):=if Z (s.2<t0.tables.length)then jn (λv=>let b:=v;c (b,ztc s.2 1)) λa=>(idx t0.tables s.2).bind λd=>(zeV n d.kind).bind λe=>if e then ztg (zb2.l2 n t0 s.2 a) n (s.1,0)else a s.1 else O s.1
def zb2 (n:Nat)(t0:Model):=ztg (zb2.l1 n t0) n ([],0)
def zaU.l1 (n:Nat)(t0:ztE)(t1:Int)(b:Int×Int->Option Int)(s:Int×Int):=if Z (s.2<t0.delta.length)then jn (λv=>let e:=v;b (e,ztc s.2 1)) λa=>(idx t0.delta s.2).bind λc=>if c.cell==t1 then(idx t0.delta s.2).bind λd=>a (ztc s.1 d.add)else a s.1 else O s.1
def zaU (n:Nat)(t0:ztE)(t1:Int):=ztg (zaU.l1 n t0 t1) n (0,0)
def zbj.l1 (n:Nat)(t0:ztE)(t1:Row)(a:Int×Int->Option Int)(s:Int×Int):=if Z (s.2<t1.ztf.length)then(idx t1.ztf s.2).bind λb=>(idx t1.ztf s.2).bind λc=>(zaU n t0 c.cell).bind λd=>a (ztc s.1 (zto b.ztl d),ztc s.2 1)else O s.1
def zbj (n:Nat)(t0:ztE)(t1:Row):=ztg (zbj.l1 n t0 t1) n (0,0)
def zgx.l1 (n:Nat)(t0:List Int)(t1:Int)(b:Int->Option Bool)(a:Int):=if Z (a<t0.length)then(idx t0 a).bind λc=>if c==t1 then O U else b (ztc a 1)else O M
def zgx (n:Nat)(t0:List Int)(t1:Int):=ztg (zgx.l1 n t0 t1) n 0
def zco.l1 (n:Nat)(t0:Row)(a:List Term×Int->Option Row)(s:List Term×Int):=if Z (s.2<t0.ztf.length)then(idx t0.ztf s.2).bind λb=>(app 16 s.1 [b]).bind λc=>a (c,ztc s.2 1)else O ⟨s.1,t0.bound⟩
def zco (n:Nat)(t0:Row):=ztg (zco.l1 n t0) n ([],0)
def zbm.l1 (n:Nat)(t0:Constraint)(t1:ztE)(a:List Int×Int->Option ztv)(s:List Int×Int):=if Z (s.2<zto t0.size t0.size)then(zaU n t1 (ztc t0.first s.2)).bind λb=>(app 8 s.1 [ztn 1 b]).bind λc=>a (c,ztc s.2 1)else O ⟨t0.first,t0.size,s.1⟩
def zbm (n:Nat)(t0:Constraint)(t1:ztE):=ztg (zbm.l1 n t0 t1) n ([],0)
def zbw.l1 (n:Nat)(t0:ztE)(t1:Constraint)(b:Int->Option Bool)(a:Int):=if Z (a<zto t1.size t1.size)then(zaU n t0 (ztc t1.first a)).bind λc=>if Z (0<c)then O U else b (ztc a 1)else O M
def zbw (n:Nat)(t0:ztE)(t1:Constraint):=ztg (zbw.l1 n t0 t1) n 0
def za3.l1 (n:Nat)(t0:Row)(t1:Int)(a:List Term×Int->Option Row)(s:List Term×Int):=if Z (s.2<t0.ztf.length)then(idx t0.ztf s.2).bind λb=>(idx t0.ztf s.2).bind λc=>(app 16 s.1 [⟨b.cell,ztU c.ztl⟩]).bind λd=>a (d,ztc s.2 1)else O ⟨s.1,t1⟩
def za3 (n:Nat)(t0:Row)(t1:Int):=ztg (za3.l1 n t0 t1) n ([],0)
def zdk (n:Nat)(t0:Int)(t1:List Bool):=O (1<=t0&&t0<=6&&t1.length==zto t0 t0)
def zcB.l1 (n:Nat)(t0:List Int)(t1:Int)(b:Int->Option Bool)(a:Int):=if Z (a<t0.length)then(idx t0 a).bind λc=>if c==t1 then O U else b (ztc a 1)else O M
def zcB (n:Nat)(t0:List Int)(t1:Int):=ztg (zcB.l1 n t0 t1) n 0
def zcE.l1 (n:Nat)(t0:List Int)(t1:Int)(a:List Int×Int->Option (List Int))(s:List Int×Int):=if Z (s.2<t0.length)then(idx t0 s.2).bind λb=>(app 8 s.1 [b]).bind λc=>a (c,ztc s.2 1)else(app 8 s.1 [t1]).bind λd=>O d
def zcE (n:Nat)(t0:List Int)(t1:Int):=ztg (zcE.l1 n t0 t1) n ([],0)
def zH.l4 (n:Nat)(t0:Int)(t1:List Bool)(b:List (List Int))(a:Int)(g:List (List Int)×List (List Int)×Int->Option (List (List Int)))(l:Int)(e:List (List Int))(h:List (List Int)×Int->Option (List (List Int)))(s:List (List Int)×Int):=if Z (s.2<t0)then jn (λv=>let f:=v;h (f,ztc s.2 1)) λd=>(idx t1 (ztc (zto l t0) s.2)).bind λc=>grd (!c||(idx b a).isSome)<|grd (!c||(zcB n ((idx b a).getD J) s.2).isSome)<|if c&&!(zcB n ((idx b a).getD J) s.2).getD J then(idx b a).bind λi=>(zcE n i s.2).bind λj=>(app 24 s.1 [j]).bind λk=>d k else d s.1 else g (e,s.1,ztc a 1)
def zH.l3 (n:Nat)(t0:Int)(t1:List Bool)(b:List (List Int))(p:Int)(g:List (List Int)×List (List Int)×Int->Option (List (List Int)))(h:List (List Int)×List (List Int)×Int->Option (List (List Int)))(s:List (List Int)×List (List Int)×Int):=let a:=s.2.2;if Z (a<b.length)then(idx b a).bind λi=>(idx i 0).bind λd=>(idx b a).bind λj=>(idx b a).bind λk=>(idx j (ztn k.length 1)).bind λe=>jn (λv=>let f:=v;ztg (zH.l4 n t0 t1 b a h e f) n (s.2.1,ztc d 1)) λc=>(idx t1 (ztc (zto e t0) d)).bind λl=>if l then(idx b a).bind λm=>(app 24 s.1 [m]).bind λo=>c o else c s.1 else g (s.1,s.2.1,ztc p 1)
def zH.l2 (n:Nat)(t0:Int)(t1:List Bool)(a:List (List Int)×List (List Int)×Int->Option (List (List Int)))(s:List (List Int)×List (List Int)×Int):=if Z (s.2.2<t0)then ztg (zH.l3 n t0 t1 s.2.1 s.2.2 a) n (s.1,[],0)else O s.1
def zH.l1 (n:Nat)(t0:Int)(t1:List Bool)(a:List (List Int)×Int->Option (List (List Int)))(s:List (List Int)×Int):=if Z (s.2<t0)then(app 24 s.1 [[s.2]]).bind λb=>a (b,ztc s.2 1)else ztg (zH.l2 n t0 t1) n ([],s.1,0)
def zH (n:Nat)(t0:Int)(t1:List Bool):=(zdk n t0 t1).bind λa=>if !a then O []else ztg (zH.l1 n t0 t1) n ([],0)
def zah.l3 (n:Nat)(t1:Constraint)(t2:ztE)(t3:ztE)(e:List (List Int))(g:List (List Row))(c:Int)(h:List (List Row)->Option (List (List Row)))(i:List Row×Bool×Bool×Int->Option (List (List Row)))(s:List Row×Bool×Bool×Int):=let f:=s.2.2.1;let d:=s.2.2.2;(idx e c).bind λo=>if Z (d<o.length)then(idx e c).bind λp=>(idx e c).bind λq=>(zuo (ztc d 1) q.length).bind λr=>(idx p r).bind λa=>(idx e c).bind λt=>(idx t d).bind λb=>grd (s.2.1||(zaU n t2 (ztc (ztc t1.first (zto b t1.size)) a)).isSome)<|grd (f||(zaU n t3 (ztc (ztc t1.first (zto b t1.size)) a)).isSome)<|(zaU n t2 (ztc (ztc t1.first (zto b t1.size)) a)).bind λj=>(zaU n t3 (ztc (ztc t1.first (zto b t1.size)) a)).bind λk=>(app 32 s.1 [⟨[⟨ztc (ztc t1.first (zto b t1.size)) a,-1⟩],ztc (ztc (-1) j) k⟩]).bind λl=>i (l,s.2.1||0<(zaU n t2 (ztc (ztc t1.first (zto b t1.size)) a)).getD J,f||0<(zaU n t3 (ztc (ztc t1.first (zto b t1.size)) a)).getD J,ztc d 1)else if s.2.1&&f then(app 24 g [s.1]).bind λm=>h m else h g
def zah.l2 (n:Nat)(t1:Constraint)(t2:ztE)(t3:ztE)(a:List (List Int))(d:List (List Row)×Int->Option (List (List Row)))(s:List (List Row)×Int):=if Z (s.2<a.length)then jn (λv=>let b:=v;d (b,ztc s.2 1)) λc=>ztg (zah.l3 n t1 t2 t3 a s.1 s.2 c) n ([],M,M,0)else O s.1
def zah.l1 (n:Nat)(t0:List Range)(t1:Constraint)(t2:ztE)(t3:ztE)(a:List Bool×Int->Option (List (List Row)))(s:List Bool×Int):=if Z (s.2<zto t1.size t1.size)then(idx t0 (ztc t1.first s.2)).bind λb=>(zaU n t2 (ztc t1.first s.2)).bind λc=>(zaU n t3 (ztc t1.first s.2)).bind λd=>(app 1 s.1 [1<=ztc (ztc b.hi c) d]).bind λe=>a (e,ztc s.2 1)else(zH n t1.size s.1).bind λf=>ztg (zah.l2 n t1 t2 t3 f) n ([],0)
def zah (n:Nat)(t0:List Range)(t1:Constraint)(t2:ztE)(t3:ztE):=ztg (zah.l1 n t0 t1 t2 t3) n ([],0)
def za7 (n:Nat)(t0:Int)(t1:Int)(t2:Int):=O (t1<=t0&&t0<=t2)
def zb1.l1 (n:Nat)(t0:Row)(t1:Int)(b:Int×Int->Option Bool)(s:Int×Int):=if Z (s.2<t0.ztf.length)then(idx t0.ztf s.2).bind λa=>grd (a.cell<=s.1||t1<=a.cell||a.ztl==0||(za7 n a.ztl (-1000) 1000).isSome)<|if a.cell<=s.1||t1<=a.cell||a.ztl==0||!(za7 n a.ztl (-1000) 1000).getD J then O M else b (a.cell,ztc s.2 1)else(za7 n t0.bound (-1000000000) 1000000000).bind λc=>O c
def zb1 (n:Nat)(t0:Row)(t1:Int):=ztg (zb1.l1 n t0 t1) n (-1,0)
def zT.l2 (n:Nat)(t0:List Range)(t1:List Row)(b:Int->Option Bool)(a:Int):=if Z (a<t1.length)then(idx t1 a).bind λc=>(zb1 n c t0.length).bind λd=>if !d then O M else b (ztc a 1)else O U
def zT.l1 (n:Nat)(t0:List Range)(t1:List Row)(c:Int->Option Bool)(a:Int):=if Z (a<t0.length)then(idx t0 a).bind λd=>(za7 n d.lo (-1000000) 1000000).bind λb=>grd (!b||(idx t0 a).isSome)<|grd (!b||(za7 n ((idx t0 a).getD J).hi (-1000000) 1000000).isSome)<|if !b||!(za7 n ((idx t0 a).getD J).hi (-1000000) 1000000).getD J then O M else c (ztc a 1)else ztg (zT.l2 n t0 t1) n 0
def zT (n:Nat)(t0:List Range)(t1:List Row):=if Z (128<(t0.length:Int))then O M else ztg (zT.l1 n t0 t1) n 0
def zca.l1 (n:Nat)(t0:List Range)(b:Int->Option Bool)(a:Int):=if Z (a<t0.length)then(idx t0 a).bind λc=>(idx t0 a).bind λd=>if Z (d.hi<c.lo)then O U else b (ztc a 1)else O M
def zca (n:Nat)(t0:List Range):=ztg (zca.l1 n t0) n 0
def z9.l3 (n:Nat)(f:Int)(d:Int->Option Bool)(b:ztv)(e:Int->Option Bool)(a:Int):=if Z (a<b.least.length)then(idx b.least a).bind λc=>grd (c<(-4000000)||(idx b.least a).isSome)<|if c<(-4000000)||4000000<(idx b.least a).getD J then O M else e (ztc a 1)else d (ztc f 1)
def z9.l2 (n:Nat)(t0:System)(c:Int->Option Bool)(b:Int):=if Z (b<t0.zti.length)then(idx t0.zti b).bind λa=>if a.size<1||6<a.size||a.first<0||ztn t0.box.length (zto a.size a.size)<a.first||a.least.length !=zto a.size a.size then O M else ztg (z9.l3 n b c a) n 0 else O U
def z9.l1 (n:Nat)(t0:System)(c:Int->Option Bool)(a:Int):=if Z (a<t0.cases.length)then(idx t0.cases a).bind λb=>grd (64<(b.length:Int)||(idx t0.cases a).isSome)<|grd (64<(b.length:Int)||(zT n t0.box ((idx t0.cases a).getD J)).isSome)<|if 64<(b.length:Int)||!(zT n t0.box ((idx t0.cases a).getD J)).getD J then O M else c (ztc a 1)else ztg (z9.l2 n t0) n 0
def z9 (n:Nat)(t0:System):=grd (1024<(t0.rows.length:Int)||64<(t0.zti.length:Int)||1024<(t0.cases.length:Int)||(zT n t0.box t0.rows).isSome)<|grd (1024<(t0.rows.length:Int)||64<(t0.zti.length:Int)||1024<(t0.cases.length:Int)||!(zT n t0.box t0.rows).getD J||(zca n t0.box).isSome)<|if 1024<(t0.rows.length:Int)||64<(t0.zti.length:Int)||1024<(t0.cases.length:Int)||!(zT n t0.box t0.rows).getD J||(zca n t0.box).getD J then O M else ztg (z9.l1 n t0) n 0
def zp.l5 (n:Nat)(t0:Model)(t1:Question)(c:Action)(d:Action)(l:List Range)(g:List Row)(u:List ztv×Int->Option (System×Int))(s:List ztv×Int):=if Z (s.2<t0.constraints.length)then jn (λv=>let t:=v;u (t,ztc s.2 1)) λi=>(idx t0.constraints s.2).bind λa=>if a.kind !=1 then i s.1 else(zbm n a ⟨[],[],[]⟩).bind λw=>(app 40 s.1 [w]).bind λr=>jn (λv=>let o:=v;(zbw n d.effect a).bind λA=>if A&&t1.e !=t1.f then(zbm n a d.effect).bind λB=>(app 40 o [B]).bind λC=>i C else i o) λq=>(zbw n c.effect a).bind λx=>if x then(zbm n a c.effect).bind λy=>(app 40 r [y]).bind λz=>q z else q r else jn (λv=>let m:=v.1;let p:=v.2;(z9 n ⟨l,m,s.1,p⟩).bind λL=>if !L then O (⟨[],[],[],[]⟩,8)else O (⟨l,m,s.1,p⟩,0)) λh=>if t1.target.hold then(idx c.effect.hold t1.target.index).bind λj=>(zbj n d.effect j).bind λD=>(za3 n j (ztn (ztc (ztU j.bound) D) 1)).bind λE=>(app 32 g [E]).bind λF=>h (F,[])else(idx t0.constraints t1.target.index).bind λb=>if b.kind==0 then(zbj n c.effect b.row).bind λG=>(zbj n d.effect b.row).bind λH=>(za3 n b.row (ztn (ztc (ztc (ztU b.row.bound) G) H) 1)).bind λI=>(app 32 g [I]).bind λxf=>h (xf,[])else(zah n l b c.effect d.effect).bind λk=>if(k.length:Int)==0 then(app 32 g [⟨[],-1⟩]).bind λK=>h (K,k)else h (g,k)
def zp.l4 (n:Nat)(t0:Model)(t1:Question)(h:Action)(a:Action)(i:List Range)(b:List Row×Int->Option (System×Int))(s:List Row×Int):=if s.2<a.effect.hold.length&&t1.e !=t1.f then(idx a.effect.hold s.2).bind λc=>(zco n c).bind λd=>(app 32 s.1 [d]).bind λg=>b (g,ztc s.2 1)else ztg (zp.l5 n t0 t1 h a i s.1) n ([],0)
def zp.l3 (n:Nat)(t0:Model)(t1:Question)(a:Action)(f:Action)(g:List Range)(b:List Row×Int->Option (System×Int))(s:List Row×Int):=if Z (s.2<a.effect.hold.length)then(idx a.effect.hold s.2).bind λc=>(zco n c).bind λd=>(app 32 s.1 [d]).bind λe=>b (e,ztc s.2 1)else ztg (zp.l4 n t0 t1 a f g) n (s.1,0)
def zp.l2 (n:Nat)(t0:Model)(t1:Question)(t2:List Int)(g:Action)(h:Action)(o:List Range)(j:List Row×Int->Option (System×Int))(s:List Row×Int):=if Z (s.2<t0.constraints.length)then jn (λv=>let i:=v;j (i,ztc s.2 1)) λd=>(idx t0.constraints s.2).bind λa=>if a.kind !=0 then d s.1 else(zbj n g.effect a.row).bind λc=>(zbj n h.effect a.row).bind λb=>jn (λv=>let m:=v;(zco n a.row).bind λf=>(app 32 s.1 [⟨f.ztf,ztn f.bound m⟩]).bind λl=>d l) λe=>(zgx n t2 s.2).bind λk=>if k&&(t1.target.hold||t1.target.index !=s.2)then e (gmax (gmax (gmax 0 c) b) (ztc c b))else e (gmax (gmax 0 c) b)else ztg (zp.l3 n t0 t1 g h o) n (s.1,0)
def zp.l1 (n:Nat)(t0:Model)(t1:Question)(t2:List Int)(c:Int->Option (System×Int))(a:Int):=if Z (a<t2.length)then(idx t2 a).bind λb=>grd (b<0||(idx t2 a).isSome)<|grd (b<0||t0.constraints.length<=(idx t2 a).getD J||(idx t2 a).isSome)<|grd (b<0||t0.constraints.length<=(idx t2 a).getD J||(idx t0.constraints ((idx t2 a).getD J)).isSome)<|if b<0||t0.constraints.length<=(idx t2 a).getD J||((idx t0.constraints ((idx t2 a).getD J)).getD J).kind !=0 then O (⟨[],[],[],[]⟩,2)else c (ztc a 1)else(idx t0.zte t1.e).bind λd=>(idx t0.zte t1.f).bind λg=>(zb2 n t0).bind λh=>ztg (zp.l2 n t0 t1 t2 d g h) n ([],0)
def zp (n:Nat)(t0:Model)(t1:Question)(t2:List Int):=(zfQ n t0 t1).bind λa=>if !a then O (⟨[],[],[],[]⟩,1)else ztg (zp.l1 n t0 t1 t2) n 0
def zdl (n:Nat)(t0:Int):=O (0<=t0&&t0<=65536)
def zbI.l1 (n:Nat)(t0:List Range)(t1:Int)(t2:Range)(c:List Range×Int->Option (List Range))(s:List Range×Int):=if Z (s.2<t0.length)then jn (λv=>let b:=v;c (b,ztc s.2 1)) λa=>if s.2==t1 then(app 16 s.1 [t2]).bind λd=>a d else(idx t0 s.2).bind λe=>(app 16 s.1 [e]).bind λf=>a f else O s.1
def zbI (n:Nat)(t0:List Range)(t1:Int)(t2:Range):=ztg (zbI.l1 n t0 t1 t2) n ([],0)
def zkv (n:Nat)(t0:Term)(t1:Range)(t2:Bool):=if(0<t0.ztl)==t2 then O (zto t0.ztl t1.lo)else O (zto t0.ztl t1.hi)
def zeo (n:Nat)(t0:Int)(t1:Int):=(zuo t0 t1).bind λc=>if Z (c<0)then(zul t0 t1).bind λa=>O (ztn a 1)else(zul t0 t1).bind λb=>O b
def zbq.l1 (n:Nat)(t0:Row)(t1:List Range)(t2:Int)(b:Range)(i:Int×Int×Int->Option Range)(s:Int×Int×Int):=let a:=s.2.1;if Z (s.2.2<t0.ztf.length)then jn (λv=>let o:=v.1;let p:=v.2;i (o,p,ztc s.2.2 1)) λf=>(idx t0.ztf s.2.2).bind λc=>if c.cell==t2 then f (s.1,c.ztl)else(idx t1 c.cell).bind λj=>(zkv n c j U).bind λk=>f (ztn s.1 k,a)else jn (λv=>let e:=v;jn (λv=>let d:=v;if a !=0&&e<d then O ⟨1,0⟩else O ⟨d,e⟩) λh=>if Z (a<0)then(zeo n s.1 (ztU a)).bind λm=>h (gmax b.lo (ztU m))else h b.lo) λg=>if Z (0<a)then(zeo n s.1 a).bind λl=>g (gmin b.hi l)else g b.hi
def zbq (n:Nat)(t0:Row)(t1:List Range)(t2:Int):=(zT n t1 [t0]).bind λa=>if !a||t2<0||t1.length<=t2 then O ⟨0,0⟩else(idx t1 t2).bind λb=>ztg (zbq.l1 n t0 t1 t2 b) n (t0.bound,0,0)
def zbf.l1 (n:Nat)(t0:ztv)(t1:List Range)(a:List Bool×Int->Option (List Bool))(s:List Bool×Int):=if Z (s.2<zto t0.size t0.size)then(idx t1 (ztc t0.first s.2)).bind λb=>(idx t0.least s.2).bind λc=>(app 1 s.1 [c<=b.lo]).bind λd=>a (d,ztc s.2 1)else O s.1
def zbf (n:Nat)(t0:ztv)(t1:List Range):=ztg (zbf.l1 n t0 t1) n ([],0)
def zaw.l3 (n:Nat)(t0:Int)(t1:List Bool)(b:List (List Int))(a:Int)(f:List (List Int)×Int->Option (List Int))(i:Int)(g:List (List Int)×Int->Option (List Int))(s:List (List Int)×Int):=if Z (s.2<t0)then jn (λv=>let e:=v;g (e,ztc s.2 1)) λd=>(idx t1 (ztc (zto i t0) s.2)).bind λc=>grd (!c||(idx b a).isSome)<|grd (!c||(zcB n ((idx b a).getD J) s.2).isSome)<|if c&&!(zcB n ((idx b a).getD J) s.2).getD J then(idx b a).bind λj=>(zcE n j s.2).bind λk=>(app 24 s.1 [k]).bind λh=>d h else d s.1 else f (s.1,ztc a 1)
def zaw.l2 (n:Nat)(t0:Int)(t1:List Bool)(t3:Int)(a:List (List Int))(e:Int)(c:List (List Int)×Int->Option (List Int))(d:List (List Int)×Int->Option (List Int))(s:List (List Int)×Int):=if Z (s.2<a.length)then(idx a s.2).bind λf=>(idx a s.2).bind λg=>(idx f (ztn g.length 1)).bind λb=>if b==t3 then(idx a s.2).bind λh=>O h else ztg (zaw.l3 n t0 t1 a s.2 d b) n (s.1,0)else c (s.1,ztc e 1)
def zaw.l1 (n:Nat)(t0:Int)(t1:List Bool)(t3:Int)(a:List (List Int)×Int->Option (List Int))(s:List (List Int)×Int):=if Z (s.2<t0)then ztg (zaw.l2 n t0 t1 t3 s.1 s.2 a) n ([],0)else O []
def zaw (n:Nat)(t0:Int)(t1:List Bool)(t2:Int)(t3:Int):=(zdk n t0 t1).bind λa=>if !a||t2<0||t0<=t2||t3<0||t0<=t3 then O []else ztg (zaw.l1 n t0 t1 t3) n ([[t2]],0)
def zh3 (n:Nat)(t0:ztv)(t1:List Range)(t2:Int):Option Range:=(idx t1 (ztc t0.first t2)).bind λa=>(zul t2 t0.size).bind λb=>(zuo t2 t0.size).bind λc=>jn (λv=>let f:=v;O ⟨a.lo,f⟩) λe=>(idx t0.least t2).bind λd=>grd (! d<=a.hi||(b==c||(zbf n t0 t1).isSome))<|grd (! d<=a.hi||(b==c||(zaw n t0.size ((zbf n t0 t1).getD J) c b).isSome))<|if d<=a.hi&&(b==c||0<(((zaw n t0.size ((zbf n t0 t1).getD J) c b).getD J).length:Int))then(idx t0.least t2).bind λg=>e (gmin a.hi (ztn g 1))else e a.hi
def zab.l5 (n:Nat)(t2:List ztv)(t3:Int)(c:Int)(o:List Step×List Range×Bool×Bool×Int->Option Box)(p:List Step×List Range×Bool×Bool×Int->Option Box)(s:List Step×List Range×Bool×Bool×Int):=let a:=s.2.1;let d:=s.2.2.1;let e:=s.2.2.2.1;let b:=s.2.2.2.2;(idx t2 c).bind λw=>(idx t2 c).bind λq=>if Z (b<zto w.size q.size)then jn (λv=>let j:=v.1;let k:=v.2.1;let l:=v.2.2.1;let m:=v.2.2.2;p (j,k,l,m,ztc b 1)) λf=>(idx t2 c).bind λg=>if d then(idx t2 c).bind λr=>(zh3 n r a b).bind λh=>(idx a (ztc g.first b)).bind λt=>if ! h=t then if Z (t3<=s.1.length)then f (s.1,a,M,M)else(app 24 s.1 [⟨1,c,ztc g.first b⟩]).bind λi=>if ztc g.first b<0||h.hi<h.lo then f (i,a,M,e)else(zbI n a (ztc g.first b) h).bind λu=>f (i,u,d,e)else f (s.1,a,d,e)else f (s.1,a,d,e)else o (s.1,a,d,e,ztc c 1)
def zab.l4 (n:Nat)(t2:List ztv)(t3:Int)(c:List Step)(d:List Step×List Range×Bool×Bool->Option Box)(e:List Step×List Range×Bool×Bool×Int->Option Box)(s:List Step×List Range×Bool×Bool×Int):=let a:=s.2.2.1;let b:=s.2.2.2.1;if Z (s.2.2.2.2<t2.length)then ztg (zab.l5 n t2 t3 s.2.2.2.2 e) n (s.1,s.2.1,a,b,0)else if !a||s.1.length==(c.length:Int)then O ⟨s.1,s.2.1,a,b⟩else d (s.1,s.2.1,a,b)
def zab.l3 (n:Nat)(t1:List Row)(t3:Int)(f:Int)(o:List Step×List Range×Bool×Bool×Int->Option Box)(p:List Step×List Range×Bool×Bool×Int->Option Box)(s:List Step×List Range×Bool×Bool×Int):=let a:=s.2.1;let b:=s.2.2.1;let c:=s.2.2.2.1;let h:=s.2.2.2.2;(idx t1 f).bind λr=>if Z (h<r.ztf.length)then jn (λv=>let j:=v.1;let k:=v.2.1;let l:=v.2.2.1;let m:=v.2.2.2;p (j,k,l,m,ztc h 1)) λd=>(idx t1 f).bind λt=>(idx t.ztf h).bind λe=>if b then(idx t1 f).bind λu=>(zbq n u a e.cell).bind λg=>(idx a e.cell).bind λw=>if ! g=w then if Z (t3<=s.1.length)then d (s.1,a,M,M)else(app 24 s.1 [⟨0,f,e.cell⟩]).bind λi=>if e.cell<0||g.hi<g.lo then d (i,a,M,c)else(zbI n a e.cell g).bind λq=>d (i,q,b,c)else d (s.1,a,b,c)else d (s.1,a,b,c)else o (s.1,a,b,c,ztc f 1)
def zab.l2 (n:Nat)(t1:List Row)(t2:List ztv)(t3:Int)(g:List Step)(l:List Step×List Range×Bool×Bool->Option Box)(m:List Step×List Range×Bool×Bool×Int->Option Box)(s:List Step×List Range×Bool×Bool×Int):=let c:=s.2.1;let b:=s.2.2.1;let d:=s.2.2.2.1;let a:=s.2.2.2.2;if Z (a<t1.length)then jn (λv=>let h:=v.1;let i:=v.2.1;let j:=v.2.2.1;let k:=v.2.2.2;ztg (zab.l3 n t1 t3 a m) n (h,i,j,k,0)) λe=>grd (!b||(idx t1 a).isSome)<|grd (!(b&&((((idx t1 a).getD J).ztf).length:Int)==0)||(idx t1 a).isSome)<|if b&&((((idx t1 a).getD J).ztf).length:Int)==0&&((idx t1 a).getD J).bound<0 then if Z (t3<=s.1.length)then e (s.1,c,M,M)else(app 24 s.1 [⟨0,a,-1⟩]).bind λf=>if-1<0||0<0 then e (f,c,M,d)else(zbI n c (-1) ⟨0,0⟩).bind λo=>e (f,o,b,d)else e (s.1,c,b,d)else ztg (zab.l4 n t2 t3 g l) n (s.1,c,b,d,0)
def zab.l1 (n:Nat)(t1:List Row)(t2:List ztv)(t3:Int)(a:List Step×List Range×Bool×Bool->Option Box)(s:List Step×List Range×Bool×Bool):=ztg (zab.l2 n t1 t2 t3 s.1 a) n (s.1,s.2.1,s.2.2.1,s.2.2.2,0)
def zab (n:Nat)(t0:List Range)(t1:List Row)(t2:List ztv)(t3:Int):=(zbI n t0 (-1) ⟨0,0⟩).bind λa=>ztg (zab.l1 n t1 t2 t3) n ([],a,U,U)
def zbP.l1 (n:Nat)(t0:List Range)(a:List Int×Int->Option (List Int))(s:List Int×Int):=if Z (s.2<t0.length)then(idx t0 s.2).bind λb=>(app 8 s.1 [b.lo]).bind λc=>a (c,ztc s.2 1)else O s.1
def zbP (n:Nat)(t0:List Range):=ztg (zbP.l1 n t0) n ([],0)
def zdp (n:Nat)(t0:Range):=(zT n [t0] []).bind λb=>if !b then O 0 else(zeo n (ztc t0.lo t0.hi) 2).bind λa=>O a
def zM.l5 (n:Nat)(self:System->List Row->List Range->Bool->Int->Option Answer)(t0:System)(t1:List Row)(t4:Int)(c:Box)(b:Int)(d:Int)(h:List Tree×Int×Int->Option Answer)(s:List Tree×Int×Int):=if Z (s.2.2<2)then(idx c.box b).bind λi=>jn (λv=>let f:=v.1;let g:=v.2;(zbI n c.box b ⟨f,g⟩).bind λk=>(self t0 t1 k M (ztn t4 s.2.1)).bind λa=>if a.kind==2 then O a else if a.kind==0 then O ⟨0,0,a.values,⟨0,[],0,0,[]⟩,ztc s.2.1 a.steps⟩else(app 72 s.1 [a.tree]).bind λl=>h (l,ztc s.2.1 a.steps,ztc s.2.2 1)) λe=>if s.2.2==1 then(idx c.box b).bind λj=>e (ztc d 1,j.hi)else e (i.lo,d)else O ⟨1,0,[],⟨1,c.steps,b,d,s.1⟩,s.2.1⟩
def zM.l4 (n:Nat)(self:System->List Row->List Range->Bool->Int->Option Answer)(t0:System)(t1:List Row)(t4:Int)(a:Box)(c:Int×Int->Option Answer)(s:Int×Int):=if Z (0<=s.2)then jn (λv=>let i:=v;c (i,ztn s.2 1)) λb=>(idx a.box s.2).bind λd=>(idx a.box s.2).bind λe=>if Z (d.lo<e.hi)then b s.2 else b s.1 else if Z (s.1<0)then(zbP n a.box).bind λf=>O ⟨0,0,f,⟨0,[],0,0,[]⟩,ztc 1 a.steps.length⟩else(idx a.box s.1).bind λg=>(zdp n g).bind λh=>ztg (zM.l5 n self t0 t1 t4 a s.1 h) n ([],ztc 1 a.steps.length,0)
def zM.l3 (n:Nat)(self:System->List Row->List Range->Bool->Int->Option Answer)(t0:System)(t4:Int)(h:Box)(d:List Tree)(c:Int)(b:Int)(f:List Tree×Int×Int->Option Answer)(e:List Row×Int->Option Answer)(s:List Row×Int):=(idx t0.cases b).bind λi=>if Z (s.2<i.length)then(idx t0.cases b).bind λj=>(idx j s.2).bind λk=>(app 32 s.1 [k]).bind λl=>e (l,ztc s.2 1)else(self t0 s.1 h.box M (ztn t4 c)).bind λa=>if a.kind==2 then O a else if a.kind==0 then O ⟨0,b,a.values,⟨0,[],0,0,[]⟩,ztc c a.steps⟩else(app 72 d [a.tree]).bind λg=>f (g,ztc c a.steps,ztc b 1)
def zM.l2 (n:Nat)(self:System->List Row->List Range->Bool->Int->Option Answer)(t0:System)(t1:List Row)(t4:Int)(f:Box)(a:List Tree)(b:Int)(e:Int)(c:List Tree×Int×Int->Option Answer)(d:List Row×Int->Option Answer)(s:List Row×Int):=if Z (s.2<t1.length)then(idx t1 s.2).bind λg=>(app 32 s.1 [g]).bind λh=>d (h,ztc s.2 1)else ztg (zM.l3 n self t0 t4 f a b e c) n (s.1,0)
def zM.l1 (n:Nat)(self:System->List Row->List Range->Bool->Int->Option Answer)(t0:System)(t1:List Row)(t4:Int)(a:Box)(b:List Tree×Int×Int->Option Answer)(s:List Tree×Int×Int):=if Z (s.2.2<t0.cases.length)then ztg (zM.l2 n self t0 t1 t4 a s.1 s.2.1 s.2.2 b) n ([],0)else O ⟨1,0,[],⟨2,a.steps,0,0,s.1⟩,s.2.1⟩
def zM.body (n:Nat)(self:System->List Row->List Range->Bool->Int->Option Answer)(t0:System)(t1:List Row)(t2:List Range)(t3:Bool)(t4:Int):=if Z (t4<1)then O ⟨2,0,[],⟨0,[],0,0,[]⟩,0⟩else(zab n t2 t1 t0.zti (ztn t4 1)).bind λa=>if !a.fine then O ⟨2,0,[],⟨0,[],0,0,[]⟩,0⟩else if !a.open_ then O ⟨1,0,[],⟨0,a.steps,0,0,[]⟩,ztc 1 a.steps.length⟩else if t3&&0<(t0.cases.length:Int)then ztg (zM.l1 n self t0 t1 t4 a) n ([],ztc 1 a.steps.length,0)else ztg (zM.l4 n self t0 t1 t4 a) n (-1,ztn a.box.length 1)
def zM:Nat->System->List Row->List Range->Bool->Int->Option Answer|0,_,_,_,_,_=>Y|n+1,t0,t1,t2,t3,t4=>zM.body n (zM n) t0 t1 t2 t3 t4
def zgQ (n:Nat)(t0:System)(t1:Int):Option (Answer×Int):=(z9 n t0).bind λc=>if !c then O (⟨0,0,[],⟨0,[],0,0,[]⟩,0⟩,1)else(zdl n t1).bind λb=>if !b then O (⟨0,0,[],⟨0,[],0,0,[]⟩,0⟩,2)else(zM n t0 t0.rows t0.box U t1).bind λa=>if a.kind==2 then O (⟨2,0,[],⟨0,[],0,0,[]⟩,t1⟩,0)else O (a,0)
def zcU (n:Nat)(t0:Model)(t1:Question)(t2:Int)(t3:List Int):Option (ztM×Int):=(zp n t0 t1 t3).bind λb=>if b.2 !=0&&b.2 !=8 then O (⟨0,[],⟨0,[],0,0,[]⟩,0⟩,b.2)else(zdl n t2).bind λc=>if !c then O (⟨0,[],⟨0,[],0,0,[]⟩,0⟩,2)else if b.2==8 then O (⟨2,[],⟨0,[],0,0,[]⟩,0⟩,0)else(zgQ n b.1 t2).bind λa=>if a.1.kind==0 then O (⟨0,a.1.values,⟨0,[],0,0,[]⟩,a.1.steps⟩,0)else if a.1.kind==1 then O (⟨1,[],a.1.tree,a.1.steps⟩,0)else O (⟨2,[],⟨0,[],0,0,[]⟩,a.1.steps⟩,0)
def zcn.l1 (n:Nat)(t0:List Int)(t1:List Int)(b:Int->Option Bool)(a:Int):=if Z (a<t0.length)then(idx t0 a).bind λc=>(idx t1 a).bind λd=>if c !=d then O M else b (ztc a 1)else O U
def zcn (n:Nat)(t0:List Int)(t1:List Int):=if t0.length !=(t1.length:Int)then O M else ztg (zcn.l1 n t0 t1) n 0
def zcb.l1 (n:Nat)(t0:List Step)(t1:List Step)(b:Int->Option Bool)(a:Int):=if Z (a<t0.length)then(idx t0 a).bind λc=>(idx t1 a).bind λd=>if ! c=d then O M else b (ztc a 1)else O U
def zcb (n:Nat)(t0:List Step)(t1:List Step):=if t0.length !=(t1.length:Int)then O M else ztg (zcb.l1 n t0 t1) n 0
def zbl.l1 (n:Nat)(self:Tree->Tree->Option Bool)(t0:Tree)(t1:Tree)(b:Int->Option Bool)(a:Int):=if Z (a<t0.kids.length)then(idx t0.kids a).bind λc=>(idx t1.kids a).bind λd=>(self c d).bind λe=>if !e then O M else b (ztc a 1)else O U
def zbl.body (n:Nat)(self:Tree->Tree->Option Bool)(t0:Tree)(t1:Tree):=grd (t0.kind !=t1.kind||t0.cell !=t1.cell||t0.at_ !=t1.at_||(zcb n t0.steps t1.steps).isSome)<|if t0.kind !=t1.kind||t0.cell !=t1.cell||t0.at_ !=t1.at_||!(zcb n t0.steps t1.steps).getD J||t0.kids.length !=(t1.kids.length:Int)then O M else ztg (zbl.l1 n self t0 t1) n 0
def zbl:Nat->Tree->Tree->Option Bool|0,_,_=>Y|n+1,t0,t1=>zbl.body n (zbl n) t0 t1
def zfr (n:Nat)(t0:ztM)(t1:ztM):=grd (! t0.kind==t1.kind||(zcn n t0.state t1.state).isSome)<|grd (!(t0.kind==t1.kind&&(zcn n t0.state t1.state).getD J)||(zbl n t0.tree t1.tree).isSome)<|O (t0.kind==t1.kind&&(zcn n t0.state t1.state).getD J&&(zbl n t0.tree t1.tree).getD J&&t0.steps==t1.steps)
def zdJ (n:Nat)(t0:Model)(t1:Question)(t2:Int)(t3:List Int):=(zhk n).bind λc=>if !c then O M else(zbO n t0).bind λd=>if !d||50<(t3.length:Int)then O U else(zbM n t0 t1 t2 t3).bind λa=>(zcU n t0 t1 t2 t3).bind λb=>grd (! a.2==b.2||(zfr n a.1 b.1).isSome)<|O (a.2==b.2&&(zfr n a.1 b.1).getD J)
def zht.l1 (n:Nat)(t0:Model)(b:Int×Int->Option Int)(s:Int×Int):=if Z (s.2<t0.tables.length)then jn (λv=>let g:=v;b (g,ztc s.2 1)) λa=>(idx t0.tables s.2).bind λc=>(zeV n c.kind).bind λd=>if d then(idx t0.tables s.2).bind λe=>(zb9 n t0 e).bind λf=>a (ztc s.1 f)else a s.1 else O s.1
def zht (n:Nat)(t0:Model):=ztg (zht.l1 n t0) n (0,0)
def zep.l1 (n:Nat)(t0:List Int)(t1:ztE)(a:List Int×Int->Option (List Int))(s:List Int×Int):=if Z (s.2<t0.length)then(idx t0 s.2).bind λb=>(zaU n t1 s.2).bind λc=>(app 8 s.1 [ztc b c]).bind λd=>a (d,ztc s.2 1)else O s.1
def zep (n:Nat)(t0:List Int)(t1:ztE):=ztg (zep.l1 n t0 t1) n ([],0)
def zd3.l1 (n:Nat)(t0:Constraint)(t1:Int)(c:Int->Option Bool)(a:Int):=if Z (a<t0.row.ztf.length)then(idx t0.row.ztf a).bind λb=>grd (b.cell<0||(idx t0.row.ztf a).isSome)<|if b.cell<0||t1<=((idx t0.row.ztf a).getD J).cell then O M else c (ztc a 1)else O (t0.kind==0)
def zd3 (n:Nat)(t0:Constraint)(t1:Int):=if t0.kind==1 then O (1<=t0.size&&t0.size<=6&&0<=t0.first&&t0.first<=ztn t1 (zto t0.size t0.size))else ztg (zd3.l1 n t0 t1) n 0
def zfp (n:Nat)(t0:Constraint)(t1:List Int)(t2:Int)(t3:Int):Option Bool:=(idx t1 (ztc (ztc t0.first (zto t2 t0.size)) t3)).bind λa=>O (1<=a)
def zd2.l1 (n:Nat)(t0:List Int)(t1:Int)(b:Int->Option Bool)(a:Int):=if Z (a<t0.length)then(idx t0 a).bind λc=>if c==t1 then O U else b (ztc a 1)else O M
def zd2 (n:Nat)(t0:List Int)(t1:Int):=ztg (zd2.l1 n t0 t1) n 0
def zbe.l1 (n:Nat)(self:Constraint->List Int->List Int->Int->Option (List (List Int)))(t0:Constraint)(t1:List Int)(t2:List Int)(t3:Int)(b:Int)(e:List (List Int)×Int->Option (List (List Int)))(s:List (List Int)×Int):=if Z (s.2<t0.size)then jn (λv=>let d:=v;e (d,ztc s.2 1)) λa=>(zd2 n t2 s.2).bind λc=>grd (c||(zfp n t0 t1 b s.2).isSome)<|if c||!(zfp n t0 t1 b s.2).getD J then a s.1 else(app 8 [] t2).bind λf=>(app 8 f [s.2]).bind λg=>(self t0 t1 g t3).bind λh=>(app 24 s.1 h).bind λi=>a i else O s.1
def zbe.body (n:Nat)(self:Constraint->List Int->List Int->Int->Option (List (List Int)))(t0:Constraint)(t1:List Int)(t2:List Int)(t3:Int):=(idx t2 (ztn t2.length 1)).bind λa=>if t2.length==t3 then(idx t2 0).bind λb=>(zfp n t0 t1 a b).bind λc=>if c then O [t2]else O []else(idx t2 0).bind λd=>ztg (zbe.l1 n self t0 t1 t2 t3 a) n ([],ztc d 1)
def zbe:Nat->Constraint->List Int->List Int->Int->Option (List (List Int))|0,_,_,_,_=>Y|n+1,t0,t1,t2,t3=>zbe.body n (zbe n) t0 t1 t2 t3
def zeC.l2 (n:Nat)(t0:Constraint)(t1:List Int)(c:Int)(d:Int->Option (List Int))(e:Int->Option (List Int))(a:Int):=if Z (a<t0.size)then(zbe n t0 t1 [a] c).bind λb=>if Z (0<(b.length:Int))then(idx b 0).bind λf=>O f else e (ztc a 1)else d (ztc c 1)
def zeC.l1 (n:Nat)(t0:Constraint)(t1:List Int)(b:Int->Option (List Int))(a:Int):=if Z (a<=t0.size)then ztg (zeC.l2 n t0 t1 a b) n 0 else O []
def zeC (n:Nat)(t0:Constraint)(t1:List Int):=grd (t0.kind !=1||(zd3 n t0 t1.length).isSome)<|if t0.kind !=1||!(zd3 n t0 t1.length).getD J then O []else ztg (zeC.l1 n t0 t1) n 1
def zhs.l1 (n:Nat)(t0:Row)(t1:List Int)(d:Int×Int×Int->Option Bool)(s:Int×Int×Int):=if Z (s.2.2<t0.ztf.length)then(idx t0.ztf s.2.2).bind λa=>(idx t1 a.cell).bind λe=>(zul e 4294967296).bind λf=>(idx t1 a.cell).bind λg=>(zuo g 4294967296).bind λh=>d (ztc s.1 (zto a.ztl f),ztc s.2.1 (zto a.ztl h),ztc s.2.2 1)else(shrO .i64 s.2.1 32).bind λb=>(shrO .i64 t0.bound 32).bind λc=>O (ztc s.1 b<c||ztc s.1 b==c&&band .i64 s.2.1 4294967295<=band .i64 t0.bound 4294967295)
def zhs (n:Nat)(t0:Row)(t1:List Int):=ztg (zhs.l1 n t0 t1) n (0,0,0)
def znZ (n:Nat)(t0:Constraint)(t1:List Int):=(zd3 n t0 t1.length).bind λc=>if !c then O M else if t0.kind==1 then(zeC n t0 t1).bind λa=>O ((a.length:Int)==0)else(zhs n t0.row t1).bind λb=>O b
def zdj (n:Nat)(t0:Constraint)(t1:List Int):=(znZ n t0 t1).bind λa=>O a
def zm8 (n:Nat)(t0:Row)(t1:List Int):=(zdj n ⟨0,0,t0,0,0⟩ t1).bind λa=>O a
def zcc.l2 (n:Nat)(t1:ztE)(t2:List Int)(b:Int->Option Bool)(a:Int):=if Z (a<t1.hold.length)then(idx t1.hold a).bind λc=>(zm8 n c t2).bind λd=>if !d then O M else b (ztc a 1)else O U
def zcc.l1 (n:Nat)(t0:Model)(t1:ztE)(t2:List Int)(c:List Int)(d:Int->Option Bool)(a:Int):=if Z (a<t0.constraints.length)then(idx t0.constraints a).bind λe=>(zdj n e t2).bind λb=>grd (!b||(idx t0.constraints a).isSome)<|grd (!b||(zdj n ((idx t0.constraints a).getD J) c).isSome)<|if !b||!(zdj n ((idx t0.constraints a).getD J) c).getD J then O M else d (ztc a 1)else ztg (zcc.l2 n t1 t2) n 0
def zcc (n:Nat)(t0:Model)(t1:ztE)(t2:List Int):=(zep n t2 t1).bind λa=>ztg (zcc.l1 n t0 t1 t2 a) n 0
def zfS.l2 (n:Nat)(t0:Model)(t1:Question)(t2:List Int)(t3:List Int)(i:Action)(j:Action)(b:List Int)(c:Int->Option Bool)(a:Int):=if Z (a<t2.length)then grd (t1.target.hold||(idx t2 a).isSome)<|grd (!(t1.target.hold||t1.target.index !=(idx t2 a).getD J)||(idx t2 a).isSome)<|grd (!(t1.target.hold||t1.target.index !=(idx t2 a).getD J)||(idx t0.constraints ((idx t2 a).getD J)).isSome)<|grd (!(t1.target.hold||t1.target.index !=(idx t2 a).getD J)||(zdj n ((idx t0.constraints ((idx t2 a).getD J)).getD J) b).isSome)<|if(t1.target.hold||t1.target.index !=(idx t2 a).getD J)&&!(zdj n ((idx t0.constraints ((idx t2 a).getD J)).getD J) b).getD J then O M else c (ztc a 1)else if t1.target.hold then(idx i.effect.hold t1.target.index).bind λd=>(zep n t3 j.effect).bind λe=>(zm8 n d e).bind λf=>O (!f)else(idx t0.constraints t1.target.index).bind λg=>(zdj n g b).bind λh=>O (!h)
def zfS.l1 (n:Nat)(t0:Model)(t1:Question)(t2:List Int)(t3:List Int)(h:Int->Option Bool)(a:Int):=if Z (a<t2.length)then(idx t2 a).bind λd=>grd (d<0||(idx t2 a).isSome)<|if d<0||t0.constraints.length<=(idx t2 a).getD J then O M else h (ztc a 1)else(idx t0.zte t1.e).bind λc=>(idx t0.zte t1.f).bind λb=>(zcc n t0 c.effect t3).bind λg=>grd (!g||(zcc n t0 b.effect t3).isSome)<|if !g||!(zcc n t0 b.effect t3).getD J then O M else(zep n t3 c.effect).bind λi=>(zep n i b.effect).bind λj=>ztg (zfS.l2 n t0 t1 t2 t3 c b j) n 0
def zfS (n:Nat)(t0:Model)(t1:Question)(t2:List Int)(t3:List Int):=(zht n t0).bind λa=>if t3.length !=a then O M else ztg (zfS.l1 n t0 t1 t2 t3) n 0
end
section
set_option maxRecDepth 100000
variable[Drw]
def zvM {α:Type}:Nat->Nat->List α->Option (List α)
 |0,0,_=>O []|0,n+1,c::cs=>match zvM 0 n cs with
  |some l=>O (c::l)|none=>Y
 |o+1,n,_::cs=>zvM o n cs|_,_,[]=>Y
theorem zjG {α}:∀{o n}{cs l:List α},zvM o n cs=O l->l=(cs.drop o).take n/\o+n<=cs.length
 |0,0,cs,l,h=>by grind[zvM]|0,n+1,[],l,h=>by grind[zvM]|0,n+1,c::cs,l,h=>by rw[zvM]at h;cases a:zvM 0 n cs with
  |none=>simp_all|some m=>rw[a]at h;obtain⟨e,b⟩:=zjG a;simp_all
 |o+1,n,[],l,h=>by grind[zvM]|o+1,n,c::cs,l,h=>by
  rw[zvM]at h;obtain⟨e,b⟩:=zjG h;grind
def zfit:D->Value->Bool|.val (.int k a),.int k' b=>decide (k=k')&&Z (a=b)|.val (.bool a),.bool b=>zw0 a b|.val (.string a),.string b=>a.data.toList.isEmpty&&b.data.toList.isEmpty|.sl _ [],.slice Y 0 0=>U|.osl _ [],.slice Y 0 0=>U|.val (.slice Y 0 0),.slice Y 0 0=>U|.val .nilFunc,.nilFunc=>U|.val (.map Y),.map Y=>U|.val (.pointer Y),.pointer Y=>U|_,_=>M
def zwb:List D->List Value->Bool|[],[]=>U|d::ds,v::vs=>zfit d v&&zwb ds vs|_,_=>M
def zdB (P:Program)(t:Nat)(d:D):Bool:=match zbE P t with
 |some z=>match d,z with
  |.agg ds,.agg vs=>zwb ds vs.toList|_,_=>zfit d z
 |none=>M
theorem zsJ {a b:ByteArray}(h:(a.data.toList.isEmpty&&b.data.toList.isEmpty)=U):a=b:=by obtain⟨⟨l⟩⟩:=a;obtain⟨⟨m⟩⟩:=b;simp_all
theorem zo5 {A w}:∀{d}{v},zfit d v=U->d.rep A w v:=by
 intro d v h;unfold zfit at h;split at h;·simp only[yd]at h;grind[xC]
 ·grind[zjE,xC]
 ·grind[zsJ,xC]
 ·simp only[xC];simp_all
 ·simp only[xC];simp_all
 ·grind[xC]
 ·grind[xC]
 ·grind[xC]
 ·grind[xC]
 grind
theorem zlB {A w}:∀{ds}{vs},zwb ds vs=U->xv A w ds vs|[],[],_=>by grind[xv]|[],_::_,h=>by grind[zwb]|_::_,[],h=>by grind[zwb]|d::ds,v::vs,h=>by simp only[zwb,yd]at h;exact⟨v,vs,rfl,zo5 h.1,zlB h.2⟩
theorem zrS {P t d}(h:zdB P t d=U):zu2 P t d:=by
 unfold zdB at h;split at h
 ·rename_i z a;refine⟨z,a,λA w=>?_⟩;split at h;·exact⟨_,rfl,zlB h⟩
  grind[zo5]
 grind
def tF2l:List (Nat×List (Option (Nat×Nat))):=[(34,[Y,Y,O (2,2)]),(42,[Y,Y,O (2,5)]),(57,[Y,Y,O (2,2)]),(79,[Y,Y,O (2,3)]),(91,[Y,Y,Y,O (3,5)]),(107,[Y,Y,Y,O (3,2)]),(132,[O (0,4)]),(134,[Y,Y,O (2,5)]),(153,[O (0,4)]),(218,[O (0,7)]),(255,[O (0,7)])]
def tStl:List Nat:=[9]
def tEl:List (Nat×Nat×Nat×Nat):=[(22,3,1,8),(23,107,6,72),(24,9,1,16),(25,57,6,64),(26,111,3,48),(27,79,5,104),(28,202,3,24),(37,149,3,24),(38,40,5,72),(51,22,1,24),(53,109,2,16),(73,113,2,16),(74,55,2,32),(75,243,3,24),(80,83,2,16),(84,124,3,40),(85,74,1,24),(173,4,1,1),(216,221,2,32),(267,271,4,32),(339,341,2,16),(344,350,3,6),(345,353,3,12)]
def tZdl:List (Nat×D):=[(3,.int 0),(4,.bool M),(5,.val (.int .u8 0)),(9,.str []),(21,.val (.int .i32 0)),(22,.sl 1 []),(23,.sl 6 []),(24,.sl 1 []),(25,.sl 6 []),(26,.sl 3 []),(27,.sl 5 []),(28,.sl 3 []),(30,.agg [.sl 1 [],.sl 6 [],.sl 1 [],.sl 6 [],.sl 3 [],.sl 5 [],.sl 3 []]),(32,.agg [.bool M,.int 0]),(34,.agg [.int 0,.int 0,.bool M,.int 0]),(37,.sl 3 []),(38,.sl 5 []),(40,.agg [.int 0,.sl 3 [],.int 0,.int 0,.sl 5 []]),(42,.agg [.int 0,.sl 1 [],.int 0,.sl 3 [],.int 0,.int 0,.sl 5 [],.int 0]),(43,.int 0),(51,.sl 1 []),(53,.sl 2 []),(55,.agg [.sl 2 [],.int 0]),(57,.agg [.int 0,.int 0,.sl 2 [],.int 0,.int 0,.int 0]),(60,.val .nilFunc),(64,.agg [.int 0,.int 0,.int 0]),(73,.sl 2 []),(74,.sl 2 []),(75,.sl 3 []),(77,.agg [.sl 2 [],.sl 2 [],.sl 3 []]),(79,.agg [.int 0,.sl 1 [],.sl 2 [],.sl 2 [],.sl 3 []]),(80,.sl 2 []),(83,.agg [.int 0,.int 0]),(84,.sl 3 []),(85,.sl 1 []),(87,.agg [.sl 2 [],.sl 2 [],.sl 3 [],.sl 1 []]),(91,.agg [.int 0,.int 0,.sl 1 [],.int 0,.sl 3 [],.int 0,.int 0,.sl 5 [],.int 0]),(95,.val (.map Y)),(107,.agg [.str [],.int 0,.sl 1 [],.int 0,.int 0,.int 0]),(109,.agg [.int 0,.int 0]),(111,.agg [.str [],.bool M,.sl 1 []]),(113,.agg [.int 0,.int 0]),(124,.agg [.int 0,.int 0,.sl 1 []]),(130,.val (.pointer Y)),(132,.agg [.sl 2 [],.sl 2 [],.sl 3 [],.sl 1 [],.sl 2 [],.int 0,.int 0]),(134,.agg [.osl 1 [],.int 0,.int 0,.sl 3 [],.int 0,.int 0,.sl 5 []]),(149,.agg [.int 0,.int 0,.int 0]),(153,.agg [.sl 2 [],.sl 2 [],.sl 3 [],.sl 1 [],.sl 2 [],.sl 2 [],.bool M]),(173,.sl 1 []),(192,.agg [.sl 3 [],.sl 2 [],.bool M,.bool M]),(202,.agg [.int 0,.int 0,.int 0]),(216,.sl 2 []),(218,.agg [.sl 1 [],.sl 6 [],.sl 1 [],.sl 6 [],.sl 3 [],.sl 5 [],.sl 3 [],.sl 2 [],.sl 2 []]),(221,.agg [.int 0,.sl 1 []]),(223,.agg [.int 0,.sl 1 []]),(243,.agg [.int 0,.int 0,.int 0]),(248,.val .nilFunc),(255,.agg [.sl 1 [],.sl 6 [],.sl 1 [],.sl 6 [],.sl 3 [],.sl 5 [],.sl 3 [],.sl 2 []]),(260,.val (.int .u64 0)),(267,.sl 4 []),(271,.agg [.int 0,.int 0,.int 0,.int 0]),(278,.val (.map Y)),(283,.val (.map Y)),(289,.int 0),(296,.val (.int .u32 0)),(298,.val (.int .u64 0)),(317,.val (.int .u64 0)),(339,.sl 2 []),(341,.agg [.int 0,.int 0]),(343,.val (.pointer Y)),(344,.sl 3 []),(345,.sl 3 []),(347,.agg [.sl 3 [],.sl 3 [],.int 0]),(348,.val (.int .u16 0)),(350,.agg [.val (.int .u16 0),.val (.int .u16 0),.val (.int .u16 0)]),(353,.agg [.val (.int .u32 0),.val (.int .u32 0),.val (.int .u32 0)])]
def tF2 (t i:Nat):Option (Nat×Nat):=match assN tF2l t with|some r=>nthO r i|none=>Y
def tSt (t:Nat):Bool:=memN tStl t
def tE:Nat->Option (Nat×Nat×Nat):=assN tEl
def tZd:Nat->Option D:=assN tZdl
def zwZ (P:Program)(t:Nat):List (Option (Nat×Nat))->Nat->Bool|[],_=>U|none::l,i=>zwZ P t l (i+1)|some (o,n)::l,i=>decide (zuX P t i=O (o,O n))&&zwZ P t l (i+1)
theorem znh {P t o n}:∀{l}{j i},zwZ P t l j=U->nthO l i=O (o,n)->zuX P t (j+i)=O (o,O n)
 |[],_,_,_,h=>by grind[nthO]|x::l,j,0,a,h=>by
  subst h;simp only[zwZ]at a;grind|x::l,j,i+1,a,h=>by
  have b:zwZ P t l (j+1)=true:=by cases x with|none=>exact a|some o=>simp only[zwZ]at a;grind
  have:=znh b h;grind
theorem zso:(tF2l.all λp=>zwZ xg p.1 p.2 0)=true:=by kernel_rfl
theorem zrP {t i o n}(h:tF2 t i=O (o,n)):zuX xg t i=O (o,O n):=by unfold tF2 at h;cases a:assN tF2l t with|none=>simp_all|some r=>rw[a]at h;have:=znh (yq.1 zso _ (zdr a)) h;simp_all
def stB (P:Program)(t:Nat):Bool:=match P.underlying t with|some .string=>U|_=>M
theorem zsp:tStl.all (stB xg)=true:=by kernel_rfl
theorem zkG {t}(h:tSt t=U):xg.underlying t=O .string:=by
 have:=yq.1 zsp t (zhS h);grind[stB]
def tBol:List Nat:=[4]
def boB (P:Program)(t:Nat):Bool:=match P.underlying t with|some .bool=>U|_=>M
theorem zsm:tBol.all (boB xg)=true:=by kernel_rfl
theorem zs4 {t}(h:memN tBol t=U):xg.underlying t=O .bool:=by
 have:=yq.1 zsm t (zhS h);grind[boB]
theorem zs6:(tEl.all λp=>zbX xg p.1 p.2.1 p.2.2.1 p.2.2.2)=true:=by kernel_rfl
theorem zxq {t el k b}(h:tE t=O (el,k,b)):zbX xg t el k b=true:=yq.1 zs6 (t,el,k,b) (zdr h)
theorem zqH:(tZdl.all λp=>zdB xg p.1 p.2)=true:=by kernel_rfl
def nilZ:D->D|.sl _ []=>.val (.slice Y 0 0)|d=>d
def zxP (js:List Nat):List D->Nat->List D|d::ds,i=>(match memN js i with|true=>nilZ d|false=>d)::zxP js ds (i+1)|[],_=>[]
def nilAt (js:List Nat):D->D|.agg ds=>.agg (zxP js ds 0)|d=>nilZ d
theorem zmp {d}{v}(h:zfit d v=U):zfit (nilZ d) v=true:=by
 unfold nilZ;split
 ·unfold zfit at h|-;grind
 grind
theorem znw (js):∀{ds}{vs}(i),zwb ds vs=U->zwb (zxP js ds i) vs=U
 |[],[],_,_=>rfl|[],_::_,_,h=>by grind[zwb]|_::_,[],_,h=>by grind[zwb]|d::ds,v::vs,i,h=>by
  simp only[zwb,yd,zxP]at h|-;refine⟨?_,znw js (i+1) h.2⟩;grind[zmp]
theorem zqI {t d}(js)(h:tZd t=O d):zu2 xg t (nilAt js d):=zrS (by have h:=yq.1 zqH (t,d) (zdr h);unfold zdB at h|-;cases a:zbE xg t with
 |none=>simp_all|some z=>rw[a]at h;cases d with
  |agg ds=>cases z with
   |agg vs=>exact znw js 0 h|_=>grind[zfit]
  |sl k xs=>cases xs<;>cases z<;>exact zmp h|_=>cases z<;>exact zmp h)
theorem zoX {t d}(h:tZd t=O d):zu2 xg t d:=zrS (yq.1 zqH (t,d) (zdr h))
def zos {α:Type}:List α->Bool|[]=>U|_=>M
def kOKs (k:Nat):List D->Bool|[]=>U|d::ds=>match d.kOK k with|true=>kOKs k ds|false=>M
theorem zot {k}:∀{ds},kOKs k ds=U->∀d∈ds,d.kOK k=U
 |[],_,_,h=>by grind|d::ds,h,x,a=>by
  unfold kOKs at h;split at h
  ·rcases yG.1 a with rfl|a;·grind
   ·exact zot h x a
  grind
def ixs:List (Nat×Operand)->Nat->Bool|[],_=>U|(i,_)::l,j=>match wR i j with|true=>ixs l (j+1)|false=>M
theorem zrJ:∀{l}{j},ixs l j=U->l.map (·.1)=wr j l.length
 |[],_,_=>rfl|(i,x)::l,j,h=>by
  unfold ixs at h;split at h;·rename_i a;rw[yW,yU,List.range'_succ,zrJ h,ww a]
  grind
def zls:List D->List D->List D|c::cs,d::ds=>zl1 c d::zls cs ds|cs,[]=>cs|[],_=>[]
theorem zqO:∀{cs}(ds),D.Les cs (zls cs ds)|[],[]=>.nil|[],_::_=>.nil|c::cs,[]=>lesR _|c::cs,d::ds=>.cons (zrT c d) (zqO ds)
def zl1K {β:Type}(c d:D)(k:D->β):β:=match c with
 |.val (.slice Y 0 0)=>match d with
  |.sl n _=>k (.sl n [])|.osl n _=>k (.osl n [])|_=>k c
 |_=>k c
theorem zsA {β:Type}(c d:D)(k:D->β):zl1K c d k=k (zl1 c d):=by unfold zl1K zl1;split<;>(try split)<;>simp_all
def zlsK {β:Type}:List D->List D->(List D->β)->β|c::cs,d::ds,k=>zl1K c d λx=>zlsK cs ds λl=>k (x::l)|cs,[],k=>k cs|[],_,k=>k []
theorem zqN {β:Type}:∀(cs ds)(k:List D->β),zlsK cs ds k=k (zls cs ds)|[],[],_=>rfl|[],_::_,_=>rfl|_::_,[],_=>rfl|c::cs,d::ds,k=>by rw[zlsK,zsA,zqN cs ds];rfl
theorem OpV.les {P}{o}{e}{H}{ds ds'}(h:OpV P o e H (.d (.agg ds)))(hl:D.Les ds ds'):OpV P o e H (.d (.agg ds')):=⟨λl c w f m g i j=>by refine zff.imp (λu p a=>⟨a.1,?_⟩) (h.run l c w f m g i j);have:=a.2;obtain⟨k,n,b⟩:=this;exact⟨k,n,hl.reps b⟩⟩
section
variable(H:List Blk)(e:Operand->Option V)
def wFld (t:TypeId)(x:Operand)(i:Nat):Option V:=match e x with
 |some (.d (.ref (.agg cs)))=>match tF2 t i with
  |some (o,n)=>match zvM o n cs with
   |some ds=>match zwU ds n with
    |true=>O (.d (.ref (.agg ds)))|false=>Y
   |none=>Y
  |none=>Y
 |some (.loc b off)=>match tF2 t i with
  |some (o,_)=>match zvO H b with|some _=>O (.loc b (off+o))|none=>Y
  |none=>Y
 |_=>Y
def wLoad (t:TypeId)(x:Operand):Option V:=match e x with
 |some (.loc b off)=>match tS t with
  |some (O n)=>match zvO H b with
   |some cs=>match zvM off n cs with
    |some vs=>O (zxl vs)|none=>Y
   |none=>Y
  |_=>Y
 |_=>Y
def wFn (f:Fn)(fs cs:Array Operand):Option V:=match f with
 |.func g=>match zos fs.toList with
  |true=>match evs e cs.toList with
   |some ds=>O (.d (.fn (.func g) [] ds))|none=>Y
  |false=>Y
 |_=>Y
def wStr (op:BinOp)(x y:Operand):Option V:=match e x with
 |some (.d (.val (.string a)))=>match e y with
  |some (.d (.val (.string b)))=>match op with
   |.eql=>O (.d (.bool (Z (a.data.toList=b.data.toList))))|.neq=>O (.d (.bool (!decide (a.data.toList=b.data.toList))))|_=>Y
  |_=>Y
 |_=>Y
def wBoo (op:BinOp)(t:TypeId)(x y:Operand):Option V:=match e x with
 |some (.d (.val (.bool a)))=>match e y with
  |some (.d (.val (.bool b)))=>match memN tBol t with
   |true=>match op with
    |.eql=>O (.d (.bool (a==b)))|.neq=>O (.d (.bool (a !=b)))|_=>Y
   |false=>Y
  |_=>Y
 |_=>wStr e op x y
def wNeg (x:Operand):Option V:=match e x with
 |some (.d (.val (.int k a)))=>match k with
  |.i64=>O (.d (.int (ztU a)))|_=>Y
 |_=>Y
def wBld (t:TypeId)(parts:Array (Nat×Operand)):Option V:=match tP t with
 |some pl=>match tZd t with
  |some (.agg zs)=>match zg3 e pl parts.toList with
   |some ps=>match zvH zs ps with
    |some ds=>zlsK ds zs λl=>O (.d (.agg l))|none=>Y
   |none=>Y
  |_=>Y
 |none=>Y
def hasSl:List D->Bool|.sl _ _::_=>U|.osl _ _::_=>U|_::l=>hasSl l|[]=>M
def wBldN (js:List Nat)(t:TypeId)(parts:Array (Nat×Operand)):Option V:=match tP t with
 |some pl=>match tZd t with
  |some (.agg zs)=>match zg3 e pl parts.toList with
   |some ps=>match zvH (zxP js zs 0) ps with
    |some ds=>O (.d (.agg ds))|none=>Y
   |none=>Y
  |_=>Y
 |none=>Y
def wBld0 (t:TypeId)(parts:Array (Nat×Operand)):Option V:=match tZd t with
 |some (.agg zs)=>match hasSl zs with
  |true=>Y|false=>wBld e t parts
 |_=>Y
def wBsl (t:TypeId)(len:Nat)(parts:Array (Nat×Operand)):Option V:=match tE t with
 |some (_,k,_)=>match evs e (parts.toList.map (·.2))with
  |some ds=>match ixs parts.toList 0 with
   |true=>match wR parts.toList.length len with
    |true=>match xP (len*k) 16777216 with
     |true=>match kOKs k ds with
      |true=>O (.d (.sl k ds))|false=>Y
     |false=>Y
    |false=>Y
   |false=>Y
  |none=>Y
 |none=>Y
def wLen (args:List Operand)(tys:List TypeId):Option V:=match args with
 |[x]=>match tys with
  |[t]=>match e x with
   |some (.d (.val (.string a)))=>match tSt t with
    |true=>O (.d (.int a.data.toList.length))|false=>Y
   |_=>Y
  |_=>Y
 |_=>Y
def wMM (mx:Bool)(args:List Operand):Option V:=match args with
 |[x,y]=>match e x with
  |some (.d (.val (.int k a)))=>match e y with
   |some (.d (.val (.int k' b)))=>match Z (k=k')with
    |true=>O (.d (.val (.int k (match mx with|true=>gmax a b|false=>gmin a b))))|false=>Y
   |_=>Y
  |_=>Y
 |_=>Y
def wPick (c x y:Operand):Option V:=match e c with
 |some (.d (.val (.bool b)))=>match b with
  |true=>e x|false=>e y
 |_=>Y
def wOp2:Op->Option V
 |.fieldAddr t x i=>wFld H e t x i|.load t x=>wLoad H e t x|.makeFunc f fs cs=>wFn e f fs cs|.unOp .neg _ x=>wNeg e x|.pick c x y=>wPick e c x y|.binOp op t x y _=>wBoo e op t x y|.build t parts=>wBld0 e t parts|.buildSlice t len parts=>wBsl e t len parts|.call c=>match c.callee with
  |.builtin .len=>wLen e c.args.toList c.argTypes.toList|.builtin .max=>wMM e U c.args.toList|.builtin .min=>wMM e M c.args.toList|_=>Y
 |_=>Y
end
def zrH:List (Nat×Operand)->Bool|[]=>U|(_,.const (.slice Y 0 0))::_=>U|[_]=>M|_::l=>zrH l
def nilA:Op->Bool|.assign (.const (.slice Y 0 0))=>U|.move (.const (.slice Y 0 0))=>U|.buildSlice _ _ ps=>zrH ps.toList|_=>M
def wOp (H:List Blk)(e:Operand->Option V)(op:Op):Option V:=match nilA op with|true=>Y|false=>match vOp tF tS H e op with|some v=>O v|none=>wOp2 H e op
theorem arr0 {α}{a:Array α}(h:zos a.toList=U):a=#[]:=by obtain⟨l⟩:=a;cases l with|nil=>rfl|cons _ _=>cases h
theorem arr1 {α:Type}{a}{x:α}(h:a.toList=[x]):a=#[x]:=by grind
theorem arr2 {α:Type}{a}{x y:α}(h:a.toList=[x,y]):a=#[x,y]:=by grind
theorem zqS {o}{e}{H}{t el len k bytes:Nat}{parts}{ds}(ho:o.op=.buildSlice t len parts)(hp:parts.toList.map (·.1)=wr 0 len)(he:zbX xg t el k bytes=U)(hx:evs e (parts.toList.map (·.2))=O ds)(hk:∀d∈ds,d.kOK k=U)(hl:xP (len*k) 16777216=U):OpV xg o e H (.d (.sl k ds)):=by have:=OpV.zub (P:=xg) (H:=H) (enc:=λx:{d:D//d.kOK k=U}=>x.1) (ds.attach.map λd=>⟨d.1,hk d.1 d.2⟩) ho hp he (by simpa using hx) (λx=>x.2) hl;simp_all
section
variable{o:Oper}{e:Operand->Option V}{H:List Blk}{v:V}
theorem zsv {t x i}(ho:o.op=.fieldAddr t x i)(h:wFld H e t x i=O v):OpV xg o e H v:=by
 unfold wFld at h;split at h
 ·split at h
  ·split at h
   ·split at h;·cases h;obtain⟨b,c⟩:=zjG ‹zvM _ _ _=_›;exact .fieldAddr ho ‹e x=_› (Fld.of (zrP ‹tF2 t i=_›) (congrArg O (zj9 ‹zwU _ _=_›)) (by simp only[zlk];simp_all))
    grind
   grind
  grind
 ·split at h
  ·split at h;·cases h;obtain⟨_,a⟩:=zhB ‹zvO _ _=_›;exact .ztA ho ‹e x=_› a (zrP ‹tF2 t i=_›)
   grind
  grind
 grind
theorem zru {t x}(ho:o.op=.load t x)(h:wLoad H e t x=O v):OpV xg o e H v:=by
 unfold wLoad at h;split at h
 ·split at h
  ·split at h
   ·split at h;·cases h;obtain⟨b,c⟩:=zjG ‹zvM _ _ _=_›;obtain⟨_,a⟩:=zhB ‹zvO _ _=_›;exact .zu3 ho ‹e x=_› a (Tab.sh _ _ ‹tS t=_›) c (by rw[b])
    grind
   grind
  grind
 grind
theorem zta {f fs cs}(ho:o.op=.makeFunc f fs cs)(h:wFn e f fs cs=O v):OpV xg o e H v:=by
 unfold wFn at h;split at h
 ·split at h
  ·split at h;·cases h;rw[arr0 ‹zos fs.toList=_›]at ho;exact .makeFunc ho ‹evs _ _=_›
   grind
  grind
 grind
theorem zsz {op t x y u}(ho:o.op=.binOp op t x y u)(h:wStr e op x y=O v):OpV xg o e H v:=by
 unfold wStr at h;split at h
 ·split at h
  ·split at h;·cases h;exact .zw2 ho ‹e x=_› ‹e y=_›
   ·cases h;exact .zxV ho ‹e x=_› ‹e y=_›
   grind
  grind
 grind
theorem zst {op t x y u}(ho:o.op=.binOp op t x y u)(h:wBoo e op t x y=O v):OpV xg o e H v:=by
 unfold wBoo at h;split at h
 ·split at h
  ·split at h
   ·have a:=zs4 ‹memN _ _=_›;split at h;·cases h;exact .beq ho a ‹e x=_› ‹e y=_›
    ·cases h;exact .bne ho a ‹e x=_› ‹e y=_›
    grind
   grind
  grind
 grind[zsz]
theorem zsx {t x}(ho:o.op=.unOp .neg t x)(h:wNeg e x=O v):OpV xg o e H v:=by
 unfold wNeg at h;split at h
 ·split at h;·cases h;exact .neg6 ho ‹e x=_›
  grind
 grind
theorem zqL {t parts}(ho:o.op=.build t parts)(h:wBld e t parts=O v):OpV xg o e H v:=by
 unfold wBld at h;split at h
 ·split at h
  ·split at h
   ·split at h;·rw[zqN]at h;cases h;exact OpV.les (.build ho (tP_ok ‹tP t=_›) (zoX ‹tZd t=_›) ‹zg3 _ _ _=_› ‹zvH _ _=_›) (zqO _)
    grind
   grind
  grind
 grind
theorem zrt {js t parts}(ho:o.op=.build t parts)(h:wBldN e js t parts=O v):OpV xg o e H v:=by
 unfold wBldN at h;split at h
 ·split at h
  ·split at h
   ·split at h;·cases h;exact .build ho (tP_ok ‹tP t=_›) (zqI js (d:=.agg _) ‹tZd t=_›) ‹zg3 _ _ _=_› ‹zvH _ _=_›
    grind
   grind
  grind
 grind
theorem zrs {t parts}(ho:o.op=.build t parts)(h:wBld0 e t parts=O v):OpV xg o e H v:=by grind[wBld0,zqL]
theorem zsu {t len parts}(ho:o.op=.buildSlice t len parts)(h:wBsl e t len parts=O v):OpV xg o e H v:=by
 unfold wBsl at h;split at h
 ·split at h
  ·split at h
   ·split at h
    ·split at h
     ·split at h;·cases h;exact zqS ho (by grind[zrJ,ww]) (zxq ‹tE t=_›) ‹evs _ _=_› (zot ‹kOKs _ _=_›) ‹xP _ _=_›
      grind
     grind
    grind
   grind
  grind
 grind
theorem zsw {c}(ho:o.op=.call c)(hc:c.callee=.builtin .len)(h:wLen e c.args.toList c.argTypes.toList=O v):OpV xg o e H v:=by
 unfold wLen at h;obtain⟨f,b,d⟩:=c;subst hc;split at h
 ·split at h
  ·split at h
   ·split at h;·cases h;have g:=arr1 ‹b.toList=_›;have a:=arr1 ‹d.toList=_›;subst g a;exact .zvt ho (zkG ‹tSt _=_›) ‹e _=_›
    grind
   grind
  grind
 grind
theorem zrR {c}{mx}(ho:o.op=.call c)(hc:c.callee=.builtin (match mx with|true=>.max|false=>.min))(h:wMM e mx c.args.toList=O v):OpV xg o e H v:=by
 unfold wMM at h;obtain⟨f,b,g⟩:=c;subst hc;split at h
 ·split at h
  ·split at h
   ·split at h
    ·cases h;have d:=arr2 ‹b.toList=_›;subst d;have a:=of_decide_eq_true ‹Z _=_›;subst a;cases mx;·exact .min2 ho ‹e _=_› ‹e _=_›
     ·exact .max2 ho ‹e _=_› ‹e _=_›
    grind
   grind
  grind
 grind
theorem zrv {c x y}(ho:o.op=.pick c x y)(h:wPick e c x y=O v):OpV xg o e H v:=by
 unfold wPick at h;split at h;·rename_i b hc;exact .pick ho hc (λhb=>by subst hb;exact h) λhb=>by subst hb;exact h
 ·cases h
theorem zsy (h:wOp2 H e o.op=O v):OpV xg o e H v:=by cases a:o.op with
 |fieldAddr t x i=>rw[a]at h;exact zsv a h|load t x=>rw[a]at h;exact zru a h|makeFunc f fs cs=>rw[a]at h;exact zta a h|pick c x y=>rw[a]at h;exact zrv a h|unOp u t x=>rw[a]at h;cases u<;>first|(exact zsx a h)|(cases h)
 |binOp op t x y u=>rw[a]at h;exact zst a h|build t parts=>rw[a]at h;exact zrs a h|buildSlice t len parts=>rw[a]at h;exact zsu a h|call c=>
  rw[a]at h;simp only[wOp2]at h;split at h;·grind[zsw]
  ·exact zrR (mx:=U) a ‹_› h
  ·exact zrR (mx:=M) a ‹_› h
  grind|_=>rw[a]at h;cases h
theorem zo2 (h:wOp H e o.op=O v):OpV xg o e H v:=by
 unfold wOp at h;split at h;·cases h
 ·split at h;·cases h;exact zo0 (P:=xg) ‹vOp _ _ _ _ _=_›
  grind[zsy]
theorem zo3 (h:wOp H e o.op=O v):zak o=false:=by grind[zak,wOp,wOp2,vOp]
end
end
section
set_option maxRecDepth 100000
variable[Drw]
def runW (N:Nat)(H:List Blk):List Oper->List (Nat×V)->List Oper×List (Nat×V)
 |o::l,T=>match o.guard with
  |none=>match o.dst with
   |some d=>match xz d N with
    |true=>match wOp H (ev T) o.op with
     |some v=>runW N H l ((d,v)::T)|none=>(o::l,T)
    |false=>(o::l,T)
   |none=>(o::l,T)
  |some _=>(o::l,T)
 |[],T=>([],T)
def runW1 (N:Nat)(H:List Blk):List Oper->List (Nat×V)->Option (List Oper×List (Nat×V))
 |o::l,T=>match o.guard with
  |none=>match o.dst with
   |some d=>match xz d N with
    |true=>match wOp H (ev T) o.op with
     |some v=>O (runW N H l ((d,v)::T))|none=>Y
    |false=>Y
   |none=>Y
  |some _=>Y
 |[],_=>Y
def gOK (ops:Array Oper)(T:List (Nat×V)):Option (Nat×Bool)->Bool
 |none=>U|some (j,w)=>match ops[j]?.bind (·.dst)with
  |some g=>match look g T with
   |some (.d (.val (.bool b)))=>zw0 b w|_=>M
  |none=>M
def sameG:Option (Nat×Bool)->Option (Nat×Bool)->Bool
 |none,Y=>U|some (i,a),O (j,b)=>match wR i j with
  |true=>zw0 a b|false=>M
 |_,_=>M
def runQW (N:Nat)(H:List Blk)(ops:Array Oper)(g:Option (Nat×Bool)):List Oper->List (Nat×V)->List Oper×List (Nat×V)
 |o::l,T=>match sameG o.guard g with
  |true=>match gOK ops T o.guard with
   |true=>match o.dst with
    |some d=>match xz d N with
     |true=>match wOp H (ev T) o.op with
      |some v=>runQW N H ops g l ((d,v)::T)|none=>(o::l,T)
     |false=>(o::l,T)
    |none=>(o::l,T)
   |false=>(o::l,T)
  |false=>(o::l,T)
 |[],T=>([],T)
def zqx (N:Nat)(H:List Blk)(ops:Array Oper):List Oper->List (Nat×V)->Option (List Oper×List (Nat×V))
 |o::l,T=>match gOK ops T o.guard with
  |true=>match o.dst with
   |some d=>match xz d N with
    |true=>match wOp H (ev T) o.op with
     |some v=>O (runQW N H ops o.guard l ((d,v)::T))|none=>Y
    |false=>Y
   |none=>Y
  |false=>Y
 |[],_=>Y
section
variable{C:Ctx}{ops:Array Oper}{Q:Exit->St->Prop}{o:Oper}{l rest:List Oper}{T T':List (Nat×V)}{H:List Blk}{N:Nat}{al:List Ev}{K:List Ev->List (Nat×V)->Prop}
theorem zqz (k:TriL xg C ops rest Q ⟨T',H⟩):∀(l)(T),runW C.n H l T=(rest,T')->TriL xg C ops l Q ⟨T,H⟩
 |[],T,h=>by cases h;exact k|o::l,T,h=>by
  rw[runW]at h;split at h
  ·split at h
   ·split at h
    ·split at h;·have a:=‹o.dst=_›;refine .op ‹o.guard=_› (by rw[a];exact‹xz _ _=_›) (zo2 ‹wOp _ _ _=_›) ?_;rw[a];exact zqz k l _ h
     simp_all
    simp_all
   simp_all
  simp_all
theorem zrk (k:TriL xg C ops rest Q ⟨T',H⟩){l}{T}(h:runW1 C.n H l T=O (rest,T')):TriL xg C ops l Q ⟨T,H⟩:=by cases l with
 |nil=>cases h|cons o l=>
  rw[runW1]at h;split at h
  ·split at h
   ·split at h
    ·split at h;·have a:=‹o.dst=_›;refine .op ‹o.guard=_› (by rw[a];exact‹xz _ _=_›) (zo2 ‹wOp _ _ _=_›) ?_;rw[a];exact zqz k l _ (vE h)
     grind
    grind
   grind
  grind
theorem zpT {d:Nat}{v}(hg:gOK ops T o.guard=U)(hd:o.dst=O d)(hn:xz d N=U)(hs:zak o=M)(hv:OpV xg o (ev T) H v)(k:TriQ xg N ops H l al ((d,v)::T) K):TriQ xg N ops H (o::l) al T K:=by cases a:o.guard with
 |none=>exact .op a hd hn hs hv k|some p=>
  rw[a]at hg;simp only[gOK]at hg;split at hg
  ·split at hg;·have e:=zjE hg;subst e;exact .gop a ‹Option.bind _ _=_› ‹look _ _=_› hd hn hs hv k
   simp_all
  simp_all
theorem zoQ (k:TriQ xg N ops H rest al T' K){g}:∀(l)(T),runQW N H ops g l T=(rest,T')->TriQ xg N ops H l al T K
 |[],T,h=>by cases h;exact k|o::l,T,h=>by
  rw[runQW]at h;split at h
  ·split at h
   ·split at h
    ·split at h
     ·split at h;·exact zpT ‹gOK _ _ _=_› ‹o.dst=_› ‹xz _ _=_› (zo3 ‹wOp _ _ _=_›) (zo2 ‹wOp _ _ _=_›) (zoQ k l _ h)
      simp_all
     simp_all
    simp_all
   simp_all
  simp_all
theorem zqy (k:TriQ xg N ops H rest al T' K){l}{T}(h:zqx N H ops l T=O (rest,T')):TriQ xg N ops H l al T K:=by cases l with
 |nil=>cases h|cons o l=>
  rw[zqx]at h;split at h
  ·split at h
   ·split at h
    ·split at h;·exact zpT ‹gOK _ _ _=_› ‹o.dst=_› ‹xz _ _=_› (zo3 ‹wOp _ _ _=_›) (zo2 ‹wOp _ _ _=_›) (zoQ k l _ (vE h))
     grind
    grind
   grind
  grind
end
end
section
set_option maxRecDepth 100000
variable[Drw]
theorem lnS {a b:Nat}(h:a=b:=by first|exact rfl|exact Eq.symm (yK _)|exact of_decide_eq_true (by assumption)|exact Eq.symm (of_decide_eq_true (by assumption))|exact Eq.trans (of_decide_eq_true (by assumption)) (Eq.symm (yK _))):a=b:=h
section
variable{p:Prop}{C:Ctx}{ops:Array Oper}{Q:Exit->St->Prop}{o:Oper}{l l1 l2 rest:List Oper}{T T':List (Nat×V)}{H:List Blk}{s:St}{N:Nat}{al:List Ev}{K:List Ev->List (Nat×V)->Prop}{x y c:Code}{R:Type}{r:R}
theorem wk.seq (k:p->Tri xg C x (zvD (Tri xg C y Q) Q) s):p->Tri xg C (.seq x y) Q s:=λa=>.seq (k a)
theorem wk.skip (k:p->Q .normal s):p->Tri xg C .skip Q s:=λa=>.skip (k a)
theorem wk.block {id}(k:p->Tri xg C c (zeQ id Q) s):p->Tri xg C (.block id c) Q s:=λa=>.block (k a)
theorem wk.exit {id}(k:p->Q (.exit id) s):p->Tri xg C (.exit id) Q s:=λa=>.exit (k a)
theorem wk.ret (k:p->Q .ret s):p->Tri xg C .ret Q s:=λa=>.ret (k a)
theorem wk.xT {n}{i}(k:p->Q (.exit i) s):p->zvD n Q (.exit i) s:=k
theorem wk.rT {n}(k:p->Q .ret s):p->zvD n Q .ret s:=k
theorem wk.nB {i}(k:p->Q .normal s):p->zeQ i Q .normal s:=k
theorem wk.rB {i}(k:p->Q .ret s):p->zeQ i Q .ret s:=k
theorem wk.xB {i}(k:p->Q .normal s):p->zeQ i Q (.exit i) s:=λa=>by simp only[zeQ];grind
theorem wk.xJ {σ}{k}{xf:σ->St}{i}(h:p->Q (.exit i) s):p->zvz k r xf Q (.exit i) s:=h
theorem wk.rJ {σ}{k}{xf:σ->St}(h:p->Q .ret s):p->zvz k r xf Q .ret s:=h
theorem wk.nd {σ}{k}{xf}{v:σ}{X}(g:(s.H,(xf v).H.all (Blk.under (xf v).H.length),(xf v).T.all λp=>p.2.under (xf v).H.length,lks (xf v).T s.T)=((xf v).H++X,U,U,vls (xf v).T)):k v=O r->zvz k r xf Q .normal s:=λh=>ndE h g
theorem wk.cond {b}{q}{m n}(hc:ev s.T q=O (.d (.bool b)))(ht:m=O r->Tri xg C x Q s)(hf:n=O r->Tri xg C y Q s):(if b=U then m else n)=O r->Tri xg C (.cond q x y) Q s:=λh=>.ztw hc h ht hf
theorem wk.zxy {q}(hc:ev s.T q=O (.d (.bool U)))(k:p->Tri xg C x Q s):p->Tri xg C (.cond q x y) Q s:=λh=>.zxy hc (k h)
theorem wk.zxx {q}(hc:ev s.T q=O (.d (.bool M)))(k:p->Tri xg C y Q s):p->Tri xg C (.cond q x y) Q s:=λh=>.zxx hc (k h)
theorem wk.gK {c}{m}{G:Prop}(k:c=U->m=O r->G):grd c m=O r->G:=λh=>k (grdS h).1 (grdS h).2
def zxJ:List Oper->Nat->Nat->Nat
 |o::l,n,m=>match o.guard with|some _=>zxJ l (n+1) (n+1)|none=>match o.op with
   |.pick _ _ _=>zxJ l (n+1) (n+1)|_=>zxJ l (n+1) m
 |[],_,m=>m
def cutN {β:Type}:Nat->List Oper->(List Oper->List Oper->β)->β|0,l,k=>k [] l|n+1,o::l,k=>cutN n l λa b=>k (o::a) b|_+1,[],k=>k [] []
theorem zir {β}:∀(n)(l)(k:List Oper->List Oper->β),cutN n l k=k (l.take n) (l.drop n)|0,l,k=>by simp[cutN]|n+1,[],k=>by simp[cutN]|n+1,o::l,k=>by rw[cutN,zir n l];simp
theorem wk.reg {id}(h:wR (zxJ l 0 0) 0=U)(k:p->TriL xg C l.toArray l Q s):p->Tri xg C (.region id l.toArray M) Q s:=λa=>.region (k a)
theorem wk.regP {id n}(h:(zxJ l 0 0,cutN n l λa b=>O (a,b))=(n,O (l1,l2)))(h2:znV l1=U)(k:p->TriQ xg C.n l.toArray H l1 [] T λ_ T=>TriL xg C l.toArray l2 Q ⟨T,H⟩):p->Tri xg C (.region id l.toArray M) Q ⟨T,H⟩:=λc=>by simp only[yf,zir]at h;obtain⟨_,rfl,rfl⟩:=h;exact .plain n h2 (k c)
def quiet (o:Oper)(mk:List (Nat×Nat)):Bool:=match o.op with
 |.store t (.tmp r) _=>match o.guard with
  |none=>match assN mk r with|some t'=>wR t t'|none=>M
  |some _=>M
 |.store _ _ _=>M|.mapUpdate _ _ _ _=>M|.makeMap _ _=>M|.makeSlice _ _ _=>M|.call c=>match c.callee with
  |.builtin .append=>M|.builtin .copy=>M|.builtin .clear=>M|.builtin .delete=>M|_=>U
 |_=>U
def zm0:List Oper->List (Nat×Nat)->Nat->Nat
 |o::l,mk,n=>match quiet o mk with
  |true=>match o.op with
   |.alloc t=>match o.dst with
    |some r=>zm0 l ((r,t)::mk) (n+1)|none=>zm0 l mk (n+1)
   |.store _ (.tmp r) _=>zm0 l ((r,0)::mk) (n+1)|_=>zm0 l mk (n+1)
  |false=>n
 |[],_,n=>n
theorem wk.regD {id n}(h:(zm0 l [] 0,cutN n l λa b=>O (a,b))=(n,O (l1,l2)))(k:p->TriQ xg C.n l.toArray H l1 [] T λal T=>TriL xg C l.toArray l2 Q (zk7 xg H al T))(h1:regOK l n=true:=by kernel_rfl)(h2:(zfC (l.take n)&&zei (l.take n))=true:=by kernel_rfl):p->Tri xg C (.region id l.toArray U) Q ⟨T,H⟩:=λc=>by simp only[yf,zir]at h;obtain⟨_,rfl,rfl⟩:=h;exact .draw n Hm h1 h2 (k c)
theorem wk.W (h:runW1 C.n H l T=O (rest,T'))(k:p->TriL xg C ops rest Q ⟨T',H⟩):p->TriL xg C ops l Q ⟨T,H⟩:=λa=>zrk (k a) h
theorem wk.nil (k:p->Q .normal s):p->TriL xg C ops [] Q s:=λa=>.nil (k a)
structure OpP (o:Oper)(e:Operand->Option V)(H:List Blk)(K:V->Prop):Prop where out:∃v,OpV xg o e H v/\K v
structure ztT (f:FuncId)(xs:List D)(K:D->Prop):Prop where out:∃y,Pure xg f xs y/\K y
structure DynP (F:D)(xs:List D)(K:D->Prop):Prop where out:∃y,Dyn xg F xs y/\K y
theorem wk.oL {d}(g:(o.guard,o.dst,xz d C.n)=(Y,O d,U))(k:p->OpP o (ev T) H λv=>TriL xg C ops rest Q ⟨(d,v)::T,H⟩):p->TriL xg C ops (o::rest) Q ⟨T,H⟩:=λb=>by simp only[yf]at g;obtain⟨v,c,a⟩:=(k b).out;refine .op g.1 (by rw[g.2.1];exact g.2.2) c ?_;rw[g.2.1];exact a
theorem wk.oQ {d}(g:(gOK ops T o.guard,o.dst,xz d N,zak o)=(U,O d,U,M))(k:p->OpP o (ev T) H λv=>TriQ xg N ops H rest al ((d,v)::T) K):p->TriQ xg N ops H (o::rest) al T K:=λa=>by
 obtain⟨v,c,b⟩:=(k a).out;grind[zpT]
section
variable{e:Operand->Option V}{G:V->Prop}{q i z:Operand}{t u kk:Nat}
theorem wk.oe {α:Type}{j}{xs:List α}{enc}(g:(o.op,e q,tX t)=(.call {callee:=.builtin .len,args:=#[q],argTypes:=#[t]},O (.d (.sl j (xs.map enc))),O kk))(k:p->G (.d (.int xs.length))):p->OpP o e H G:=λb=>by simp only[yf]at g;obtain⟨c,a,_⟩:=zvU g.2.2;exact⟨_,.len g.1 a g.2.1,k b⟩
theorem wk.oev {α:Type}{b n kk' el:Nat}{xs:List α}{enc}(g:(o.op,e q,H[b]?,tX t)=(.call {callee:=.builtin .len,args:=#[q],argTypes:=#[t]},O (.vec b n),O (.vec el kk' (xs.map enc)),O kk))(k:p->G (.d (.int xs.length)))(hn:n=xs.length:=by exact lnS):p->OpP o e H G:=λc=>by simp only[yf]at g;obtain⟨el,a,_⟩:=zvU g.2.2.2;exact⟨_,.lenV g.1 a g.2.1 g.2.2.1 hn,k c⟩
theorem wk.ox {α}{xs}{enc}{a}{f:α->Option R}(g:(o.op,e q,e i,tX t)=(.indexAddr t q i,O (.d (.sl kk (xs.map enc))),O (.d (.int a)),O kk))(k:∀v,f v=O r->G (.d (.ref (enc v)))):(idx xs a).bind f=O r->OpP o e H G:=λh=>by simp only[yf]at g;obtain⟨v,c,j⟩:=ztO h;obtain⟨m,l,b⟩:=zvU g.2.2.2;exact⟨_,.idx g.1 g.2.1 g.2.2.1 l b c,k v j⟩
theorem wk.oxg {α}[Inhabited α]{xs}{enc:α->D}{a}(g:(o.op,e q,e i,tX t)=(.indexAddr t q i,O (.d (.sl kk (xs.map enc))),O (.d (.int a)),O kk))(hv:p->(idx xs a).isSome=U)(k:p->G (.d (.ref (enc ((idx xs a).getD J))))):p->OpP o e H G:=λb=>by simp only[yf]at g;obtain⟨h,f,c⟩:=zvU g.2.2.2;exact⟨_,.idx g.1 g.2.1 g.2.2.1 f c (zt2 (hv b)),k b⟩
theorem wk.oxv {α}{b n el:Nat}{xs}{enc}{a}{f:α->Option R}(g:(o.op,e q,H[b]?,e i,tX t)=(.indexAddr t q i,O (.vec b n),O (.vec el kk (xs.map enc)),O (.d (.int a)),O kk))(k:∀v,idx xs a=O v->f v=O r->G (.el b n a.toNat 0))(hn:n=xs.length:=by exact lnS):(idx xs a).bind f=O r->OpP o e H G:=λh=>by simp only[yf]at g;obtain⟨v,c,l⟩:=ztO h;obtain⟨m,p,j⟩:=zvU g.2.2.2.2;exact⟨_,.idxV g.1 g.2.1 g.2.2.1 hn g.2.2.2.1 p j c,k v c l⟩
theorem wk.ole {α}{b n el:Nat}{xs}{enc}{a}{v:α}{y}(g:(o.op,e q,H[b]?,tS t)=(.load t q,O (.el b n a.toNat 0),O (.vec el kk (xs.map enc)),O y))(hv:idx xs a=O v)(hk:zfV (enc v) y=U)(k:p->G (.d (enc v)))(hn:n=xs.length:=by exact lnS):p->OpP o e H G:=λc=>by simp only[yf]at g;exact⟨_,.loadEl g.1 g.2.1 g.2.2.1 hn hv (Tab.sh _ _ g.2.2.2) (zfv hk),k c⟩
theorem wk.oqu {a b}{f}(g:(o.op,e q,e z)=(.binOp .quo t q z u,O (.d (.int a)),O (.d (.int b))))(k:∀v,f v=O r->G (.d (.int v))):(zul a b).bind f=O r->OpP o e H G:=λh=>by simp only[yf]at g;obtain⟨v,i,c⟩:=ztO h;exact⟨_,.quo6 g.1 g.2.1 g.2.2 i,k v c⟩
theorem wk.ore {a b}{f}(g:(o.op,e q,e z)=(.binOp .rem t q z u,O (.d (.int a)),O (.d (.int b))))(k:∀v,f v=O r->G (.d (.int v))):(zuo a b).bind f=O r->OpP o e H G:=λh=>by simp only[yf]at g;obtain⟨v,i,c⟩:=ztO h;exact⟨_,.rem6 g.1 g.2.1 g.2.2 i,k v c⟩
theorem wk.osi {l}{a}{f}(g:(o.op,e q,e i,tSt t)=(.index t q i,O (.d (.str l)),O (.d (.int a)),U))(k:∀v,f v=O r->G (.d (.val (.int .u8 v)))):(sidx l a).bind f=O r->OpP o e H G:=λh=>by simp only[yf]at g;obtain⟨v,c,b⟩:=ztO h;exact⟨_,.sidx g.1 g.2.1 g.2.2.1 (zkG g.2.2.2) c,k v b⟩
theorem wk.osig {l}{a}(g:(o.op,e q,e i,tSt t)=(.index t q i,O (.d (.str l)),O (.d (.int a)),U))(hv:p->(sidx l a).isSome=U)(k:p->G (.d (.val (.int .u8 ((sidx l a).getD J))))):p->OpP o e H G:=λb=>by simp only[yf]at g;exact⟨_,.sidx g.1 g.2.1 g.2.2.1 (zkG g.2.2.2) (zt2 (hv b)),k b⟩
theorem wk.ocl {l}{a}{f}(g:(o.op,e q,e i,tSt t)=(.slice t q (O i) Y Y,O (.d (.str l)),O (.d (.int a)),U))(k:∀v,f v=O r->G (.d (.str v))):(cut l a (l.length:Int)).bind f=O r->OpP o e H G:=λh=>by simp only[yf]at g;obtain⟨v,c,b⟩:=ztO h;exact⟨_,.zwp g.1 g.2.1 g.2.2.1 (zkG g.2.2.2) c,k v b⟩
theorem wk.ochg {l}{a}(g:(o.op,e q,e i,tSt t)=(.slice t q Y (O i) Y,O (.d (.str l)),O (.d (.int a)),U))(hv:p->(cut l 0 a).isSome=U)(k:p->G (.d (.str ((cut l 0 a).getD J)))):p->OpP o e H G:=λb=>by simp only[yf]at g;exact⟨_,.zxA g.1 g.2.1 g.2.2.1 (zkG g.2.2.2) (zt2 (hv b)),k b⟩
theorem wk.ons (g:(o.op,tX o.type)=(.assign (.const (.slice Y 0 0)),O kk))(k:p->G (.d (.sl kk []))):p->OpP o e H G:=λa=>by simp only[yf]at g;exact⟨_,.nilS (α:=D) kk id g.1,k a⟩
def ze7:List Operand->List TypeId->List D->List D
 |.const (.slice Y 0 0)::xs,t::ts,d::ds=>(match d with
  |.val (.slice Y 0 0)=>match tX t with
   |some k=>.sl k []|none=>d
  |_=>d)::ze7 xs ts ds|_::xs,_::ts,d::ds=>d::ze7 xs ts ds|_,_,ds=>ds
theorem zhn:∀(xs)(ts)(ds),D.Les ds (ze7 xs ts ds)
 |[],_,ds=>by grind[ze7,lesR]|x::xs,[],ds=>by grind[ze7,lesR]|x::xs,t::ts,[]=>by unfold ze7;split<;>first|exact .nil|simp_all
 |x::xs,t::ts,d::ds=>by
  unfold ze7;split
  ·rename_i b c a;cases a;refine .cons ?_ (zhn _ _ _);split
   ·split;·exact .nil _
    ·exact .refl _
   ·exact .refl _
  ·rename_i b c a;cases a;exact .cons (.refl _) (zhn _ _ _)
  grind
theorem wk.ocall {f:FuncId}{args}{tys}{xs xs'}(g:(o.op,memN tCl f,evs e args.toList)=(.call {callee:=.value (.func f),args:=args,argTypes:=tys},U,O xs))(g2:ze7 args.toList tys.toList xs=xs')(k:p->ztT f xs' λd=>G (.d d)):p->OpP o e H G:=λb=>by simp only[yf]at g;obtain⟨y,c,a⟩:=(k b).out;subst g2;exact⟨_,.callLe g.1 (zt0 g.2.1) g.2.2 (zhn _ _ _) c,a⟩
theorem wk.ocallB {f:FuncId}{args}{tys}{xs}(g:(o.op,memN tCl f)=(.call {callee:=.value (.func f),args:=args,argTypes:=tys},U))(hl:Lent e H args.toList xs)(k:p->ztT f xs λd=>d.scal=U/\G (.d d)):p->OpP o e H G:=λb=>by simp only[yf]at g;obtain⟨y,c,h,a⟩:=(k b).out;exact⟨_,.callB g.1 (zt0 g.2) hl h c,a⟩
theorem wk.odyn {args}{tys}{F}{xs}(g:(o.op,e q,evs e args.toList)=(.call {callee:=.value q,args:=args,argTypes:=tys},O (.d F),O xs))(k:p->DynP F xs λd=>G (.d d)):p->OpP o e H G:=λb=>by simp only[yf]at g;obtain⟨y,c,a⟩:=(k b).out;exact⟨_,.dyn g.1 g.2.1 g.2.2 c,a⟩
end
class EqS (t:Nat){α:outParam Type}(enc:outParam (α->D))(de:outParam (DecidableEq α)):Prop where ok:∃ls,zuR xg t ls/\∃vals:α->List Value,(∀x,enc x=zhx (vals x))/\(∀x,zaT ls (vals x)=U)/\∀x y,eqVs (vals x) (vals y)=@Z (x=y) (de x y)
theorem wk.osq {α}{enc}{de}{e}{G}{q z}{t u:Nat}{a b:α}[hE:EqS t enc de](g:(o.op,e q,e z)=(.binOp .eql t q z u,O (.d (enc a)),O (.d (enc b))))(k:p->G (.d (.bool (@Z (a=b) (de a b))))):p->OpP o e H G:=λj=>by simp only[yf]at g;obtain⟨l,i,vals,f,c,h⟩:=hE.ok;exact⟨_,.seql g.1 i g.2.1 g.2.2 (f a) (f b) (c a) (c b) (h a b),k j⟩
theorem wk.osn {α}{enc}{de}{e}{G}{q z}{t u:Nat}{a b:α}[hE:EqS t enc de](g:(o.op,e q,e z)=(.binOp .neq t q z u,O (.d (enc a)),O (.d (enc b))))(k:p->G (.d (.bool (!@Z (a=b) (de a b))))):p->OpP o e H G:=λj=>by simp only[yf]at g;obtain⟨l,i,vals,f,c,h⟩:=hE.ok;exact⟨_,.sneq g.1 i g.2.1 g.2.2 (f a) (f b) (c a) (c b) (h a b),k j⟩
class HS (t:Nat):Prop where mk::
theorem wk.tnv {j el kk b}[HS j](g:(o.guard,o.op,o.dst,xz j C.n,tE o.type)=(Y,.assign (.const (.slice Y 0 0)),O j,U,O (el,kk,b)))(k:p->TriL xg C ops rest Q ⟨(j,.vec H.length 0)::(j,.d (.val (.slice Y 0 0)))::T,H++[.vec el kk []]⟩):p->TriL xg C ops (o::rest) Q ⟨T,H⟩:=λf=>by simp only[yf]at g;obtain⟨e,c,a,h,i⟩:=g;refine .op e (by rw[a];exact h) (.assign c rfl) ?_;rw[a];exact .zvA j kk el (by simp[look]) (k f)
theorem wk.tbv {t len j el kk b:Nat}{parts}[HS j](g:(o.guard,o.op,o.dst,xz j C.n,tE t,zos parts.toList,wR len 0)=(Y,.buildSlice t len parts,O j,U,O (el,kk,b),U,U))(k:p->TriL xg C ops rest Q ⟨(j,.vec H.length 0)::T,H++[.vec el kk []]⟩):p->TriL xg C ops (o::rest) Q ⟨T,H⟩:=λc=>by simp only[yf]at g;obtain⟨e,f,h,i,l,m,n⟩:=g;have q:=arr0 m;have a:=ww n;subst q a;exact .zvV (α:={d:D//d.kOK kk=U}) (enc:=λx=>x.1) [] e f h i rfl (zxq l) rfl (λx=>x.2) (by simp) (k c)
theorem wk.tmk {t j el kk b}{x y}{α}{enc}{m}{z}{d}{f:List α->Option R}(g:(o.guard,o.op,o.dst,xz j C.n,tE t,xz 0 b,ev T x,ev T y,tZd el)=(Y,.makeSlice t x y,O j,U,O (el,kk,b),U,O (.d (.int m)),O (.d (.int m)),O d))(k:∀v,f v=O r->TriL xg C ops rest Q ⟨(j,.vec H.length v.length)::T,H++[.vec el kk (v.map enc)]⟩)(hd:d=enc z):(mkl b m z).bind f=O r->TriL xg C ops (o::rest) Q ⟨T,H⟩:=λh=>by simp only[yf]at g;obtain⟨c,e,i,l,n,p,q,s,u⟩:=g;obtain⟨v,w,a⟩:=ztO h;exact .zvJ c e i l (zxq n) p q s (hd▸zoX u) w (k v a)
class HB (r:Nat)(js:outParam (List Nat)):Prop where mk::
class HN (d:Nat)(js:outParam (List Nat)):Prop where mk::
class HC (n:Nat)(j c k el:outParam Nat):Prop where mk::
theorem wk.alN {t j}{d}{js}[HB j js](g:(o.guard,o.op,o.dst,xz j C.n,tZd t)=(Y,.alloc t,O j,U,O d))(k:p->TriL xg C ops rest Q ⟨(j,.loc H.length 0)::T,H++[.box t (V.ztF (.d (nilAt js d)))]⟩)(g6:(nilAt js d).ones=true:=by exact rfl):p->TriL xg C ops (o::rest) Q ⟨T,H⟩:=λb=>by simp only[yf]at g;obtain⟨c,e,f,h,a⟩:=g;exact .zuq c e f h (zqI js a) g6 (k b)
theorem wk.tnc (n){j c k el t:Nat}{cs}[HC n j c k el](g:(H[j]?,cs[c]?)=(O (.box t cs),O (.d (.val (.slice Y 0 0)))))(kk:p->TriL xg C ops l Q ⟨T,(H++[Blk.vec el k []]).set j (.box t (cs.set c (.vec H.length 0)))⟩):p->TriL xg C ops l Q ⟨T,H⟩:=λa=>by simp only[yf]at g;exact .zve j c k el g.1 g.2 (kk a)
theorem wk.blN {t d:Nat}{parts}{v}{js}[HN d js](g:(o.guard,o.op,o.dst,xz d C.n)=(Y,.build t parts,O d,U))(k:p->TriL xg C ops rest Q ⟨(d,v)::T,H⟩)(g5:wBldN (ev T) js t parts=O v:=by exact rfl):p->TriL xg C ops (o::rest) Q ⟨T,H⟩:=λf=>by simp only[yf]at g;obtain⟨c,e,a,b⟩:=g;refine .op c (by rw[a];exact b) (zrt e g5) ?_;rw[a];exact k f
theorem wk.obl {e}{G}{t:Nat}{parts}{v}(g:(o.op,wBld e t parts)=(.build t parts,O v))(k:p->G v):p->OpP o e H G:=λa=>by simp only[yf]at g;exact⟨_,zqL g.1 g.2,k a⟩
theorem znU:∀{l}{x},x∈l->memN l x=U
 |[],_,h=>by grind|k::l,x,h=>by
  unfold memN;split;·rfl
  ·rcases yG.1 h with e|h;·simp_all
   ·exact znU h
def dedT:List Nat->List (Nat×V)->List (Nat×V)
 |us,(t,v)::T=>match memN us t with
  |true=>dedT us T|false=>(t,v)::dedT (t::us) T
 |_,[]=>[]
theorem zlP:∀(T)(us)(t)(v),look t (dedT us T)=O v->look t T=O v/\t∉us
 |[],us,t,v,h=>by grind[dedT,look]|(u,x)::T,us,t,v,h=>by
  unfold dedT at h;split at h
  ·obtain⟨b,a⟩:=zlP T us t v h;grind[look,zhS]
  ·rw[look]at h|-;split at h
   ·rename_i e;subst e;grind[znU]
   ·rename_i e;obtain⟨b,a⟩:=zlP T (u::us) t v h;simp_all
theorem TriL.ded (k:TriL xg C ops l Q ⟨dedT [] T,H⟩):TriL xg C ops l Q ⟨T,H⟩:=⟨λc a w b=>k.run c a w (R.weaken b λt v h=>(zlP T [] t v h).1)⟩
def relT (i m:Nat):List (Nat×V)->List (Nat×V)|(t,.vec j n)::T=>(t,.vec j (match wR i j with|true=>m|false=>n))::relT i m T|q::T=>q::relT i m T|[]=>[]
def zwK (i m:Nat):List (Nat×V)->Prop|(_,.vec j n)::T=>(match wR i j with|true=>n=m|false=>True)/\zwK i m T|_::T=>zwK i m T|[]=>True
theorem zmj {i m}:∀{T},zwK i m T->relT i m T=T
 |[],_=>rfl|(t,v)::T,h=>by
  cases v<;>simp only[relT,zwK]at h|-;case vec j n=>
   rw[zmj h.2];grind
  all_goals rw[zmj h]
def lens (i:Nat):List (Nat×V)->List Nat
 |(_,.vec j n)::T=>match wR i j with
  |true=>n::lens i T|false=>lens i T
 |_::T=>lens i T|[]=>[]
theorem zka {i m}:∀{T},lens i T=(lens i T).map (λ_=>m)->zwK i m T
 |[],_=>trivial|(t,v)::T,h=>by
  cases v<;>simp only[lens,zwK]at h|-;case vec j n=>cases a:wR i j with|true=>rw[a]at h;simp only[yW,wM]at h;exact⟨h.1,zka h.2⟩|false=>rw[a]at h;exact⟨trivial,zka h⟩
  all_goals exact zka h
theorem zq4 {i m m'}(e:m=m'){T}(h:zwK i m T):zwK i m' T:=e▸h
theorem wk.tst {t i n kk el:Nat}{q z}{α}{enc}{xs}{a}{y}{f:List α->Option R}{T1}(g:(o.guard,o.op,o.dst,ev T q,H[i]?,ev T z,tC t)=(Y,.store t q z,Y,O (.el i n a.toNat 0),O (.vec el kk (xs.map enc)),O (.d (enc y)),O kk))(hk:(enc y).kOK kk=U)(h1:(enc y).ones=U)(hT:dedT [] T=T1)(k:∀v,f v=O r->TriL xg C ops rest Q ⟨relT i v.length T1,H.set i (.vec el kk (v.map enc))⟩)(hn:n=xs.length:=by exact rfl)(he:lens i T1=(lens i T1).map λ_=>xs.length:=by exact rfl):(sto xs a y).bind f=O r->TriL xg C ops (o::rest) Q ⟨T,H⟩:=λh=>by simp only[yf]at g;obtain⟨e,u,j,l,m,p,s⟩:=g;obtain⟨v,c,b⟩:=ztO h;have:=k v b;rw[zmj (zq4 (zcd c) (zka he)),<-hT]at this;refine .zuD e u j l m hn p hk h1 (znq s) c (.ded this)
theorem wk.so {q z}{t i off n}{bt}{cs}{e}(g:(o.guard,o.op,o.dst,ev T q,nthD H i,ev T z,e.ones,tC t,(V.ztF (.d e)).length,xP (off+n) cs.length)=(Y,.store t q z,Y,O (.loc i off),O (.box bt cs),O (.d e),U,O n,n,U))(k:p->TriL xg C ops rest Q ⟨T,H.set i (.box bt (cs.take off++V.ztF (.d e)++cs.drop (off+n)))⟩):p->TriL xg C ops (o::rest) Q ⟨T,H⟩:=λa=>.so g (k a)
theorem wk.aq (k:p->TriL xg C ops l Q ⟨T,H⟩):p->TriL xg C ops l Q (zk7 xg H [] T):=λa=>by grind[zk7,zuZ,zuV,zhg]
theorem wk.aS {o1 o2:Oper}{z}{t j}{q}{e}(g:(o1.guard,o2.guard,o1.op,o1.dst,o2.op,o2.dst,xz j C.n,ev T q,neT q j,tZ t,zfV e z,e.ones)=(Y,Y,.alloc t,O j,.store t (.tmp j) q,Y,U,O (.d e),U,O z,U,U))(k:p->TriL xg C ops rest Q ⟨(j,.d (.ref e))::T,H⟩):p->TriL xg C ops (o1::o2::rest) Q ⟨T,H⟩:=λa=>.aS g (k a)
theorem wk.alo {t j}{d}(g:(o.guard,o.op,o.dst,xz j C.n,tZd t,d.ones)=(Y,.alloc t,O j,U,O d,U))(k:p->TriL xg C ops rest Q ⟨(j,.loc H.length 0)::T,H++[.box t (V.ztF (.d d))]⟩):p->TriL xg C ops (o::rest) Q ⟨T,H⟩:=λb=>by simp only[yf]at g;obtain⟨c,e,f,h,i,a⟩:=g;exact .zuq c e f h (zoX i) a (k b)
theorem wk.app {α}{q z}{t el i n kk b j}{enc}{xs ys}{f:List α->Option R}(g:(o.guard,o.op,o.dst,xz j C.n,ev T q,H[i]?,ev T z,tE t,xz 0 b)=(Y,.call {callee:=.builtin .append,args:=#[q,z],argTypes:=#[t,t]},O j,U,O (.vec i n),O (.vec el kk (xs.map enc)),O (.d (.sl kk (ys.map enc))),O (el,kk,b),U))(k:∀zs,f zs=O r->TriL xg C ops rest Q ⟨(j,.vec i zs.length)::T,H.set i (.vec el kk (zs.map enc))⟩)(hn:n=xs.length:=by exact rfl)(ho:∀z,(enc z).ones=true:=by exactλ_=>rfl):(Go.Proofs.YtipkniadbkndfaaGreatDoor.app b xs ys).bind f=O r->TriL xg C ops (o::rest) Q ⟨T,H⟩:=λh=>by simp only[yf]at g;obtain⟨c,e,l,m,p,s,u,w,x⟩:=g;obtain⟨v,y,a⟩:=ztO h;exact .app c e l m p s hn u (zxq w) x ho y (k v a)
theorem wk.QW (h:zqx N H ops l T=O (rest,T'))(k:p->TriQ xg N ops H rest al T' K):p->TriQ xg N ops H l al T K:=λa=>zqy (k a) h
theorem wk.Qn (k:p->K al T):p->TriQ xg N ops H [] al T K:=λa=>.nil (k a)
theorem wk.Qal {t d}{z}(g:(o.guard,o.op,o.dst,xz d N,tZd t)=(Y,.alloc t,O d,U,O z))(k:p->TriQ xg N ops H rest (al++[(d,t,Y)]) ((d,.junk)::T) K):p->TriQ xg N ops H (o::rest) al T K:=λb=>by simp only[yf]at g;obtain⟨c,e,a,f,h⟩:=g;obtain⟨v,i,_⟩:=(zoX h).out;exact .alloc c e a f (by simp_all) (k b)
theorem wk.Qst {t d:Nat}{q}{e}{z}(g:(o.guard,o.op,o.dst,ev T q,e.ones,tZ t,zfV e z)=(Y,.store t (.tmp d) q,Y,O (.d e),U,O z,U))(k:p->TriQ xg N ops H rest (al++[(d,t,O e)]) T K):p->TriQ xg N ops H (o::rest) al T K:=λb=>by simp only[yf]at g;obtain⟨c,f,h,i,j,l,a⟩:=g;exact .store c f h i j (zfv a) (tZ_ok l) (k b)
def zoH (g:Nat):List Oper->Nat->Option Nat
 |o::l,n=>match o.op with
  |.pick (.tmp t) _ _=>match wR t g with
   |true=>O n|false=>zoH g l (n+1)
  |_=>zoH g l (n+1)
 |[],_=>Y
def zrG (ops:Array Oper):List Oper->Option Nat
 |o::_=>match o.guard with
  |some (j,_)=>ops[j]?.bind (·.dst)|none=>Y
 |[]=>Y
def runsB (ops:Array Oper)(T:List (Nat×V))(ds:List Nat):Option (Nat×Bool)->Bool|none=>U|some (j,w)=>match ops[j]?.bind (·.dst)with
  |some g=>match memN ds g with
   |true=>M|false=>match look g T with
    |some (.d (.val (.bool b)))=>zw0 b w|_=>M
  |none=>M
theorem zoR {ds}{q}(h:runsB ops T ds q.guard=U):Runs ops q T/\∀j w g',q.guard=O (j,w)->ops[j]?.bind (·.dst)=O g'->g'∉ds:=by cases a:q.guard with
 |none=>exact⟨.inl a,λj w g' e=>by cases e⟩|some p=>
  rw[a]at h;simp only[runsB]at h;split at h
  ·rename_i g c;split at h;·cases h
   ·split at h;·have e:=zjE h;subst e;refine⟨.inr ⟨_,_,_,a,c,‹look _ _=_›⟩,λd f g' e i b=>?_⟩;grind[znU]
    grind
  grind
def Und (q g:Prop):Prop:=q->g
theorem wk.und {q g}(k:p->q->g):p->Und q g:=k
theorem wk.no {g:Prop}:(Y:Option R)=O r->g:=λh=>by cases h
theorem wk.jA {g m d}{q}{z:Nat}{bo b2}(h:((zrG ops l).bind λg=>(zoH g l 0).bind λm=>cutN m l λa b=>O (g,m,a,b))=O (g,m,l1,q::l2))(h':(q.op,look g T,zeZ ops N g U l1 [],runsB ops T (dsts l1) q.guard,q.dst,xz d N)=(.pick (.tmp g) (.tmp z) (.const (.bool M)),O (.d (.bool bo)),U,U,O d,U))(h1:p->Und (bo=U) (TriQ xg N ops H l1 al ((g,.d (.bool U))::T) λ_ T'=>look z T'=O (.d (.bool b2))))(h2:p->TriQ xg N ops H l2 al ((d,.d (.bool (bo&&b2)))::zvQ (dsts l1) T) K):p->TriQ xg N ops H l al T K:=λc=>by simp only[yf]at h';obtain⟨i,j,k,n,o,r⟩:=h';rw[vv]at h;obtain⟨u,_,h⟩:=h;rw[vv]at h;obtain⟨s,_,h⟩:=h;rw[zir]at h;simp only[yn,yf]at h;obtain⟨rfl,rfl,rfl,e⟩:=h;obtain⟨t,f⟩:=zoR n;exact .jAnd s e i j k t f o r (h1 c) (h2 c)
theorem wk.jO {g m d}{q}{z:Nat}{bo b2}(h:((zrG ops l).bind λg=>(zoH g l 0).bind λm=>cutN m l λa b=>O (g,m,a,b))=O (g,m,l1,q::l2))(h':(q.op,look g T,zeZ ops N g M l1 [],runsB ops T (dsts l1) q.guard,q.dst,xz d N)=(.pick (.tmp g) (.const (.bool U)) (.tmp z),O (.d (.bool bo)),U,U,O d,U))(h1:p->Und (bo=M) (TriQ xg N ops H l1 al ((g,.d (.bool M))::T) λ_ T'=>look z T'=O (.d (.bool b2))))(h2:p->TriQ xg N ops H l2 al ((d,.d (.bool (bo||b2)))::zvQ (dsts l1) T) K):p->TriQ xg N ops H l al T K:=λc=>by simp only[yf]at h';obtain⟨i,j,k,n,o,r⟩:=h';rw[vv]at h;obtain⟨u,_,h⟩:=h;rw[vv]at h;obtain⟨s,_,h⟩:=h;rw[zir]at h;simp only[yn,yf]at h;obtain⟨rfl,rfl,rfl,e⟩:=h;obtain⟨t,f⟩:=zoR n;exact .jOr s e i j k t f o r (h1 c) (h2 c)
theorem wk.fin {z}{b}(h:look z T=O (.d (.bool b))):p->look z T=O (.d (.bool b)):=λ_=>h
theorem wk.rO {P}{t:Tmp}{e}{enc:R->D}(hl:look t s.T=O (.d (enc e))):O e=O r->retQ P #[.tmp t] (enc r) .ret s:=λh=>Go.Proofs.YtipkniadbkndfaaGreatDoor.rO h hl
theorem wk.sc {A B}(h:A)(k:p->B):p->A/\B:=λa=>⟨h,k a⟩
theorem wk.rC {ty:TypeId}{t i T0:Nat}{cs}{ds}(g:(look t s.T,s.H[i]?,tS ty)=(O (.loc i 0),O (.box T0 cs),O (O ds.length)))(hf:Frzs s.H cs ds):retQ xg #[.cell t ty] (.agg ds) .ret s:=by simp only[yf]at g;exact zqr g.1 g.2.1 (Tab.sh _ _ g.2.2) hf
theorem wk.rCT {ty:TypeId}{t i u T0:Nat}{cs}{ds}{y}{v}(g:(look t s.T,s.H[i]?,tS ty,look u s.T)=(O (.loc i 0),O (.box T0 cs),O (O ds.length),O v))(hf:Frzs s.H cs ds)(f2:Frz s.H v y):retQ xg #[.cell t ty,.tmp u] (.tup [.agg ds,y]) .ret s:=by simp only[yf]at g;exact zeq g.1 g.2.1 (Tab.sh _ _ g.2.2.1) hf g.2.2.2 f2
end
end
section
set_option maxRecDepth 100000
variable[Drw]
abbrev slE {α:Type}(k:Nat)(f:α->D)(l:List α):D:=.sl k (l.map f)
class Kd0 {γ:outParam Type}(i:FuncId)(f:outParam (Nat->Option γ))(e:outParam (γ->D)):Prop where ok:∀n r,f n=O r->Pure xg i [] (e r)
class Kd1 {α γ:outParam Type}(i:FuncId)(f:outParam (Nat->α->Option γ))(a:outParam (α->D))(e:outParam (γ->D)):Prop where ok:∀n t0 r,f n t0=O r->Pure xg i [a t0] (e r)
class Kd2 {α β γ:outParam Type}(i:FuncId)(f:outParam (Nat->α->β->Option γ))(a:outParam (α->D))(b:outParam (β->D))(e:outParam (γ->D)):Prop where ok:∀n t0 t1 r,f n t0 t1=O r->Pure xg i [a t0,b t1] (e r)
class Kd3 {α β δ γ:outParam Type}(i:FuncId)(f:outParam (Nat->α->β->δ->Option γ))(a:outParam (α->D))(b:outParam (β->D))(c:outParam (δ->D))(e:outParam (γ->D)):Prop where ok:∀n t0 t1 t2 r,f n t0 t1 t2=O r->Pure xg i [a t0,b t1,c t2] (e r)
class Kd4 {α β δ ε γ:outParam Type}(i:FuncId)(f:outParam (Nat->α->β->δ->ε->Option γ))(a:outParam (α->D))(b:outParam (β->D))(c:outParam (δ->D))(d:outParam (ε->D))(e:outParam (γ->D)):Prop where ok:∀n t0 t1 t2 t3 r,f n t0 t1 t2 t3=O r->Pure xg i [a t0,b t1,c t2,d t3] (e r)
class Kd5 {α β δ ε ζ γ:outParam Type}(i:FuncId)(f:outParam (Nat->α->β->δ->ε->ζ->Option γ))(a:outParam (α->D))(b:outParam (β->D))(c:outParam (δ->D))(d:outParam (ε->D))(q:outParam (ζ->D))(e:outParam (γ->D)):Prop where ok:∀n t0 t1 t2 t3 t4 r,f n t0 t1 t2 t3 t4=O r->Pure xg i [a t0,b t1,c t2,d t3,q t4] (e r)
abbrev Fn1 {α γ:Type}(a:α->D)(e:γ->D)(f:α->Option γ)(F:D):Prop:=∀q y,f q=O y->Dyn xg F [a q] (e y)
class Kf2 {α β δ γ:outParam Type}(i:FuncId)(f:outParam (Nat->α->(β->Option δ)->Option γ))(a:outParam (α->D))(b:outParam (β->D))(d:outParam (δ->D))(e:outParam (γ->D)):Prop where ok:∀n t0 t1 F,Fn1 b d t1 F->∀r,f n t0 t1=O r->Pure xg i [a t0,F] (e r)
instance cf1 {γ}{i}{f}{e:γ->D}:CoeFun (Kd0 i f e) λ_=>∀n r,f n=O r->Pure xg i [] (e r):=⟨λk=>k.ok⟩
instance cf2 {α γ}{i}{f}{a:α->D}{e:γ->D}:CoeFun (Kd1 i f a e) λ_=>∀n t0 r,f n t0=O r->Pure xg i [a t0] (e r):=⟨λk=>k.ok⟩
instance cf3 {α β γ}{i}{f}{a:α->D}{b:β->D}{e:γ->D}:CoeFun (Kd2 i f a b e) λ_=>∀n t0 t1 r,f n t0 t1=O r->Pure xg i [a t0,b t1] (e r):=⟨λk=>k.ok⟩
instance cf4 {α β δ γ}{i}{f}{a:α->D}{b:β->D}{c:δ->D}{e:γ->D}:CoeFun (Kd3 i f a b c e) λ_=>∀n t0 t1 t2 r,f n t0 t1 t2=O r->Pure xg i [a t0,b t1,c t2] (e r):=⟨λk=>k.ok⟩
instance cf5 {α β δ ε γ}{i}{f}{a:α->D}{b:β->D}{c:δ->D}{d:ε->D}{e:γ->D}:CoeFun (Kd4 i f a b c d e) λ_=>∀n t0 t1 t2 t3 r,f n t0 t1 t2 t3=O r->Pure xg i [a t0,b t1,c t2,d t3] (e r):=⟨λk=>k.ok⟩
instance cf6 {α β δ ε ζ γ}{i}{f}{a:α->D}{b:β->D}{c:δ->D}{d:ε->D}{q:ζ->D}{e:γ->D}:CoeFun (Kd5 i f a b c d q e) λ_=>∀n t0 t1 t2 t3 t4 r,f n t0 t1 t2 t3 t4=O r->Pure xg i [a t0,b t1,c t2,d t3,q t4] (e r):=⟨λk=>k.ok⟩
instance cf7 {α β δ γ}{i}{f}{a:α->D}{b:β->D}{d:δ->D}{e:γ->D}:CoeFun (Kf2 i f a b d e) λ_=>∀n t0 t1 F,Fn1 b d t1 F->∀r,f n t0 t1=O r->Pure xg i [a t0,F] (e r):=⟨λk=>k.ok⟩
section
variable{α β δ ε γ R:Type}{i:FuncId}{n:Nat}{xs:List D}{r:R}{K:D->Prop}{G:Prop}
theorem Kd0.c {f}{e}[k:Kd0 i f e]{kk:γ->Option R}(hx:xs=[])(c:∀v,kk v=O r->K (e v)):(f n).bind kk=O r->ztT i xs K:=λh=>by obtain⟨v,b,a⟩:=ztO h;exact⟨_,hx▸k.ok _ _ b,c v a⟩
theorem Kd1.c {f}{a e}[k:Kd1 i f a e]{x:α}{kk:γ->Option R}(hx:xs=[a x])(c:∀v,kk v=O r->K (e v)):(f n x).bind kk=O r->ztT i xs K:=λh=>by obtain⟨v,d,b⟩:=ztO h;exact⟨_,hx▸k.ok _ _ _ d,c v b⟩
theorem Kd2.c {f}{a b e}[k:Kd2 i f a b e]{x:α}{y:β}{kk:γ->Option R}(hx:xs=[a x,b y])(c:∀v,kk v=O r->K (e v)):(f n x y).bind kk=O r->ztT i xs K:=λh=>by obtain⟨v,g,d⟩:=ztO h;exact⟨_,hx▸k.ok _ _ _ _ g,c v d⟩
theorem Kd3.c {f}{a b c e}[k:Kd3 i f a b c e]{x:α}{y:β}{z:δ}{kk:γ->Option R}(hx:xs=[a x,b y,c z])(g:∀v,kk v=O r->K (e v)):(f n x y z).bind kk=O r->ztT i xs K:=λh=>by obtain⟨v,j,d⟩:=ztO h;exact⟨_,hx▸k.ok _ _ _ _ _ j,g v d⟩
theorem Kd4.c {f}{a b c d e}[k:Kd4 i f a b c d e]{x:α}{y:β}{z:δ}{u:ε}{kk:γ->Option R}(hx:xs=[a x,b y,c z,d u])(g:∀v,kk v=O r->K (e v)):(f n x y z u).bind kk=O r->ztT i xs K:=λh=>by obtain⟨v,l,j⟩:=ztO h;exact⟨_,hx▸k.ok _ _ _ _ _ _ l,g v j⟩
theorem Kd5.c {ζ}{f}{a b c d q e}[k:Kd5 i f a b c d q e]{x:α}{y:β}{z:δ}{u:ε}{v:ζ}{kk:γ->Option R}(hx:xs=[a x,b y,c z,d u,q v])(g:∀v,kk v=O r->K (e v)):(f n x y z u v).bind kk=O r->ztT i xs K:=λh=>by obtain⟨v,l,j⟩:=ztO h;exact⟨_,hx▸k.ok _ _ _ _ _ _ _ l,g v j⟩
theorem Kf2.c {f}{a b d e}[k:Kf2 i f a b d e]{x:α}{y:β->Option δ}{F}{kk:γ->Option R}(hx:xs=[a x,F])(hf:Fn1 b d y F)(c:∀v,kk v=O r->K (e v)):(f n x y).bind kk=O r->ztT i xs K:=λh=>by obtain⟨v,j,g⟩:=ztO h;exact⟨_,hx▸k.ok _ _ _ _ hf _ j,c v g⟩
variable[Inhabited γ]
theorem Kd1.g {f:Nat->α->Option γ}{a e}[k:Kd1 i f a e]{x}(hv:G->(f n x).isSome=U)(hx:xs=[a x])(c:G->K (e ((f n x).getD J))):G->ztT i xs K:=λh=>⟨_,hx▸k.ok _ _ _ (zt2 (hv h)),c h⟩
theorem Kd2.g {f:Nat->α->β->Option γ}{a b e}[k:Kd2 i f a b e]{x}{y}(hv:G->(f n x y).isSome=U)(hx:xs=[a x,b y])(c:G->K (e ((f n x y).getD J))):G->ztT i xs K:=λh=>⟨_,hx▸k.ok _ _ _ _ (zt2 (hv h)),c h⟩
theorem Kd3.g {f:Nat->α->β->δ->Option γ}{a b c e}[k:Kd3 i f a b c e]{x}{y}{z}(hv:G->(f n x y z).isSome=U)(hx:xs=[a x,b y,c z])(g:G->K (e ((f n x y z).getD J))):G->ztT i xs K:=λh=>⟨_,hx▸k.ok _ _ _ _ _ (zt2 (hv h)),g h⟩
theorem Kd4.g {f:Nat->α->β->δ->ε->Option γ}{a b c d e}[k:Kd4 i f a b c d e]{x}{y}{z}{u}(hv:G->(f n x y z u).isSome=U)(hx:xs=[a x,b y,c z,d u])(g:G->K (e ((f n x y z u).getD J))):G->ztT i xs K:=λh=>⟨_,hx▸k.ok _ _ _ _ _ _ (zt2 (hv h)),g h⟩
theorem Kd1.gx {f:Nat->α->Option γ}{a e}[k:Kd1 i f a e]{x}(hx:xs=[a x])(hv:G->(f n x).isSome=U)(c:G->K (e ((f n x).getD J))):G->ztT i xs K:=Kd1.g hv hx c
theorem Kd2.gx {f:Nat->α->β->Option γ}{a b e}[k:Kd2 i f a b e]{x}{y}(hx:xs=[a x,b y])(hv:G->(f n x y).isSome=U)(c:G->K (e ((f n x y).getD J))):G->ztT i xs K:=Kd2.g hv hx c
theorem Kd3.gx {f:Nat->α->β->δ->Option γ}{a b c e}[k:Kd3 i f a b c e]{x}{y}{z}(hx:xs=[a x,b y,c z])(hv:G->(f n x y z).isSome=U)(g:G->K (e ((f n x y z).getD J))):G->ztT i xs K:=Kd3.g hv hx g
theorem Kf2.g {f:Nat->α->(β->Option δ)->Option γ}{a b d e}[k:Kf2 i f a b d e]{x}{y}{F}(hv:G->(f n x y).isSome=U)(hx:xs=[a x,F])(hf:Fn1 b d y F)(c:G->K (e ((f n x y).getD J))):G->ztT i xs K:=λh=>⟨_,hx▸k.ok _ _ _ _ hf _ (zt2 (hv h)),c h⟩
end
section
variable{α β δ ε γ R:Type}{i:FuncId}{n:Nat}{xs:List D}{r:R}{K:D->Prop}{G:Prop}{cs:List D}{j:FuncId}
theorem fn1 {a}{e}{f:α->Option γ}(hc:memN tCl j=U)(h:∀q y,f q=O y->ztT j (a q::cs) λd=>d=e y):Fn1 a e f (.fn (.func j) [] cs):=λq y c=>by obtain⟨d,g,b⟩:=(h q y c).out;subst b;exact⟨_,_,rfl,zt0 hc,g⟩
theorem Kd5.d {ζ}{f}{a b c d q e}[k:Kd5 i f a b c d q e]{x:α}{y:β}{z:δ}{u:ε}{w:ζ}{v:γ}(hx:xs=[a x,b y,c z,d u,q w]):f n x y z u w=O v->ztT i xs λd=>d=e v:=λh=>⟨_,hx▸k.ok _ _ _ _ _ _ _ h,rfl⟩
theorem Kd1.d {f}{a e}[k:Kd1 i f a e]{x:α}{v:γ}(hx:xs=[a x]):f n x=O v->ztT i xs λd=>d=e v:=λh=>⟨_,hx▸k.ok _ _ _ h,rfl⟩
theorem Kd2.d {f}{a b e}[k:Kd2 i f a b e]{x:α}{y:β}{v:γ}(hx:xs=[a x,b y]):f n x y=O v->ztT i xs λd=>d=e v:=λh=>⟨_,hx▸k.ok _ _ _ _ h,rfl⟩
theorem Kd3.d {f}{a b c e}[k:Kd3 i f a b c e]{x:α}{y:β}{z:δ}{v:γ}(hx:xs=[a x,b y,c z]):f n x y z=O v->ztT i xs λd=>d=e v:=λh=>⟨_,hx▸k.ok _ _ _ _ _ h,rfl⟩
end
def hid:Code->Option Nat
 |.region i _ _=>O i|.seq x y=>match hid x with
  |some i=>O i|none=>hid y
 |.cond _ x y=>match hid x with|some i=>O i|none=>hid y
 |.block _ c=>hid c|.loop c=>hid c|_=>Y
class HL (i:Nat){σ:outParam Type}(ks:outParam (List Nat))(u:outParam (σ->List (Nat×V)))(f:outParam (List Blk->σ->List (Nat×Blk))):Prop where mk::
class HJ (i:Nat){σ:outParam Type}(ks:outParam (List Nat))(u:outParam (σ->List (Nat×V)))(f:outParam (List Blk->σ->List (Nat×Blk))):Prop where mk::
class HK (i:Nat)(ks:outParam (List Nat)):Prop where mk::
def setL:List V->List (Nat×V)->List V|cs,[]=>cs|cs,(i,v)::l=>setL (cs.set i v) l
def bx (i:Nat)(l:List (Nat×V))(H:List Blk):Nat×Blk:=(i,match nthD H i with|some (.box t cs)=>.box t (setL cs l)|_=>.dead)
def appK {β:Type}:List (Nat×V)->List (Nat×V)->(List (Nat×V)->β)->β|[],K,k=>k K|q::l,K,k=>appK l K λm=>k (q::m)
theorem znF {β}:∀(l K)(k:List (Nat×V)->β),appK l K k=k (l++K)|[],K,k=>rfl|q::l,K,k=>by rw[appK,znF l];rfl
section
variable{p:Prop}{C:Ctx}{Q:Exit->St->Prop}{s:St}{x y c:Code}{R:Type}{r:R}{i:Nat}{ks:List Nat}{K:List (Nat×V)}{σ:Type}
theorem wk.L {body}{n}{init}{u}{f}{T:σ->List (Nat×V)}{xf:σ->List Blk}{X}(hi:hid c=O i)[HL i ks u f](g1:zvT ks s.T []=O K)(g2:(λv=>nfH (over s.H (f s.H v)) O)=λv=>O (xf v))(g3:(λv=>appK (u v) K O)=λv=>O (T v))(g:(s.H,(xf init).all (Blk.under (xf init).length),(T init).all λp=>p.2.under (xf init).length,lks (T init) s.T,xP C.gn s.H.length)=(xf init++X,U,U,vls (T init),U))(hb:∀(rec)(v),body rec v=O r->Tri xg C c (zvz rec r (λv=>⟨T v,xf v⟩) Q) ⟨T v,xf v⟩):ztg body n init=O r->Tri xg C (.loop c) Q s:=λh=>by
 have b:∀v,xf v=over s.H (f s.H v):=λv=>by
  have:=congrFun g2 v;grind[zkn]
 have d:∀v,T v=u v++K:=λv=>by
  have:=congrFun g3 v;grind[znF]
 have e:=funext b;have j:=funext d;subst e j;simp only[yf]at g;obtain⟨k,l,m,o,a⟩:=g;exact Tri.L ks h u (f s.H) (by simp only[yf];exact⟨g1,k,l,m,o,a⟩) hb
theorem wk.xf {k}{m}{u}{f}{T:σ->List (Nat×V)}{xf:σ->List Blk}(hi:hid y=O i)[HJ i ks u f](g1:zvT ks s.T []=O K)(g2:(λv=>nfH (over s.H (f s.H v)) O)=λv=>O (xf v))(g3:(λv=>appK (u v) K O)=λv=>O (T v))(g:xP C.gn s.H.length=U)(hm:∀k',m k'=O r->Tri xg C x (zvz k' r (λv=>⟨T v,xf v⟩) Q) s)(hk:∀v,k v=O r->Tri xg C y Q ⟨T v,xf v⟩):jn k m=O r->Tri xg C (.seq x y) Q s:=λh=>by
 have b:∀v,xf v=over s.H (f s.H v):=λv=>by
  have:=congrFun g2 v;grind[zkn]
 have c:∀v,T v=u v++K:=λv=>by
  have:=congrFun g3 v;grind[znF]
 have d:=funext b;have a:=funext c;subst d a;exact Tri.xf ks h u (f s.H) (by simp_all) hm hk
end
section
variable{α β δ ε γ R:Type}{r:R}{xs:List D}{K:D->Prop}{G:Prop}{i:FuncId}
theorem Fn1.c {a}{e}{f}{F}{x:α}{kk:γ->Option R}(hF:Fn1 a e f F)(hx:xs=[a x])(c:∀v,kk v=O r->K (e v)):(f x).bind kk=O r->DynP F xs K:=λh=>by obtain⟨v,d,b⟩:=ztO h;exact⟨_,hx▸hF _ _ d,c v b⟩
theorem Fn1.g [Inhabited γ]{a}{e}{f:α->Option γ}{F}{x}(hF:Fn1 a e f F)(hv:G->(f x).isSome=U)(hx:xs=[a x])(c:G->K (e ((f x).getD J))):G->DynP F xs K:=λh=>⟨_,hx▸hF _ _ (zt2 (hv h)),c h⟩
class Ks1 {α γ:outParam Type}(i:FuncId)(f:outParam (α->Option γ))(a:outParam (α->D))(e:outParam (γ->D)):Prop where ok:∀t0 r,f t0=O r->Pure xg i [a t0] (e r)
class Ks2 {α β γ:outParam Type}(i:FuncId)(f:outParam (α->β->Option γ))(a:outParam (α->D))(b:outParam (β->D))(e:outParam (γ->D)):Prop where ok:∀t0 t1 r,f t0 t1=O r->Pure xg i [a t0,b t1] (e r)
class Ks4 {α β δ ε γ:outParam Type}(i:FuncId)(f:outParam (α->β->δ->ε->Option γ))(a:outParam (α->D))(b:outParam (β->D))(c:outParam (δ->D))(d:outParam (ε->D))(e:outParam (γ->D)):Prop where ok:∀t0 t1 t2 t3 r,f t0 t1 t2 t3=O r->Pure xg i [a t0,b t1,c t2,d t3] (e r)
theorem Ks2.c {f}{a b e}[k:Ks2 i f a b e]{x:α}{y:β}{kk:γ->Option R}(hx:xs=[a x,b y])(c:∀v,kk v=O r->K (e v)):(f x y).bind kk=O r->ztT i xs K:=λh=>by obtain⟨v,g,d⟩:=ztO h;exact⟨_,hx▸k.ok _ _ _ g,c v d⟩
end
section
variable{α β δ ε ζ γ:Type}{i:FuncId}{n:Nat}{xs:List D}{K:D->Prop}{G:Prop}
theorem Kd1.p {f}{a e}{r0:γ}[k:Kd1 i f a e]{x:α}(hx:xs=[a x])(hv:f n x=O r0)(c:G->K (e r0)):G->ztT i xs K:=λh=>⟨_,hx▸k.ok _ _ _ hv,c h⟩
theorem Kd2.p {f}{a b e}{r0:γ}[k:Kd2 i f a b e]{x:α}{y:β}(hx:xs=[a x,b y])(hv:f n x y=O r0)(c:G->K (e r0)):G->ztT i xs K:=λh=>⟨_,hx▸k.ok _ _ _ _ hv,c h⟩
theorem Kd3.p {f}{a b c e}{r0:γ}[k:Kd3 i f a b c e]{x:α}{y:β}{z:δ}(hx:xs=[a x,b y,c z])(hv:f n x y z=O r0)(g:G->K (e r0)):G->ztT i xs K:=λh=>⟨_,hx▸k.ok _ _ _ _ _ hv,g h⟩
theorem Kf2.cf {R:Type}{r}{f}{a b d e}[k:Kf2 i f a b d e]{x:α}{y:β->Option δ}{j}{cs}{kk:γ->Option R}(hx:xs=[a x,.fn (.func j) [] cs])(hc:memN tCl j=U)(hf:∀q v,y q=O v->ztT j (b q::cs) λw=>w=d v)(c:∀v,kk v=O r->K (e v)):(f n x y).bind kk=O r->ztT i xs K:=Kf2.c hx (fn1 hc hf) c
theorem Kf2.gf [Inhabited γ]{f:Nat->α->(β->Option δ)->Option γ}{a b d e}[k:Kf2 i f a b d e]{x}{y}{j}{cs}(hx:xs=[a x,.fn (.func j) [] cs])(hc:memN tCl j=U)(hv:G->(f n x y).isSome=U)(hf:∀q v,y q=O v->ztT j (b q::cs) λw=>w=d v)(c:G->K (e ((f n x y).getD J))):G->ztT i xs K:=Kf2.g hv hx (fn1 hc hf) c
theorem dynF {j:FuncId}{cs}(hc:memN tCl j=U)(h:G->ztT j (xs++cs) K):G->DynP (.fn (.func j) [] cs) xs K:=λb=>by obtain⟨y,c,a⟩:=(h b).out;exact⟨y,⟨_,_,rfl,zt0 hc,c⟩,a⟩
end
theorem isS {p:Prop}{c}(h:p->c=true:=by first|exactλb=>impT (by assumption) b|exactλb=>impF (by assumption) b|exactλb=>impT (impT (by assumption) (by assumption)) b|exactλb=>impT (impF (by assumption) (by assumption)) b|exactλb=>impF (impT (by assumption) (by assumption)) b|exactλb=>impF (impF (by assumption) (by assumption)) b|exactλb=>impT (impT (impT (by assumption) (by assumption)) (by assumption)) b|exactλb=>impT (impT (impF (by assumption) (by assumption)) (by assumption)) b|exactλb=>impT (impF (impT (by assumption) (by assumption)) (by assumption)) b|exactλb=>impT (impF (impF (by assumption) (by assumption)) (by assumption)) b|exactλb=>impF (impT (impT (by assumption) (by assumption)) (by assumption)) b|exactλb=>impF (impT (impF (by assumption) (by assumption)) (by assumption)) b|exactλb=>impF (impF (impT (by assumption) (by assumption)) (by assumption)) b|exactλb=>impF (impF (impF (by assumption) (by assumption)) (by assumption)) b):p->c=true:=h
theorem all1 {γ:Type}{P:γ->Prop}(h:∀v,P v):∀v,P v:=h
end
