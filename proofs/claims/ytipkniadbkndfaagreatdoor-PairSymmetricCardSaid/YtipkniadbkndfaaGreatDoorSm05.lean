/- Part of the proof of one law of the seat. -/
import Derived.Test.YtipkniadbkndfaaGreatDoorSm04
set_option linter.all false
set_option maxRecDepth 100000
set_option maxHeartbeats 40000000
namespace Go.Proofs.YtipkniadbkndfaaGreatDoor
open Go Go.RowKit
open Option renaming some->O,none->Y,bind_eq_some_iff->vG
open Bool renaming true->U,false->M
open Decidable renaming decide->Z
open Inhabited renaming default->J
open Tree renaming enc->xo
open D renaming reps->xu,rep->xC
open Nat renaming blt->xA,ble->xQ,eq_of_beq_eq_true->wU,beq->vf
open _root_.Go.Proofs.YtipkniadbkndfaaGreatDoor.Found renaming enc->xN
open GMap renaming blk->xS,empty->wl
open List renaming range'->ws
open Step renaming enc->wA
open List.cons renaming injEq->wI
open Blk renaming under->vl
open Option.some renaming inj->vP
open Go.Proofs.Tryz renaming prog->xg
noncomputable section
def zik (n:Nat):Option Model:=O ⟨[],[⟨[99],1,[],⟨0,3⟩,0⟩],[[99]],[⟨0,0,⟨[⟨0,-1⟩],0⟩,0,0⟩,⟨0,0,⟨[⟨0,1⟩],3⟩,0,0⟩],[⟨[116,119,111],M,[]⟩],[⟨0,[],⟨[⟨0,2⟩],[],[]⟩⟩],[]⟩
def zQ.l1 (n:Nat)t0(t1:Int->Option Bool)(b:Int->Option Int)s:=let a:=s;if Z<|a<t0.length then(idx t0 a).bind λc=>(t1 c).bind λd=>if d then O a else b<|zvp a 1 else O<|-1
def zQ n t0 t1:=zvt (zQ.l1 n t0 t1) n 0
def zt (n:Nat)(t0:List Int)(t1:Int->Option Bool):Option Bool:=(zQ n t0 t1).bind λa=>O<|0<=a
def zen (n:Nat)t0 t1(t2:Int):=O<|t1<=t0&&t0<=t2
def zf7 n t0:=(zen n t0 1 6).bind λa=>O<|!a
def zf6 n t0:=(zt n t0 λq0=>zf7 n q0).bind λa=>O<|!a
def zag.l1 (n:Nat)t0(t1:Bool)(b:Int->Option Int)s:=let a:=s;if Z<|a<t0.length then(idx t0 a).bind λc=>if t1==c then O a else b<|zvp a 1 else O<|-1
def zag n t0 t1:=zvt (zag.l1 n t0 t1) n 0
def zb5 (n:Nat)(t0:List Bool)(t1:Bool):Option Bool:=(zag n t0 t1).bind λa=>O<|0<=a
def zgA n t0:=(zb5 n t0 M).bind λa=>O<|!a
def zdZ (n:Nat)(t0:List UInt8)(t1:Int->Option Bool):Option<|List<|List UInt8:=Y
def zff (n:Nat)t0:=if Z<|wk .u32 t0<=255 then jn (λv=>let b:=v;if b then O U else O M) λa=>if t0==9 then a<|t0==9 else if t0==10 then a<|t0==10 else if t0==11 then a<|t0==11 else if t0==12 then a<|t0==12 else if t0==13 then a<|t0==13 else if t0==32 then a<|t0==32 else if t0==133 then a<|t0==133 else a<|t0==160 else Y
def zbe.l4 (n:Nat)t0 e(c:List (List UInt8)×Int×Int×Int->Option (List<|List UInt8))b(d:Int->Option (List<|List UInt8))s:=let a:=s;grd (! a<t0.length||(sidx t0 a).isSome)<|grd (! a<t0.length||(idx tab0<|(sidx t0 a).getD J).isSome)<|if a<t0.length&&(idx tab0<|(sidx t0 a).getD J).getD J !=0 then d<|zvp a 1 else c (b,zvp e 1,a,a)
def zbe.l3 n t0 e(s:List (List UInt8)×Int×Int×Int):=let a:=s.2.1;let c:=s.2.2.1;let b:=s.2.2.2;if Z<|b<t0.length then(sidx t0 b).bind λj=>(idx tab0 j).bind λk=>if k==0 then e (s.1,a,c,zvp b 1)else(cut t0 c b).bind λl=>(idx s.1 a).bind λo=>(sto s.1 a l).bind λh=>zvt (zbe.l4 n t0 a e h) n<|zvp b 1 else jn (λv=>let f:=v;O f) λd=>if Z<|c<t0.length then(cut t0 c t0.length).bind λi=>(idx s.1 a).bind λm=>(sto s.1 a i).bind λg=>d g else d s.1
def zbe.l2 n t0 c(b:Int->Option (List<|List UInt8))s:=let a:=s;grd (! a<t0.length||(sidx t0 a).isSome)<|grd (! a<t0.length||(idx tab0<|(sidx t0 a).getD J).isSome)<|if a<t0.length&&(idx tab0<|(sidx t0 a).getD J).getD J !=0 then b<|zvp a 1 else zvt (zbe.l3 n t0) n (c,0,a,a)
def zbe.l1 n t0(d:Int×Int×Int×Int->Option (List<|List UInt8))(s:Int×Int×Int×Int):=let a:=s.2.2.2;if Z<|a<t0.length then(sidx t0 a).bind λb=>(idx tab0 b).bind λc=>d (zvp s.1<|band .i64 s.2.1<|bnot .i64<|wk .i64 c,wk .i64 c,bor .u8 s.2.2.1 b,zvp a 1)else if Z<|128<=s.2.2.1 then(zdZ n t0 λq0=>zff n q0).bind λe=>O e else(mkl 16 s.1 []).bind λf=>zvt (zbe.l2 n t0 f) n 0
def zbe n t0:=zvt (zbe.l1 n t0) n (0,1,0,0)
def zbU.l1 (n:Nat)a(b:GMap (List UInt8) Bool×Int->Option (GMap (List UInt8) Bool))(s:GMap (List UInt8) Bool×Int):=if Z<|s.2<a.length then(idx a s.2).bind λc=>b (s.1.put c U,zvp s.2 1)else O s.1
def zbU n:=(zbe n [115,111,114,116,32,114,101,108,97,116,105,111,110,32,99,111,117,110,116,101,114,32,115,101,116,32,114,101,103,105,115,116,101,114,32,105,110,118,97,114,105,97,110,116,32,111,112,101,114,97,116,105,111,110,32,107,101,121,32,114,101,102,101,114,101,110,99,101,32,116,111,32,99,111,117,110,116,32,97,99,121,99,108,105,99,32,97,108,108,32,115,117,109,32,105,110,32,97,100,100,119,105,110,115,32,114,101,109,111,118,101,119,105,110,115,32,108,97,115,116,32,109,117,108,116,105,32,104,105,100,101,32,111,114,100,101,114,101,100,32,114,101,113,117,105,114,101,32,104,111,108,100,32,105,110,115,101,114,116,32,100,101,108,101,116,101,32,97,100,100,32,102,114,111,109,32,112,117,116,32,100,114,111,112,32,97,115,115,105,103,110,32,102,111,114,32,119,104,101,114,101,32,97,110,100,32,111,114,32,110,111,116]).bind λa=>zvt (zbU.l1 n a) n (wl,0)
def zcl (n:Nat)(t0:Int):=O<|t0==32||t0==9||t0==10||t0==13
def zc1.l1 (n:Nat)t0(t1:Int->Option Bool)(b:Int->Option Int)s:=let a:=s;grd (! a<t0.length||(sidx t0 a).isSome)<|grd (! a<t0.length||(t1<|(sidx t0 a).getD J).isSome)<|if a<t0.length&&(t1<|(sidx t0 a).getD J).getD J then b<|zvp a 1 else O a
def zc1 n t0 t1:=zvt (zc1.l1 n t0 t1) n 0
def zgP (n:Nat)(t0:Int):=O<|t0 !=10
def zda.l1 n t0(b:Int->Option Int)(a:Int):=if Z<|a<t0.length then(sidx t0 a).bind λc=>(zcl n c).bind λd=>if d then b<|zvp a 1 else(sidx t0 a).bind λe=>if e==35 then(cut t0 a t0.length).bind λf=>(zc1 n f λq0=>zgP n q0).bind λg=>b<|zvp a g else O a else O a
def zda n t0:=zvt (zda.l1 n t0) n 0
def zc0 (n:Nat)(t0:Int):=O<|97<=t0&&t0<=122
def zbY (n:Nat)(t0:Int):=O<|48<=t0&&t0<=57
def zjf n t0:=(zc0 n t0).bind λa=>grd (a||(zbY n t0).isSome)<|O<|a||(zbY n t0).getD J||t0==95
def zbB (n:Nat)t0(t1:List UInt8):=grd (! t1.length<=(t0.length:Int)||(cut t0 0 t1.length).isSome)<|O<|t1.length<=(t0.length:Int)&&(cut t0 0 t1.length).getD J=t1
def zdf n t0 t1:=(zbB n t0 t1).bind λa=>O a
def za8 (n:Nat)t0(t1:Int):=O<|Lib.indexByte t0 t1.toNat.toUInt8
def zcz n t0 t1:=(za8 n t0 t1).bind λa=>O a
def zbu.l1 n t0(b:Int->Option Int)(a:Int):=if Z<|a<[[61,61],[33,61],[60,61],[62,61],[46,46]].length then(idx [[61,61],[33,61],[60,61],[62,61],[46,46]] a).bind λd=>(zdf n t0 d).bind λc=>if c then O 2 else b<|zvp a 1 else grd (! ! t0=[]||(sidx t0 0).isSome)<|grd (! ! t0=[]||(zcz n [60,62,61,43,45,42,40,41,123,125,44,58,59]<|(sidx t0 0).getD J).isSome)<|if ! t0=[]&&0<=(zcz n [60,62,61,43,45,42,40,41,123,125,44,58,59]<|(sidx t0 0).getD J).getD J then O 1 else O 0
def zbu n t0:=zvt (zbu.l1 n t0) n 0
def zdF n t0:=(sidx t0 0).bind λb=>(zc0 n b).bind λa=>grd (a||(sidx t0 0).isSome)<|grd (a||(zbY n<|(sidx t0 0).getD J).isSome)<|grd (a||(zbY n<|(sidx t0 0).getD J).getD J||(zbu n t0).isSome)<|O<|a||(zbY n<|(sidx t0 0).getD J).getD J||0<(zbu n t0).getD J
def zaH.l2 n a(c:Int×Int->Option Token)(d:Int->Option Token)s:=let b:=s;grd (! b<a.length||(sidx a b).isSome)<|grd (! b<a.length||(zcl n<|(sidx a b).getD J).isSome)<|grd (!(b<a.length&&!(zcl n<|(sidx a b).getD J).getD J)||(sidx a b).isSome)<|grd (!(b<a.length&&!(zcl n<|(sidx a b).getD J).getD J&&(sidx a b).getD J !=35)||(cut a b a.length).isSome)<|grd (!(b<a.length&&!(zcl n<|(sidx a b).getD J).getD J&&(sidx a b).getD J !=35)||(zdF n<|(cut a b a.length).getD J).isSome)<|if b<a.length&&!(zcl n<|(sidx a b).getD J).getD J&&(sidx a b).getD J !=35&&!(zdF n<|(cut a b a.length).getD J).getD J then d<|zvp b 1 else c (5,b)
def zaH.l1 n t1(t2:GMap (List UInt8) Bool)(q:Unit->Option Token)(s:Unit):=(cut t1 0 t1.length).bind λf=>(zda n f).bind λc=>(cut t1 (zvp 0 c) t1.length).bind λa=>jn (λv=>let e:=v.1;let p:=v.2;O ⟨e,0,zvp 0 c,zvp (zvp 0 c) p⟩) λb=>if Z<|a=[]then b (0,0)else(sidx a 0).bind λg=>(zc0 n g).bind λh=>if h then(zc1 n a λq0=>zjf n q0).bind λd=>(cut a 0 d).bind λi=>if(t2.get? i).getD M then b (2,d)else b (1,d)else(sidx a 0).bind λj=>(zbY n j).bind λk=>if k then(zc1 n a λq0=>zbY n q0).bind λl=>b (3,l)else(zbu n a).bind λm=>if Z<|0<m then(zbu n a).bind λo=>b (4,o)else zvt (zaH.l2 n a b) n 1
def zaH n t1 t2:=zvt (zaH.l1 n t1 t2) n ()
def zeS n t0:=if(t0=[]||4096<(t0.length:Int))=U then O 0 else(zbU n).bind λkw=>(zaH n t0 kw).bind λtok=>if(tok.at_ !=0||tok.end_ !=t0.length)=U then O 0 else O tok.kind
def zfS n t0:=grd (!(t0.length:Int)<=16||(zeS n t0).isSome)<|O<|(t0.length:Int)<=16&&(zeS n t0).getD J==1
def zdq (n:Nat)(t0:Int)(t1:List Int):=O<|t0<0||t1.length<=t0
def zei n t0 t1:=grd (!(t1.length:Int)<=3||(zt n t1 λq0=>zdq n q0 t0).isSome)<|O<|(t1.length:Int)<=3&&!(zt n t1 λq0=>zdq n q0 t0).getD J
def zem (n:Nat)(t0:Table):=jn (λv=>let b:=v;if b then O<|t0.range.lo<=t0.range.hi&&-9999<=t0.range.lo&&t0.range.hi<=9999 else O<|t0.range=⟨0,1⟩) λa=>if t0.kind==1 then a<|t0.kind==1 else if t0.kind==4 then a<|t0.kind==4 else a<|t0.kind==5
def zci (n:Nat)(t0:Table):=O<|t0.kind==0||t0.kind==1
def zbl.l1 (n:Nat)t0 t1(a:Int×Int->Option Int)(s:Int×Int):=if Z<|s.2<t1.length then(idx t1 s.2).bind λb=>(idx t0 b).bind λc=>a (zvA s.1 c,zvp s.2 1)else O s.1
def zbl n t0 t1:=zvt (zbl.l1 n t0 t1) n (1,0)
def zbX.l1 n t0 t1(h:GMap (List UInt8) Bool×Int×Int×Int->Option Bool)(s:GMap (List UInt8) Bool×Int×Int×Int):=let b:=s.2.2.1;let c:=s.2.2.2;if Z<|c<t1.length then jn (λv=>let g:=v.1;let e:=v.2.1;let f:=v.2.2;h (g,e,f,zvp c 1)) λd=>(idx t1 c).bind λa=>(zfS n a.name).bind λi=>(zen n a.kind 0 5).bind λj=>(zei n t0 a.zvo).bind λk=>(zem n a).bind λl=>(zgA n [i,!(s.1.get? a.name).getD M,j,k,l]).bind λm=>if !m then O M else(zci n a).bind λo=>if o then if a.first !=s.2.1 then O M else(zbl n t0 a.zvo).bind λp=>d (s.1.put a.name U,zvp s.2.1 p,b)else if a.first !=b then O M else(zbl n t0 a.zvo).bind λq=>d (s.1.put a.name U,s.2.1,zvp b q)else O<|s.2.1<=128&&b<=64
def zbX n t0 t1:=(zf6 n t0).bind λa=>(zgA n [(t0.length:Int)<=4,(t1.length:Int)<=12,a]).bind λb=>if !b then O M else zvt (zbX.l1 n t0 t1) n (wl,0,0,0)
def zaX.l1 n t0(b:GMap (List UInt8) Bool×Int->Option Bool)(s:GMap (List UInt8) Bool×Int):=if Z<|s.2<t0.length then(idx t0 s.2).bind λa=>(zfS n a).bind λc=>if !c||(s.1.get? a).getD M then O M else b (s.1.put a U,zvp s.2 1)else O U
def zaX n t0:=zvt (zaX.l1 n t0) n (wl,0)
def ze3 (n:Nat)t0 t1:=(shrO .u64 t0 32).bind λa=>(shrO .u64 t1 32).bind λb=>(shrO .u64 (wk .u64<|band .u64 t0 4294967295*band .u64 t1 4294967295) 32).bind λc=>(shrO .u64 (wk .u64<|wk .u64 (a*band .u64 t1 4294967295)+c) 32).bind λd=>(shrO .u64 (wk .u64<|band .u64 (wk .u64<|wk .u64 (a*band .u64 t1 4294967295)+c) 4294967295+wk .u64 (band .u64 t0 4294967295*b)) 32).bind λe=>O (wk .u64<|wk .u64 (wk .u64 (a*b)+d)+e,wk .u64<|t0*t1)
def zeL n t0 t1:=(ze3 n t0 t1).bind λa=>O (a.1,a.2)
def zM.l1 (n:Nat)(b:List Range×Int->Option (List Range))(s:List Range×Int):=let a:=s.1;if Z<|s.2<a.length then(cut a s.2 a.length).bind λc=>(cut a 0 s.2).bind λd=>b (zfi a s.2.toNat a.length<|(a.drop 0).take<|s.2.toNat-0,zvp s.2 (min (a.length-s.2.toNat) ((a.drop 0).take<|s.2.toNat-0).length:Nat))else O a
def zM n t0 t1:=if Z<|t1<0 then Y else(zeL n (wk .u64 t0.length)<|wk .u64 t1).bind λa=>if 0<a.1||9223372036854775807<a.2 then Y else(mkl 16 (wk .i64 a.2) ⟨0,0⟩).bind λb=>zvt (zM.l1 n) n (zfi b 0 b.length t0,(min (b.length-0) t0.length:Nat))
def zbT.l1 n t0 t1 t2(d:List Range×Int->Option (List Range))(s:List Range×Int):=if Z<|s.2<t1.length then jn (λv=>let c:=v;d (c,zvp s.2 1)) λb=>(idx t1 s.2).bind λa=>(zci n a).bind λe=>if e==t2 then(zbl n t0 a.zvo).bind λf=>(zM n [a.range] f).bind λg=>(app 16 s.1 g).bind λh=>b h else b s.1 else O s.1
def zbT n t0 t1 t2:=(zbX n t0 t1).bind λa=>if !a then O []else zvt (zbT.l1 n t0 t1 t2) n ([],0)
def zaJ (n:Nat)t0(t1:Int):=O<|0<=t0&&t0<t1
def zbg (n:Nat)t0 t1:=O<|zwb t1<=t0&&t0<=t1
def zaT.l1 n(t0:zxb)(t1:Row)(b:Int×Int->Option Bool)(s:Int×Int):=if Z<|s.2<t1.zvr.length then(idx t1.zvr s.2).bind λa=>grd (a.cell<=s.1||t0.strict.length<=a.cell||a.zvy==0||(zbg n a.zvy 1000).isSome)<|if a.cell<=s.1||t0.strict.length<=a.cell||a.zvy==0||!(zbg n a.zvy 1000).getD J then O M else b (a.cell,zvp s.2 1)else(zbg n t1.bound 1000000000).bind λc=>O c
def zaT n t0 t1:=zvt (zaT.l1 n t0 t1) n (-1,0)
def zbZ (n:Nat)(t0:Table)(t1:Constraint)(t2:zxb):=grd (!(t0.kind==0&&(t0.zvo.length:Int)==2)||(idx t0.zvo 0).isSome)<|grd (!(t0.kind==0&&(t0.zvo.length:Int)==2)||(idx t0.zvo 1).isSome)<|grd (!(t0.kind==0&&(t0.zvo.length:Int)==2&&(idx t0.zvo 0).getD J==(idx t0.zvo 1).getD J&&t0.first==t1.first)||(idx t0.zvo 0).isSome)<|grd (!(t0.kind==0&&(t0.zvo.length:Int)==2&&(idx t0.zvo 0).getD J==(idx t0.zvo 1).getD J&&t0.first==t1.first)||(idx t2.model.zvu<|(idx t0.zvo 0).getD J).isSome)<|O<|t0.kind==0&&(t0.zvo.length:Int)==2&&(idx t0.zvo 0).getD J==(idx t0.zvo 1).getD J&&t0.first==t1.first&&(idx t2.model.zvu<|(idx t0.zvo 0).getD J).getD J==t1.size
def zz.l1 (n:Nat)t0(t1:Table->Option Bool)(b:Int->Option Int)s:=let a:=s;if Z<|a<t0.length then(idx t0 a).bind λc=>(t1 c).bind λd=>if d then O a else b<|zvp a 1 else O<|-1
def zz n t0 t1:=zvt (zz.l1 n t0 t1) n 0
def zah (n:Nat)(t0:List Table)(t1:Table->Option Bool):Option Bool:=(zz n t0 t1).bind λa=>O<|0<=a
def zcx n t0 t1:=grd (!((t1.row.zvr.length:Int)==0&&t1.row.bound==0)||(zah n t0.model.tables λq0=>zbZ n q0 t1 t0).isSome)<|O<|(t1.row.zvr.length:Int)==0&&t1.row.bound==0&&(zah n t0.model.tables λq0=>zbZ n q0 t1 t0).getD J
def zU.l1 (n:Nat)t0(t1:List Term)(b:Int->Option Bool)(a:Int):=if Z<|a<t0.length then(idx t0 a).bind λc=>(idx t1 a).bind λd=>if ! c=d then O M else b<|zvp a 1 else O U
def zU n t0 t1:=if t0.length !=(t1.length:Int)then O M else zvt (zU.l1 n t0 t1) n 0
def zeu n(t0:Row)t1 t2 t3:=(zU n t0.zvr [⟨t1,t2⟩]).bind λa=>O<|a&&t0.bound==t3
def zaf.l1 n t0(i:Int->Option Bool)s:=let b:=s;if Z<|b<t0.model.constraints.length then jn (λv=>i<|zvp b 1) λc=>(idx t0.model.constraints b).bind λa=>jn (λv=>(zwx b 2).bind λk=>if Z<|k<t0.strict.length then(zwx b 2).bind λl=>(idx t0.strict l).bind λh=>jn (λv=>let f:=v.1;let g:=v.2;grd (a.kind !=0||(zwx b 2).isSome)<|grd (a.kind !=0||(zeu n a.row ((zwx b 2).getD J) f g).isSome)<|if a.kind !=0||!(zeu n a.row ((zwx b 2).getD J) f g).getD J then O M else c ()) λe=>(zwy b 2).bind λm=>if m==0 then e (-1,zwb h.lo)else e (1,h.hi)else c ()) λd=>(zaJ n a.family t0.model.zvC.length).bind λj=>if !j then O M else if a.kind==0 then grd (a.first !=0||a.size !=0||(zaT n t0 a.row).isSome)<|if a.first !=0||a.size !=0||!(zaT n t0 a.row).getD J then O M else d ()else grd (a.kind !=1||(zcx n t0 a).isSome)<|if a.kind !=1||!(zcx n t0 a).getD J then O M else d ()else O U
def zaf n t0:=if 512<(t0.model.constraints.length:Int)||t0.model.constraints.length<zvA 2 t0.strict.length then O M else zvt (zaf.l1 n t0) n 0
def zbF (n:Nat)(t0:Int)(t1:zxb):=O<|t0<(-1)||t1.model.zvu.length<=t0
def zP.l1 n t0(b:List (List UInt8)×Int->Option Bool)(s:List (List UInt8)×Int):=if Z<|s.2<t0.model.zvs.length then(idx t0.model.zvs s.2).bind λa=>(app 16 s.1 [a.name]).bind λc=>grd (3<(a.zvu.length:Int)||(zt n a.zvu λq0=>zbF n q0 t0).isSome)<|if 3<(a.zvu.length:Int)||(zt n a.zvu λq0=>zbF n q0 t0).getD J then O M else b (c,zvp s.2 1)else grd (!(s.1.length:Int)<=8||(zaX n s.1).isSome)<|O<|(s.1.length:Int)<=8&&(zaX n s.1).getD J
def zP n t0:=zvt (zP.l1 n t0) n ([],0)
def zdL (n:Nat)(t0:Int):=O<|t0 !=t0
def zct n t0 t1:=(zdL n t0).bind λb=>(zdL n t1).bind λa=>if b then if a then O 0 else O<|-1 else if a then O 1 else if Z<|t0<t1 then O<|-1 else if Z<|t1<t0 then O 1 else O 0
def zq.l1 n t0 t1(c:Int->Option Int)s:=let a:=s;if Z<|a<t0.length then(idx t0 a).bind λd=>if Z<|t1.length<=a then O 1 else(idx t1 a).bind λe=>(zct n d e).bind λb=>if b !=0 then O b else c<|zvp a 1 else if Z<|t0.length<(t1.length:Int)then O<|-1 else O 0
def zq n t0 t1:=zvt (zq.l1 n t0 t1) n 0
def zbf.l2 (n:Nat)t0 e(f:Table)(d:List Int×Int×Int->Option (Int×List Int×Bool))(s:List Int×Int×Int):=let a:=s.2.2;if Z<|0<=a then(idx f.zvo a).bind λg=>(idx t0 g).bind λb=>(zwy s.2.1 b).bind λh=>(zwx s.2.1 b).bind λi=>(idx s.1 a).bind λj=>(sto s.1 a h).bind λc=>d (c,i,zvz a 1)else O (e,s.1,U)
def zbf.l1 n t0 t1 t2 t3(e:Int->Option (Int×List Int×Bool))(b:Int):=if Z<|b<t1.length then(idx t1 b).bind λa=>(zci n a).bind λc=>grd (c !=t2||zvz t3 a.first<0||(zbl n t0 a.zvo).isSome)<|if c !=t2||zvz t3 a.first<0||(zbl n t0 a.zvo).getD J<=zvz t3 a.first then e<|zvp b 1 else(mkl 8 a.zvo.length 0).bind λd=>zvt (zbf.l2 n t0 b a) n (d,zvz t3 a.first,zvz d.length 1)else O (0,[],M)
def zbf n t0 t1 t2 t3:=(zbX n t0 t1).bind λa=>if !a||t3<0 then O (0,[],M)else zvt (zbf.l1 n t0 t1 t2 t3) n 0
def zce n(t0:zxb)(t1:zwg):=(zbf n t0.model.zvu t0.model.tables M t1.cell).bind λc=>if !c.2.2 then O M else(idx t0.model.tables c.1).bind λa=>jn (λv=>let d:=v;if d then O<|(t1.kind==0||t1.kind==1)&&t1.value==0 else O<|t1.kind==2&&a.range.lo<=t1.value&&t1.value<=a.range.hi) λb=>if a.kind==2 then b<|a.kind==2 else b<|a.kind==3
def zbP n t0 t1:=(zaT n t1 t0).bind λa=>O<|!a
def zn.l1 (n:Nat)t0(t1:Row->Option Bool)(b:Int->Option Int)s:=let a:=s;if Z<|a<t0.length then(idx t0 a).bind λc=>(t1 c).bind λd=>if d then O a else b<|zvp a 1 else O<|-1
def zn n t0 t1:=zvt (zn.l1 n t0 t1) n 0
def zo (n:Nat)(t0:List Row)(t1:Row->Option Bool):Option Bool:=(zn n t0 t1).bind λa=>O<|0<=a
def zT.l2 n t0(t1:zwf)(b:Int×Int->Option Bool)(s:Int×Int):=if Z<|s.2<t1.zvw.length then(idx t1.zvw s.2).bind λa=>grd (a.cell<=s.1||(zce n t0 a).isSome)<|if a.cell<=s.1||!(zce n t0 a).getD J then O M else b (a.cell,zvp s.2 1)else grd (!((t1.hold.length:Int)<=8&&(t1.zvw.length:Int)<=32)||(zo n t1.hold λq0=>zbP n q0 t0).isSome)<|O<|(t1.hold.length:Int)<=8&&(t1.zvw.length:Int)<=32&&!(zo n t1.hold λq0=>zbP n q0 t0).getD J
def zT.l1 n t0(t1:zwf)(b:Int×Int->Option Bool)(s:Int×Int):=if Z<|s.2<t1.delta.length then(idx t1.delta s.2).bind λa=>grd (a.cell<=s.1||t0.strict.length<=a.cell||a.add==0||(zbg n a.add 1000000000).isSome)<|if a.cell<=s.1||t0.strict.length<=a.cell||a.add==0||!(zbg n a.add 1000000000).getD J then O M else b (a.cell,zvp s.2 1)else zvt (zT.l2 n t0 t1) n (-1,0)
def zT n t0 t1:=zvt (zT.l1 n t0 t1) n (-1,0)
def zK.l2 n t0 f(j:Int->Option Bool)(b:Action)(h:zvX)(i:Int->Option Bool)(e:Int):=if Z<|e<h.zvu.length then(idx h.zvu e).bind λa=>(idx b.arguments e).bind λc=>grd (! a<0||(zbg n c 9999).isSome)<|grd (a<0&&!(zbg n c 9999).getD J||(! 0<=a||(idx t0.model.zvu a).isSome))<|grd (a<0&&!(zbg n c 9999).getD J||(! 0<=a||(zaJ n c<|(idx t0.model.zvu a).getD J).isSome))<|if a<0&&!(zbg n c 9999).getD J||0<=a&&!(zaJ n c<|(idx t0.model.zvu a).getD J).getD J then O M else i<|zvp e 1 else jn (λv=>(zT n t0 b.effect).bind λk=>if !k then O M else j<|zvp f 1) λg=>if Z<|0<f then(idx t0.model.zvq<|zvz f 1).bind λd=>grd (b.operation<d.operation||(! d.operation==b.operation||(zq n d.arguments b.arguments).isSome))<|if b.operation<d.operation||d.operation==b.operation&&0<=(zq n d.arguments b.arguments).getD J then O M else g ()else g ()
def zK.l1 n t0 d(b:Int):=if Z<|b<t0.model.zvq.length then(idx t0.model.zvq b).bind λa=>(zaJ n a.operation t0.model.zvs.length).bind λc=>grd (!c||(idx t0.model.zvs a.operation).isSome)<|if !c||a.arguments.length !=((((idx t0.model.zvs a.operation).getD J).zvu).length:Int)then O M else(idx t0.model.zvs a.operation).bind λe=>zvt (zK.l2 n t0 b d a e) n 0 else O U
def zK n t0:=if Z<|256<(t0.model.zvq.length:Int)then O M else zvt (zK.l1 n t0) n 0
def zdk (n:Nat)(t0:Hide)t1(t2:GMap Int Bool):=O<|t0.table==t1&&(t2.get? t0.to).getD M
def zF.l1 (n:Nat)t0(t1:Hide->Option Bool)(b:Int->Option Int)s:=let a:=s;if Z<|a<t0.length then(idx t0 a).bind λc=>(t1 c).bind λd=>if d then O a else b<|zvp a 1 else O<|-1
def zF n t0 t1:=zvt (zF.l1 n t0 t1) n 0
def zaF (n:Nat)(t0:List Hide)(t1:Hide->Option Bool):Option Bool:=(zF n t0 t1).bind λa=>O<|0<=a
def zh.l4 n(t0:zxb)(c:GMap Int Bool)e(d:GMap Int Bool×Int->Option Bool)(b:GMap Int Bool×List Nat×Nat->Option Bool)(s:GMap Int Bool×List Nat×Nat):=stepM s.1 s.2.1 c.clock s.2.2 (d (s.1,zvp e 1)) λa=>grd (s.1.es.map (·.1)).Nodup<|(zaF n t0.model.zvD λq0=>zdk n q0 a.2.1 s.1).bind λf=>if !f then b (s.1.del a.2.1,s.2.1++[a.1],s.1.clock)else b (s.1,s.2.1++[a.1],s.1.clock)
def zh.l3 n t0 a(s:GMap Int Bool×Int):=if Z<|s.2<t0.model.zvD.length then zvt (zh.l4 n t0 s.1 s.2 a) n (s.1,[],s.1.clock)else O<|(s.1.es.length:Int)==0
def zh.l2 n t0(a:GMap Int Bool×Int->Option Bool)(s:GMap Int Bool×Int):=if Z<|s.2<t0.model.zvD.length then(idx t0.model.zvD s.2).bind λb=>a (s.1.put b.table U,zvp s.2 1)else zvt (zh.l3 n t0) n (s.1,0)
def zh.l1 n t0(f:Int->Option Bool)(d:Int):=if Z<|d<t0.model.zvD.length then(idx t0.model.zvD d).bind λa=>(zaJ n a.table t0.model.tables.length).bind λe=>grd (!e||(zaJ n a.to t0.model.tables.length).isSome)<|if !e||!(zaJ n a.to t0.model.tables.length).getD J||a.table==a.to then O M else(idx t0.model.tables a.table).bind λb=>(idx t0.model.tables a.to).bind λc=>grd (b.kind !=0||c.kind !=0||(zaJ n a.column b.zvo.length).isSome)<|grd (b.kind !=0||c.kind !=0||!(zaJ n a.column b.zvo.length).getD J||(c.zvo.length:Int)!=1||(idx c.zvo 0).isSome)<|grd (b.kind !=0||c.kind !=0||!(zaJ n a.column b.zvo.length).getD J||(c.zvo.length:Int)!=1||(idx b.zvo a.column).isSome)<|if b.kind !=0||c.kind !=0||!(zaJ n a.column b.zvo.length).getD J||(c.zvo.length:Int)!=1||(idx c.zvo 0).getD J !=(idx b.zvo a.column).getD J then O M else f<|zvp d 1 else zvt (zh.l2 n t0) n (wl,0)
def zh n t0:=if Z<|12<(t0.model.zvD.length:Int)then O M else zvt (zh.l1 n t0) n 0
def ze4 n t0:=(zbX n t0.zvu t0.tables).bind λc=>grd (!c||24<(t0.zvC.length:Int)||(zaX n t0.zvC).isSome)<|if !c||24<(t0.zvC.length:Int)||!(zaX n t0.zvC).getD J then O M else(zbT n t0.zvu t0.tables U).bind λa=>(zaf n ⟨t0,a⟩).bind λb=>grd (!b||(zP n ⟨t0,a⟩).isSome)<|grd (!(b&&(zP n ⟨t0,a⟩).getD J)||(zK n ⟨t0,a⟩).isSome)<|grd (!(b&&(zP n ⟨t0,a⟩).getD J&&(zK n ⟨t0,a⟩).getD J)||(zh n ⟨t0,a⟩).isSome)<|O<|b&&(zP n ⟨t0,a⟩).getD J&&(zK n ⟨t0,a⟩).getD J&&(zh n ⟨t0,a⟩).getD J
def zp.l5 (n:Nat)a(g:List Place×List Place×Int->Option (Option zxl×Bool))(i:Table)d(h:List Place×List Place×Int->Option (Option zxl×Bool))(s:List Place×List Place×Int):=if Z<|s.2.2<d.length then jn (λv=>let e:=v.1;let f:=v.2;h (e,f,zvp s.2.2 1)) λb=>(idx d s.2.2).bind λc=>if Z<|i.kind<=1 then(app 32 s.1 [⟨a,c⟩]).bind λj=>b (j,s.2.1)else(app 32 s.2.1 [⟨a,c⟩]).bind λk=>b (s.1,k)else g (s.1,s.2.1,zvp a 1)
def zp.l4 (n:Nat)c(a:List (List Int)×Int->Option (Option zxl×Bool))d e(b:List (List Int)×Int->Option (Option zxl×Bool))(s:List (List Int)×Int):=if Z<|s.2<e then(app 8 [] d).bind λf=>(app 8 f [s.2]).bind λg=>(app 24 s.1 [g]).bind λh=>b (h,zvp s.2 1)else a (s.1,zvp c 1)
def zp.l3 n(t0:Model)a d(b:List (List Int)×Int->Option (Option zxl×Bool))e c(s:List (List Int)×Int):=if Z<|s.2<a.length then(idx a s.2).bind λf=>(idx t0.zvu e).bind λg=>zvt (zp.l4 n s.2 c f g) n (s.1,0)else b (s.1,zvp d 1)
def zp.l2 n t0 b c f d a e(s:List (List Int)×Int):=if Z<|s.2<a.zvo.length then(idx a.zvo s.2).bind λg=>zvt (zp.l3 n t0 s.1 s.2 e g) n ([],0)else zvt (zp.l5 n f d a s.1) n (b,c,0)
def zp.l1 n t0 a(s:List Place×List Place×Int):=if Z<|s.2.2<t0.tables.length then(idx t0.tables s.2.2).bind λb=>zvt (zp.l2 n t0 s.1 s.2.1 s.2.2 a b) n ([[]],0)else O (O ⟨t0,s.1,s.2.1⟩,U)
def zp n t0:=(ze4 n t0).bind λa=>if !a then O (Y,M)else zvt (zp.l1 n t0) n ([],[],0)
def zbE (n:Nat)(t0:zxl)(t1:Question):=if t1.e<0||t1.f<0||t0.m.zvq.length<=t1.e||t0.m.zvq.length<=t1.f||t1.target.index<0 then O M else if t1.target.hold then(idx t0.m.zvq t1.e).bind λa=>O<|t1.target.index<a.effect.hold.length else O<|t1.e<=t1.f&&t1.target.index<t0.m.constraints.length
def zdp n t0 t1:=(zp n t0).bind λa=>grd (!a.2||a.1.isSome)<|grd (!a.2||(zbE n (a.1.getD J) t1).isSome)<|O<|a.2&&(zbE n (a.1.getD J) t1).getD J
def zgU n t0 t1:=(ze4 n t0).bind λb=>if !b then O []else(zbT n t0.zvu t0.tables t1).bind λa=>O a
def zfm n t0:=(zgU n t0 U).bind λa=>O a
def zS.l1 (n:Nat)(t0:Action)t1(c:Int->Option Int)(a:Int):=if Z<|a<t0.effect.delta.length then(idx t0.effect.delta a).bind λb=>if b.cell==t1 then O b.add else c<|zvp a 1 else O 0
def zS n t0 t1:=zvt (zS.l1 n t0 t1) n 0
def zJ.l1 n t0(t1:Row)(b:Int×Int->Option Int)(s:Int×Int):=if Z<|s.2<t1.zvr.length then(idx t1.zvr s.2).bind λa=>(zS n t0 a.cell).bind λc=>b (zvp s.1<|zvA a.zvy c,zvp s.2 1)else O s.1
def zJ n t0 t1:=zvt (zJ.l1 n t0 t1) n (0,0)
def zaB.l1 (n:Nat)t0(t1:Int)(b:Int->Option Int)s:=let a:=s;if Z<|a<t0.length then(idx t0 a).bind λc=>if t1==c then O a else b<|zvp a 1 else O<|-1
def zaB n t0 t1:=zvt (zaB.l1 n t0 t1) n 0
def zaR (n:Nat)(t0:List Int)(t1:Int):Option Bool:=(zaB n t0 t1).bind λa=>O<|0<=a
def zeC (n:Nat)t0 t1:=O<|zvz t0 t1
def zV.l1 (n:Nat)(t0:Row)(t1:Int->Option Int)c(b:List Term×Int->Option Row)(s:List Term×Int):=if Z<|s.2<t0.zvr.length then(idx t0.zvr s.2).bind λa=>(t1 a.zvy).bind λd=>(app 16 s.1 [⟨a.cell,d⟩]).bind λe=>b (e,zvp s.2 1)else O ⟨s.1,c⟩
def zV n t0 t1(t2:Int->Option Int):=(t2 t0.bound).bind λa=>zvt (zV.l1 n t0 t1 a) n ([],0)
def zbw (n:Nat)(t0:Int):=O t0
def zav (n:Nat)t0 t1:=O<|zvz (zvp (zwb t0) t1) 1
def za1 (n:Nat)t0:=O<|zwb t0
def zH.l1 (n:Nat)(t0:Constraint)(t1:Int->Option Int)(a:List Int×Int->Option zvP)(s:List Int×Int):=if Z<|s.2<zvA t0.size t0.size then(t1<|zvp t0.first s.2).bind λb=>(app 8 s.1 [zvz 1 b]).bind λc=>a (c,zvp s.2 1)else O ⟨t0.first,t0.size,s.1⟩
def zH n t0 t1:=zvt (zH.l1 n t0 t1) n ([],0)
def za7 (n:Nat)(t0:Int):Option Int:=O 0
def zD.l1 n t0(t1:Constraint)(c:List Int×Int->Option (List Int))(s:List Int×Int):=if Z<|s.2<zvA t1.size t1.size then jn (λv=>let b:=v;c (b,zvp s.2 1)) λa=>(zS n t0<|zvp t1.first s.2).bind λd=>if Z<|0<d then(app 8 s.1 [s.2]).bind λe=>a e else a s.1 else O s.1
def zD n t0 t1:=zvt (zD.l1 n t0 t1) n ([],0)
def zR n t0 t1:=(zS n t1 t0).bind λa=>O a
def zai n t0 t1:=(zS n t1 t0).bind λa=>O a
def za0 n t0 t1(t2:Constraint)t3:=(zS n t1<|zvp t2.first t0).bind λa=>(zS n t3<|zvp t2.first t0).bind λb=>O<|zvp a b
def zca (n:Nat)(t0:Int)(t1:List Bool):Option<|zwR×Bool:=O (⟨t0,t1⟩,1<=t0&&t0<=6&&t1.length==zvA t0 t0)
def za2 (n:Nat)(t0:zwR)t1 t2:=(idx t0.zvI<|zvp (zvA t1 t0.size) t2).bind λa=>O a
def zc8.l1 (n:Nat)t0(c:Int->Option Int)(a:Int):=if Z<|a<t0.length then(idx t0 a).bind λb=>if b !=0 then O b else c<|zvp a 1 else O 0
def zc8 n t0:=zvt (zc8.l1 n t0) n 0
def zcu n t0 t1:=(zct n t0.length t1.length).bind λc=>(zq n t0 t1).bind λa=>(zc8 n [c,a]).bind λb=>O b
def zE.l1 n g(v:List Int->List (List Int)->Option (List<|List Int))l last(rec:Int×List (List Int)->Option (List<|List Int))(s:Int×List (List Int)):=if Z<|s.1<g.size then(za2 n g last s.1).bind λe=>if e then(zaR n l s.1).bind λf=>if f=U then rec (zvp s.1 1,s.2)else(app 8 [] l).bind λc=>(app 8 c [s.1]).bind λl2=>(v l2 s.2).bind λout=>rec (zvp s.1 1,out)else rec (zvp s.1 1,s.2)else O s.2
def zE (n:Nat)(g:zwR):Nat->List Int->List (List Int)->Option (List<|List Int)|0,_,_=>Y|k+1,l,out=>(idx l<|zvz l.length 1).bind λlast=>(idx l 0).bind λfirst=>(za2 n g last first).bind λe=>if e then(app 8 [] l).bind λc=>(app 24 out [c]).bind λout=>zvt (zE.l1 n g (zE n g k) l last) n (zvp first 1,out)else zvt (zE.l1 n g (zE n g k) l last) n (zvp first 1,out)
def zvT.l1 n g(rec:Int×List (List Int)->Option (List<|List Int))(s:Int×List (List Int)):=if Z<|s.1<g.size then(zE n g n [s.1] s.2).bind λout=>rec (zvp s.1 1,out)else O s.2
def zbx n t0 t1:=(zca n t0 t1).bind λo=>if(!o.2)=U then O []else(zvt (zvT.l1 n o.1) n (0,[])).bind λout=>zzn (zcu n) out
def zm.l3 n t1 t2 t3 f(g:List (List Row)->Option (List<|List Row))c(h:List Row×Bool×Bool×Int->Option (List<|List Row))(s:List Row×Bool×Bool×Int):=let e:=s.2.2.1;let d:=s.2.2.2;if Z<|d<c.length then(idx c d).bind λa=>(zwy (zvp d 1) c.length).bind λl=>(idx c l).bind λb=>grd (s.2.1||(zS n t2<|zvp t1.first<|zvp (zvA a t1.size) b).isSome)<|grd (e||(zS n t3<|zvp t1.first<|zvp (zvA a t1.size) b).isSome)<|(za0 n (zvp (zvA a t1.size) b) t2 t1 t3).bind λi=>(app 32 s.1 [⟨[⟨zvp t1.first<|zvp (zvA a t1.size) b,-1⟩],zvz i 1⟩]).bind λj=>h (j,s.2.1||0<(zS n t2<|zvp t1.first<|zvp (zvA a t1.size) b).getD J,e||0<(zS n t3<|zvp t1.first<|zvp (zvA a t1.size) b).getD J,zvp d 1)else if s.2.1&&e then(app 24 f [s.1]).bind λk=>g k else g f
def zm.l2 n t1 t2 t3 a(d:List (List Row)×Int->Option (List<|List Row))(s:List (List Row)×Int):=if Z<|s.2<a.length then jn (λv=>let b:=v;d (b,zvp s.2 1)) λc=>(idx a s.2).bind λe=>zvt (zm.l3 n t1 t2 t3 s.1 c e) n ([],M,M,0)else O s.1
def zm.l1 n(t0:List Range)t1 t2 t3(c:List Bool)(b:List Bool×Int->Option (List<|List Row))(s:List Bool×Int):=if Z<|s.2<c.length then(idx t0<|zvp t1.first s.2).bind λd=>(za0 n s.2 t2 t1 t3).bind λe=>(idx s.1 s.2).bind λg=>(sto s.1 s.2<|1<=zvp d.hi e).bind λa=>b (a,zvp s.2 1)else(zbx n t1.size s.1).bind λf=>zvt (zm.l2 n t1 t2 t3 f) n ([],0)
def zm n t0 t1 t2 t3:=(mkl 1 (zvA t1.size t1.size) M).bind λa=>zvt (zm.l1 n t0 t1 t2 t3 a) n (a,0)
def zaS.l1 (n:Nat)(t0:List Range)(c:Int->Option Bool)(b:Int):=if Z<|b<t0.length then(idx t0 b).bind λa=>if a.lo<(-1000000)||1000000<a.lo||a.hi<(-1000000)||1000000<a.hi then O M else c<|zvp b 1 else O<|(t0.length:Int)<=128
def zaS n t0:=zvt (zaS.l1 n t0) n 0
def zaN.l1 (n:Nat)t0(t1:Row)(b:Int×Int->Option Bool)(s:Int×Int):=if Z<|s.2<t1.zvr.length then(idx t1.zvr s.2).bind λa=>if a.cell<=s.1||t0<=a.cell||a.zvy==0||a.zvy<(-1000)||1000<a.zvy then O M else b (a.cell,zvp s.2 1)else O<|-1000000000<=t1.bound&&t1.bound<=1000000000
def zaN n t0 t1:=zvt (zaN.l1 n t0 t1) n (-1,0)
def zbJ n t0(t1:List Range):=(zaN n t1.length t0).bind λa=>O<|!a
def zbj n t0 t1:=(zaS n t0).bind λa=>grd (!a||(zo n t1 λq0=>zbJ n q0 t0).isSome)<|O<|a&&!(zo n t1 λq0=>zbJ n q0 t0).getD J
def zi.l1 (n:Nat)t0(t1:Range->Option Bool)(b:Int->Option Int)s:=let a:=s;if Z<|a<t0.length then(idx t0 a).bind λc=>(t1 c).bind λd=>if d then O a else b<|zvp a 1 else O<|-1
def zi n t0 t1:=zvt (zi.l1 n t0 t1) n 0
def zay (n:Nat)(t0:List Range)(t1:Range->Option Bool):Option Bool:=(zi n t0 t1).bind λa=>O<|0<=a
def zdm (n:Nat)(t0:Range):Option Bool:=O<|t0.hi<t0.lo
def zck n t0:=(zay n t0 λq0=>zdm n q0).bind λa=>O a
def zeg n(t0:System)t1(t2:Int):=grd (! t1.length<=t2||(zbj n t0.box t1).isSome)<|O<|t1.length<=t2&&(zbj n t0.box t1).getD J
def zfI (n:Nat)t0:=O<|t0<(-4000000)||4000000<t0
def zfw n t0(t1:zvP):=if t1.size<1||6<t1.size||t1.first<0||zvz t0 (zvA t1.size t1.size)<t1.first||t1.least.length !=zvA t1.size t1.size then O M else(zt n t1.least λq0=>zfI n q0).bind λa=>O<|!a
def zfH n t0 t1:=(zeg n t1 t0 64).bind λa=>O<|!a
def zab.l1 (n:Nat)t0(t1:List Row->Option Bool)(b:Int->Option Int)s:=let a:=s;if Z<|a<t0.length then(idx t0 a).bind λc=>(t1 c).bind λd=>if d then O a else b<|zvp a 1 else O<|-1
def zab n t0 t1:=zvt (zab.l1 n t0 t1) n 0
def zba (n:Nat)(t0:List<|List Row)(t1:List Row->Option Bool):Option Bool:=(zab n t0 t1).bind λa=>O<|0<=a
def zar.l1 n t0(b:Int->Option Bool)(a:Int):=if Z<|a<t0.zvv.length then(idx t0.zvv a).bind λc=>(zfw n t0.box.length c).bind λd=>if !d then O M else b<|zvp a 1 else(zba n t0.cases λq0=>zfH n q0 t0).bind λe=>O<|!e
def zar n t0:=(zbj n t0.box []).bind λa=>grd (!a||(zck n t0.box).isSome)<|grd (!a||(zck n t0.box).getD J||(zeg n t0 t0.rows 1024).isSome)<|if !a||(zck n t0.box).getD J||!(zeg n t0 t0.rows 1024).getD J||64<(t0.zvv.length:Int)||1024<(t0.cases.length:Int)then O M else zvt (zar.l1 n t0) n 0
def zf.l4 n(t0:Model)(t1:Question)i b j c o t u w x y(z:List zvP×Int->Option (System×Int))(s:List zvP×Int):=if Z<|s.2<t0.constraints.length then jn (λv=>let r:=v;z (r,zvp s.2 1)) λd=>(idx t0.constraints s.2).bind λa=>if a.kind !=1 then d s.1 else(zH n a λq0=>za7 n q0).bind λA=>(app 40 s.1 [A]).bind λq=>jn (λv=>let l:=v;grd (! t1.e !=t1.f||(zD n b a).isSome)<|if t1.e !=t1.f&&0<(((zD n b a).getD J).length:Int)then(zH n a λq0=>zai n q0 b).bind λE=>(app 40 l [E]).bind λF=>d F else d l) λp=>(zD n i a).bind λB=>if Z<|0<(B.length:Int)then(zH n a λq0=>zR n q0 i).bind λC=>(app 40 q [C]).bind λD=>p D else p q else jn (λv=>let k:=v.1;let m:=v.2;(zar n ⟨j,k,s.1,m⟩).bind λH=>if !H then O (⟨[],[],[],[]⟩,8)else O (⟨j,k,s.1,m⟩,0)) λg=>if o==1 then(zm n j ⟨o,t,⟨u,w⟩,x,y⟩ i b).bind λh=>if(h.length:Int)==0 then(app 32 c [⟨[],-1⟩]).bind λG=>g (G,h)else g (c,h)else g (c,[])
def zf.l3 n t0 t1 c d z e(o:List Row×Int->Option (System×Int))(s:List Row×Int):=if Z<|s.2<e.length then(idx e s.2).bind λr=>(zV n r (λq0=>zbw n q0) λq0=>zbw n q0).bind λt=>(app 32 s.1 [t]).bind λu=>o (u,zvp s.2 1)else jn (λv=>let g:=v.1;let h:=v.2.1;let i:=v.2.2.1;let j:=v.2.2.2.1;let k:=v.2.2.2.2.1;let l:=v.2.2.2.2.2.1;let m:=v.2.2.2.2.2.2;zvt (zf.l4 n t0 t1 c d z g h i j k l m) n ([],0)) λb=>if t1.target.hold then(idx c.effect.hold t1.target.index).bind λf=>(zJ n d f).bind λw=>(zV n f (λq0=>za1 n q0) λq0=>zav n q0 w).bind λA=>(app 32 s.1 [A]).bind λq=>b (q,0,0,[],0,0,0)else(idx t0.constraints t1.target.index).bind λa=>if a.kind==0 then(zJ n c a.row).bind λx=>(zJ n d a.row).bind λy=>(zV n a.row (λq0=>za1 n q0) λq0=>zav n q0<|zvp x y).bind λB=>(app 32 s.1 [B]).bind λp=>b (p,a.kind,a.family,a.row.zvr,a.row.bound,a.first,a.size)else b (s.1,a.kind,a.family,a.row.zvr,a.row.bound,a.first,a.size)
def zf.l2 n t0 t1 t2 b c u(o:List Row×Int->Option (System×Int))(s:List Row×Int):=if Z<|s.2<t0.constraints.length then jn (λv=>let l:=v;o (l,zvp s.2 1)) λh=>(idx t0.constraints s.2).bind λa=>if a.kind !=0 then h s.1 else(zJ n b a.row).bind λd=>(zJ n c a.row).bind λg=>jn (λv=>let t:=v;(zV n a.row (λq0=>zbw n q0) λq0=>zeC n q0 t).bind λp=>(app 32 s.1 [p]).bind λq=>h q) λi=>(zaR n t2 s.2).bind λw=>if w&&(t1.target.hold||t1.target.index !=s.2)then i<|gmax (gmax (gmax 0 d) g)<|zvp d g else i<|gmax (gmax 0 d) g else(app 32 [] b.effect.hold).bind λk=>jn (λv=>let m:=v;zvt (zf.l3 n t0 t1 b c u m) n (s.1,0)) λj=>if t1.e !=t1.f then(app 32 k c.effect.hold).bind λr=>j r else j k
def zf.l1 n t0 t1 t2(c:Int->Option (System×Int))(b:Int):=if Z<|b<t2.length then(idx t2 b).bind λa=>grd (a<0||t0.constraints.length<=a||(idx t0.constraints a).isSome)<|if a<0||t0.constraints.length<=a||((idx t0.constraints a).getD J).kind !=0 then O (⟨[],[],[],[]⟩,2)else c<|zvp b 1 else(idx t0.zvq t1.e).bind λd=>(idx t0.zvq t1.f).bind λg=>(zfm n t0).bind λh=>zvt (zf.l2 n t0 t1 t2 d g h) n ([],0)
def zf n t0 t1 t2:=(zdp n t0 t1).bind λa=>if !a then O (⟨[],[],[],[]⟩,1)else zvt (zf.l1 n t0 t1 t2) n 0
def zcd (n:Nat)(t0:Term)t1:=O<|t0.cell==t1
def zG.l1 (n:Nat)t0(t1:Term->Option Bool)(b:Int->Option Int)s:=let a:=s;if Z<|a<t0.length then(idx t0 a).bind λc=>(t1 c).bind λd=>if d then O a else b<|zvp a 1 else O<|-1
def zG n t0 t1:=zvt (zG.l1 n t0 t1) n 0
def zby.l1 (n:Nat)(t0:Row)(t1:List Range)t2 t3(d:Int×Int->Option Int)(s:Int×Int):=if Z<|s.2<t0.zvr.length then jn (λv=>let e:=v;d (e,zvp s.2 1)) λb=>(idx t0.zvr s.2).bind λa=>(idx t1 a.cell).bind λc=>if a.cell==t2 then b s.1 else if Z<|0<zvA a.zvy t3 then b<|zvp s.1<|zvA a.zvy c.lo else b<|zvp s.1<|zvA a.zvy c.hi else O s.1
def zby n t0 t1 t2 t3:=zvt (zby.l1 n t0 t1 t2 t3) n (0,0)
def zcL (n:Nat)t0 t1:=(zwx t0 t1).bind λb=>jn (λv=>let d:=v;O d) λa=>(zwy t0 t1).bind λc=>if c !=0&&(t0<0)!=(t1<0)then a<|zvz b 1 else a b
def zdr n t0 t1 t2:=(idx t1 t2).bind λa=>(zG n t0.zvr λq0=>zcd n q0 t2).bind λf=>if Z<|f<0 then O a else(idx t0.zvr f).bind λb=>(zby n t0 t1 t2 1).bind λg=>jn (λv=>let c:=v.1;let d:=v.2;(zdm n ⟨c,d⟩).bind λj=>if j then O ⟨1,0⟩else O ⟨c,d⟩) λe=>if Z<|0<b.zvy then(zcL n (zvz t0.bound g) b.zvy).bind λh=>e (a.lo,gmin a.hi h)else(zcL n (zvz t0.bound g)<|zwb b.zvy).bind λi=>e (gmax a.lo<|zwb i,a.hi)
def zcJ n t0 t1(t2:Int):=(zbj n t1 [t0]).bind λa=>if !a||t2<0||t1.length<=t2 then O ⟨0,0⟩else(zdr n t0 t1 t2).bind λb=>O b
def zO.l2 n t0(i:List Bool×List (List Int)×Nat->Option (List Int))l m(j:List Bool×List (List Int)×Nat×Int->Option (List Int))(s:List Bool×List (List Int)×Nat×Int):=let b:=s.2.2.1;let a:=s.2.2.2;if Z<|a<t0.size then jn (λv=>let e:=v.1;let g:=v.2.1;let h:=v.2.2;j (e,g,h,zvp a 1)) λc=>(za2 n t0 m a).bind λd=>grd (!d||(idx s.1 a).isSome)<|if d&&!(idx s.1 a).getD J then(idx s.1 a).bind λr=>(sto s.1 a U).bind λf=>(app 8 [] l).bind λo=>(app 8 o [a]).bind λp=>(app 24 s.2.1 [p]).bind λq=>c (f,q,b+1)else c (s.1,s.2.1,b)else(cut s.2.1 1 s.2.1.length).bind λk=>i (s.1,k,b+1)
def zO.l1 n t0 t2 c(s:List Bool×List (List Int)×Nat):=if Z<|0<(s.2.1.length:Int)then(idx s.2.1 0).bind λa=>(idx a<|zvz a.length 1).bind λb=>if b==t2 then O a else zvt (zO.l2 n t0 c a b) n (s.1,s.2.1,s.2.2,0)else O []
def zO n t0 t1 t2:=(mkl 1 t0.size M).bind λa=>(idx a t1).bind λc=>(sto a t1 U).bind λb=>zvt (zO.l1 n t0 t2) n (b,[[t1]],0)
def zep n t0 t1 t2 t3:=(zca n t0 t1).bind λa=>if !a.2||t2<0||t0<=t2||t3<0||t0<=t3 then O []else(zO n a.1 t2 t3).bind λb=>O b
def zbA.l1 n(t0:zvP)(t1:List Range)t2(b:List Bool×Int->Option Bool)(s:List Bool×Int):=if Z<|s.2<t0.least.length then(idx t0.least s.2).bind λc=>(idx t1<|zvp t0.first s.2).bind λd=>(idx s.1 s.2).bind λh=>(sto s.1 s.2<|c<=d.lo).bind λa=>b (a,zvp s.2 1)else(zwy t2 t0.size).bind λe=>(zwx t2 t0.size).bind λf=>(zep n t0.size s.1 e f).bind λg=>O<|0<(g.length:Int)
def zbA n t0 t1 t2:=(mkl 1 t0.least.length M).bind λa=>zvt (zbA.l1 n t0 t1 t2) n (a,0)
def zg.l2 (n:Nat)t0(a:List Row×Int->Option (List Row))(s:List Row×Int):=if Z<|s.2<t0.length then(idx t0 s.2).bind λb=>(app 32 s.1 b).bind λc=>a (c,zvp s.2 1)else O s.1
def zg.l1 n t0(b:Int×Int->Option (List Row))(s:Int×Int):=if Z<|s.2<t0.length then(idx t0 s.2).bind λa=>if Z<|zvp s.1 a.length<0 then Y else b (zvp s.1 a.length,zvp s.2 1)else grd (0<=s.1/\s.1.toNat*32<=140737488355328)<|zvt (zg.l2 n t0) n ([],0)
def zg n t0:=zvt (zg.l1 n t0) n (0,0)
def zbG (n:Nat)(t0:Range):Option Bool:=O<|t0.lo<t0.hi
def zcZ n t0:=(zaS n [t0]).bind λb=>if !b then O 0 else(zcL n (zvp t0.lo t0.hi) 2).bind λa=>O a
def zb.l14 (n:Nat)(self:zwa->List Range->Int->Option (Option<|Found×zwa))(t1:List Range)t2 c q e b(k l:Range)(r:List Tree×List Range×List Row×List zvP×List (List Row)×List Row×Int×Int×Int->Option (Option<|Found×zwa))(s:List Tree×List Range×List Row×List zvP×List (List Row)×List Row×Int×Int×Int):=let f:=s.2.2.2.2.1;let g:=s.2.2.2.2.2.1;let h:=s.2.2.2.2.2.2.1;let i:=s.2.2.2.2.2.2.2.1;let d:=s.2.2.2.2.2.2.2.2;if Z<|d<[⟨k.lo,b⟩,(⟨zvp b 1,l.hi⟩:Range)].length then(idx [⟨k.lo,b⟩,⟨zvp b 1,l.hi⟩] d).bind λt=>(app 16 [] c).bind λm=>(idx m e).bind λx=>(sto m e t).bind λp=>grd (c.length=t1.length)<|(self ⟨⟨s.2.1,s.2.2.1,s.2.2.2.1,f⟩,g,h,i⟩ p t2).bind λu=>pnk u λa=>(app 72 s.1 [⟨0,[],0,0,[]⟩]).bind λj=>(idx j s.1.length).bind λw=>(sto j s.1.length a.1.tree).bind λo=>if !a.1.values.isEmpty then grd (c.length=t1.length)<|O<|O (a.1,a.2)else r (o,a.2.s.box,a.2.s.rows,a.2.s.zvv,a.2.s.cases,a.2.rows,a.2.zvQ,a.2.cost,zvp d 1)else grd (c.length=t1.length)<|O<|O (⟨[],0,⟨1,q,e,b,s.1⟩⟩,⟨⟨s.2.1,s.2.2.1,s.2.2.2.1,f⟩,g,h,i⟩)
def zb.l13 (n:Nat)(t0:zwa)(t1:List Range)t2(a:List Range)c(d:List Int×Int->Option (Option<|Found×zwa))(s:List Int×Int):=if Z<|s.2<a.length then(idx a s.2).bind λe=>(idx s.1 s.2).bind λf=>(sto s.1 s.2 e.lo).bind λb=>d (b,zvp s.2 1)else grd (!s.1.isEmpty)<|grd (a.length=t1.length)<|O<|O (⟨s.1,gmax t2 0,⟨0,[],0,0,[]⟩⟩,⟨t0.s,t0.rows,t0.zvQ,c⟩)
def zb.l12 n(self:zwa->List Range->Int->Option (Option<|Found×zwa))(t0:zwa)(t1:List Range)b j(k:List Tree×List Range×List Row×List zvP×List (List Row)×List Row×Int×Int×Int->Option (Option<|Found×zwa))(s:List Tree×List Range×List Row×List zvP×List (List Row)×List Row×Int×Int×Int):=let d:=s.2.2.1;let e:=s.2.2.2.2.1;let f:=s.2.2.2.2.2.2.1;let g:=s.2.2.2.2.2.2.2.1;let c:=s.2.2.2.2.2.2.2.2;if Z<|c<t0.s.cases.length then(idx t0.s.cases c).bind λl=>(zg n [d,l]).bind λm=>(app 16 [] b).bind λo=>grd (b.length=t1.length)<|(self ⟨⟨s.2.1,d,s.2.2.2.1,e⟩,m,f,g⟩ o c).bind λp=>pnk p λa=>(app 72 s.1 [⟨0,[],0,0,[]⟩]).bind λh=>(idx h s.1.length).bind λq=>(sto h s.1.length a.1.tree).bind λi=>if !a.1.values.isEmpty then grd (b.length=t1.length)<|O<|O (a.1,a.2)else k (i,a.2.s.box,a.2.s.rows,a.2.s.zvv,a.2.s.cases,a.2.rows,a.2.zvQ,a.2.cost,zvp c 1)else grd (b.length=t1.length)<|O<|O (⟨[],0,⟨2,j,0,0,s.1⟩⟩,⟨⟨s.2.1,d,s.2.2.2.1,e⟩,s.2.2.2.2.2.1,f,g⟩)
def zb.l11 n(t0:zwa)(t1 m:List Range)(u:List Range×List Step×Int->Option (Option<|Found×zwa))k(r:List Range×List Step×Int×Bool×Int->Option (Option<|Found×zwa))c(t:List Range×List Step×Int×Bool×Int->Option (Option<|Found×zwa))(s:List Range×List Step×Int×Bool×Int):=let a:=s.1;let d:=s.2.2.1;let h:=s.2.2.2.1;let b:=s.2.2.2.2;if Z<|b<c.least.length then jn (λv=>let l:=v.1;let o:=v.2.1;let p:=v.2.2.1;let q:=v.2.2.2;t (l,o,p,q,zvp b 1)) λi=>(idx c.least b).bind λf=>(idx a<|zvp c.first b).bind λg=>grd (g.hi<f||(zbA n c a b).isSome)<|if g.hi<f||!(zbA n c a b).getD J then i (a,s.2.1,d,h)else(idx a<|zvp c.first b).bind λw=>if Z<|⟨g.lo,zvz f 1⟩=w then i (a,s.2.1,d,h)else if d==t0.zvQ then grd (a.length=t1.length)<|O Y else(idx a<|zvp c.first b).bind λx=>(sto a (zvp c.first b) ⟨g.lo,zvz f 1⟩).bind λe=>(app 24 s.2.1 [⟨1,k,zvp c.first b⟩]).bind λj=>if Z<|zvz f 1<g.lo then grd (m.length=e.length)<|if U||!true then grd (t1.length=e.length)<|grd (e.length=t1.length)<|O<|O (⟨[],0,⟨0,j,0,0,[]⟩⟩,⟨t0.s,t0.rows,t0.zvQ,zvp d 1⟩)else u (e,j,zvp d 1)else i (e,j,zvp d 1,U)else r (a,s.2.1,d,h,zvp k 1)
def zb.l10 n self t0 t1 t2 e f g(s:List Range×List Step×Int×Bool×Int):=let a:=s.1;let b:=s.2.2.1;let d:=s.2.2.2.2;if Z<|d<t0.s.zvv.length then(idx t0.s.zvv d).bind λl=>zvt (zb.l11 n t0 t1 e f d g l) n (a,s.2.1,b,s.2.2.2.1,0)else grd (e.length=a.length)<|if M||!s.2.2.2.1 then grd (t1.length=a.length)<|if 0<(t0.s.cases.length:Int)&&t2<0 then zvt (zb.l12 n self t0 t1 a s.2.1) n ([],t0.s.box,t0.s.rows,t0.s.zvv,t0.s.cases,t0.rows,t0.zvQ,b,0)else(zi n a λq0=>zbG n q0).bind λc=>if Z<|c<0 then(mkl 8 a.length 0).bind λm=>zvt (zb.l13 n t0 t1 t2 a b) n (m,0)else(idx a c).bind λh=>(zcZ n h).bind λi=>(idx a c).bind λj=>(idx a c).bind λk=>zvt (zb.l14 n self t1 t2 a s.2.1 c i j k) n ([],t0.s.box,t0.s.rows,t0.s.zvv,t0.s.cases,t0.rows,t0.zvQ,b,0)else f (a,s.2.1,b)
def zb.l9 n(t0:zwa)(t1 j:List Range)(p:List Range×List Step×Int->Option (Option<|Found×zwa))i(q:List Range×List Step×Int×Bool×Int->Option (Option<|Found×zwa))e(r:List Range×List Step×Int×Bool×Int->Option (Option<|Found×zwa))(s:List Range×List Step×Int×Bool×Int):=let a:=s.2.2.1;let g:=s.2.2.2.2;if Z<|g<e.zvr.length then jn (λv=>let k:=v.1;let l:=v.2.1;let m:=v.2.2.1;let o:=v.2.2.2;r (k,l,m,o,zvp g 1)) λh=>(idx e.zvr g).bind λc=>(zcJ n e s.1 c.cell).bind λd=>(idx s.1 c.cell).bind λt=>if Z<|d=t then h (s.1,s.2.1,a,s.2.2.2.1)else if a==t0.zvQ then grd (s.1.length=t1.length)<|O Y else(idx s.1 c.cell).bind λu=>(sto s.1 c.cell d).bind λb=>(app 24 s.2.1 [⟨0,i,c.cell⟩]).bind λf=>if Z<|d.hi<d.lo then grd (j.length=b.length)<|if U||!true then grd (t1.length=b.length)<|grd (b.length=t1.length)<|O<|O (⟨[],0,⟨0,f,0,0,[]⟩⟩,⟨t0.s,t0.rows,t0.zvQ,zvp a 1⟩)else p (b,f,zvp a 1)else h (b,f,zvp a 1,U)else q (s.1,s.2.1,a,s.2.2.2.1,zvp i 1)
def zb.l8 n self t0 t1 t2 c d g(s:List Range×List Step×Int×Bool×Int):=let a:=s.2.2.1;let b:=s.2.2.2.2;if Z<|b<t0.rows.length then(idx t0.rows b).bind λe=>if(e.zvr.length:Int)==0&&e.bound<0 then if a==t0.zvQ then grd (s.1.length=t1.length)<|O Y else(app 24 s.2.1 [⟨0,b,-1⟩]).bind λf=>grd (c.length=s.1.length)<|if U||!true then grd (t1.length=s.1.length)<|grd (s.1.length=t1.length)<|O<|O (⟨[],0,⟨0,f,0,0,[]⟩⟩,⟨t0.s,t0.rows,t0.zvQ,zvp a 1⟩)else d (s.1,f,zvp a 1)else zvt (zb.l9 n t0 t1 c d b g e) n (s.1,s.2.1,a,s.2.2.2.1,0)else zvt (zb.l10 n self t0 t1 t2 c d) n (s.1,s.2.1,a,s.2.2.2.1,0)
def zb.l7 n self t0 t1 t2 a(s:List Range×List Step×Int):=zvt (zb.l8 n self t0 t1 t2 s.1 a) n (s.1,s.2.1,s.2.2,M,0)
def zb.body n self t0 t1 t2:=if t0.cost==t0.zvQ then grd (t1.length=t1.length)<|O Y else zvt (zb.l7 n self t0 t1 t2) n (t1,[],zvp t0.cost 1)
def zb:Nat->zwa->List Range->Int->Option (Option<|Found×zwa)|0,_,_,_=>Y|n+1,t0,t1,t2=>zb.body n (zb n) t0 t1 t2
def zgk (n:Nat)(t0:System)(t1:Int):Option<|Answer×Int:=(zar n t0).bind λb=>if !b then O (⟨0,0,[],⟨0,[],0,0,[]⟩,0⟩,1)else if t1<0||65536<t1 then O (⟨0,0,[],⟨0,[],0,0,[]⟩,0⟩,2)else(app 16 [] t0.box).bind λc=>(zb n ⟨t0,t0.rows,t1,0⟩ c<|-1).bind λd=>ppk d (O (⟨2,0,[],⟨0,[],0,0,[]⟩,t1⟩,0)) λa=>if !a.1.values.isEmpty then O (⟨0,a.1.index,a.1.values,⟨0,[],0,0,[]⟩,a.2.cost⟩,0)else O (⟨1,0,[],a.1.tree,a.2.cost⟩,0)
def ziv (n:Nat)(t0:Answer):Option zv5:=O ⟨0,t0.values,⟨0,[],0,0,[]⟩,0⟩
def ziw (n:Nat)(t0:Answer):Option zv5:=O ⟨1,[],t0.tree,0⟩
def zix (n:Nat):Option zv5:=O ⟨2,[],⟨0,[],0,0,[]⟩,0⟩
def zbn (n:Nat)(t0:Model)(t1:Question)(t2:Int)(t3:List Int):Option<|zv5×Int:=(zf n t0 t1 t3).bind λb=>if b.2==1||b.2==2 then O (⟨0,[],⟨0,[],0,0,[]⟩,0⟩,b.2)else if t2<0||65536<t2 then O (⟨0,[],⟨0,[],0,0,[]⟩,0⟩,2)else if b.2 !=0 then O (⟨2,[],⟨0,[],0,0,[]⟩,0⟩,0)else(zgk n b.1 t2).bind λa=>if a.2 !=0 then O (⟨0,[],⟨0,[],0,0,[]⟩,0⟩,a.2)else if a.1.kind==0 then(ziv n a.1).bind λc=>O (⟨c.kind,c.state,c.tree,a.1.steps⟩,0)else if a.1.kind==1 then(ziw n a.1).bind λe=>O (⟨e.kind,e.state,e.tree,a.1.steps⟩,0)else if a.1.kind==2 then(zix n).bind λd=>O (⟨d.kind,d.state,d.tree,a.1.steps⟩,0)else Y
def zaA.l1 (n:Nat)t0(t1:List Int)(b:Int->Option Bool)(a:Int):=if Z<|a<t0.length then(idx t0 a).bind λc=>(idx t1 a).bind λd=>if c !=d then O M else b<|zvp a 1 else O U
def zaA n t0 t1:=if t0.length !=(t1.length:Int)then O M else zvt (zaA.l1 n t0 t1) n 0
def zd1 (n:Nat)t0:=O<|t0<(-4000000)||4000000<t0
def zeO n t0 t1:=(zar n t0).bind λa=>grd (!(a&&t1.length==(t0.box.length:Int))||(zt n t1 λq0=>zd1 n q0).isSome)<|O<|a&&t1.length==(t0.box.length:Int)&&!(zt n t1 λq0=>zd1 n q0).getD J
def zaG.l1 (n:Nat)(t0:List Range)t1(d:Int->Option Bool)(a:Int):=if Z<|a<t0.length then(idx t0 a).bind λb=>(idx t1 a).bind λc=>grd (c<b.lo||(idx t1 a).isSome)<|if c<b.lo||b.hi<(idx t1 a).getD J then O M else d<|zvp a 1 else O U
def zaG n t0 t1:=if t0.length !=(t1.length:Int)then O M else zvt (zaG.l1 n t0 t1) n 0
def zch.l1 (n:Nat)(t0:Row)t1(b:Int×Int->Option Int)(s:Int×Int):=if Z<|s.2<t0.zvr.length then(idx t0.zvr s.2).bind λa=>(idx t1 a.cell).bind λc=>b (zvp s.1<|zvA a.zvy c,zvp s.2 1)else O s.1
def zch n t0 t1:=zvt (zch.l1 n t0 t1) n (0,0)
def zez (n:Nat)(t0:Row)(t1:List Int):Option Bool:=(zch n t0 t1).bind λa=>O<|a<=t0.bound
def zaZ.l1 (n:Nat)(c:List Int)(b:List Int×Int->Option (List Int))(s:List Int×Int):=if Z<|s.2<c.length then(idx s.1 s.2).bind λd=>(sto s.1 s.2 s.2).bind λa=>b (a,zvp s.2 1)else O s.1
def zaZ n t0:=(mkl 8 t0 0).bind λa=>zvt (zaZ.l1 n a) n (a,0)
def zbH (n:Nat)t0 t1 t2(t3:zvP)t4:=(idx t1 t0).bind λa=>grd (! !a||(idx t2<|zvp (zvp t3.first<|zvA t0 t3.size) t4).isSome)<|grd (! !a||(idx t3.least<|zvp (zvA t0 t3.size) t4).isSome)<|O<|!a&&(idx t3.least<|zvp (zvA t0 t3.size) t4).getD J<=(idx t2<|zvp (zvp t3.first<|zvA t0 t3.size) t4).getD J
def zdv n t0 t1 t2 t3:=(idx t1 t0).bind λa=>grd (! !a||(zaZ n t2.size).isSome)<|grd (! !a||(zt n ((zaZ n t2.size).getD J) λq0=>zbH n q0 t1 t3 t2 t0).isSome)<|O<|!a&&!(zt n ((zaZ n t2.size).getD J) λq0=>zbH n q0 t1 t3 t2 t0).getD J
def zbk.l1 n t0 t1(c:List Bool×Int->Option Bool)(s:List Bool×Int):=if Z<|s.2<t0.size then(zaZ n t0.size).bind λd=>(zQ n d λq0=>zdv n q0 s.1 t0 t1).bind λa=>if Z<|a<0 then O M else(idx s.1 a).bind λe=>(sto s.1 a U).bind λb=>c (b,zvp s.2 1)else O U
def zbk n t0 t1:=(mkl 1 t0.size M).bind λa=>zvt (zbk.l1 n t0 t1) n (a,0)
def zaC.l2 n(t0:System)t1 b(d:List Int×Int->Option (List Int×List Int))(s:List Int×Int):=if Z<|s.2<t0.zvv.length then jn (λv=>let c:=v;d (c,zvp s.2 1)) λa=>(idx t0.zvv s.2).bind λe=>(zbk n e t1).bind λf=>if !f then(app 8 s.1 [s.2]).bind λg=>a g else a s.1 else O (b,s.1)
def zaC.l1 n t0 t1(c:List Int×Int->Option (List Int×List Int))(s:List Int×Int):=if Z<|s.2<t0.rows.length then jn (λv=>let b:=v;c (b,zvp s.2 1)) λa=>(idx t0.rows s.2).bind λd=>(zez n d t1).bind λe=>if !e then(app 8 s.1 [s.2]).bind λf=>a f else a s.1 else zvt (zaC.l2 n t0 t1 s.1) n ([],0)
def zaC n t0 t1:=zvt (zaC.l1 n t0 t1) n ([],0)
def zcs n t0 t1:=(zez n t0 t1).bind λa=>O<|!a
def zaP.l1 n(t0:System)t1(b:Int->Option (Int×Bool))(a:Int):=if Z<|a<t0.cases.length then(idx t0.cases a).bind λc=>(zo n c λq0=>zcs n q0 t1).bind λd=>if !d then O (a,U)else b<|zvp a 1 else O (0,M)
def zaP n t0 t1:=zvt (zaP.l1 n t0 t1) n 0
def zeP n t0 t1:=(zaC n t0 t1).bind λa=>if Z<|0<zvp a.1.length a.2.length then O M else(zaP n t0 t1).bind λb=>O<|b.2||(t0.cases.length:Int)==0
def zfv n t0 t1:=(zeO n t0 t1).bind λa=>grd (!a||(zaG n t0.box t1).isSome)<|if !a||!(zaG n t0.box t1).getD J then O M else(zeP n t0 t1).bind λb=>O b
def zN.l1 (n:Nat)t0(t1:List Step)(b:Int->Option Bool)(a:Int):=if Z<|a<t0.length then(idx t0 a).bind λc=>(idx t1 a).bind λd=>if ! c=d then O M else b<|zvp a 1 else O U
def zN n t0 t1:=if t0.length !=(t1.length:Int)then O M else zvt (zN.l1 n t0 t1) n 0
def zl.l1 (n:Nat)t0 t1(t2:Tree->Tree->Option Bool)(b:Int->Option Bool)(a:Int):=if Z<|a<t0.length then(idx t0 a).bind λc=>(idx t1 a).bind λd=>(t2 c d).bind λe=>if !e then O M else b<|zvp a 1 else O U
def zl n t0 t1 t2:=if t0.length !=(t1.length:Int)then O M else zvt (zl.l1 n t0 t1 t2) n 0
def zaq.body n(self:Tree->Tree->Option Bool)(t0 t1:Tree):=grd (!(t0.kind==t1.kind&&t0.cell==t1.cell&&t0.at_==t1.at_)||(zN n t0.steps t1.steps).isSome)<|grd (!(t0.kind==t1.kind&&t0.cell==t1.cell&&t0.at_==t1.at_&&(zN n t0.steps t1.steps).getD J)||(zl n t0.kids t1.kids λq0 q1=>self q0 q1).isSome)<|O<|t0.kind==t1.kind&&t0.cell==t1.cell&&t0.at_==t1.at_&&(zN n t0.steps t1.steps).getD J&&(zl n t0.kids t1.kids λq0 q1=>self q0 q1).getD J
def zaq:Nat->Tree->Tree->Option Bool|0,_,_=>Y|n+1,t0,t1=>zaq.body n (zaq n) t0 t1
def zb3.l1 (n:Nat)(t0:Tree)(d:Int->Option Bool)(b:Int):=if Z<|b<t0.steps.length then(idx t0.steps b).bind λa=>jn (λv=>let e:=v;if a.kind !=0&&a.kind !=1||a.index<0||2048<a.index||a.cell<e||128<=a.cell then O M else d<|zvp b 1) λc=>if a.kind==1 then c 0 else c<|-1 else if t0.kind==0 then O<|(t0.kids.length:Int)==0&&t0.cell==0&&t0.at_==0 else if t0.kind==1 then O<|(t0.kids.length:Int)==2&&0<=t0.cell&&t0.cell<128&&-1000000<=t0.at_&&t0.at_<=1000000 else if t0.kind==2 then O<|1<=(t0.kids.length:Int)&&(t0.kids.length:Int)<=1024&&t0.cell==0&&t0.at_==0 else O M
def zb3 n t0:=zvt (zb3.l1 n t0) n 0
def zax.l1 (n:Nat)(v:Int->Tree->Int->Option (Bool×Int))level kids(rec:Int×Int->Option (Bool×Int))(s:Int×Int):=if Z<|s.2<kids.length then(idx kids s.2).bind λx=>(v (zvp level 1) x s.1).bind λr=>if r.1=U then rec (r.2,zvp s.2 1)else O (M,r.2)else O (U,s.1)
def zax (n:Nat):Nat->Int->Tree->Int->Option (Bool×Int)|0,_,_,_=>Y|k+1,level,t,cost=>if(4096<level||65536<zvp cost (zvp 1 t.steps.length))=U then O (M,zvp cost<|zvp 1 t.steps.length)else(zb3 n t).bind λb=>if(!b)=U then O (M,zvp cost<|zvp 1 t.steps.length)else zvt (zax.l1 n (zax n k) level t.kids) n (zvp cost<|zvp 1 t.steps.length,0)
def zb8 n t0:=(zax n n 1 t0 0).map (·.1)
def zbS.l1 n(t0:zvV)(t1:zvP)t2(b:List Bool×Int->Option Bool)(s:List Bool×Int):=if Z<|s.2<t1.least.length then(idx t1.least s.2).bind λc=>(idx t0.box<|zvp t1.first s.2).bind λd=>(idx s.1 s.2).bind λh=>(sto s.1 s.2<|c<=d.lo).bind λa=>b (a,zvp s.2 1)else(zwy t2 t1.size).bind λe=>(zwx t2 t1.size).bind λf=>(zep n t1.size s.1 e f).bind λg=>O<|0<(g.length:Int)
def zbS n t0 t1 t2:=(mkl 1 t1.least.length M).bind λa=>zvt (zbS.l1 n t0 t1 t2) n (a,0)
def zgc (n:Nat)(t0 t1:Range):Option Range:=O ⟨gmax t0.lo t1.lo,gmin t0.hi t1.hi⟩
def zB.l2 n(self:zvV->Tree->Option Bool)(t0:zvV)(t1:Tree)b(c:Int->Option Bool)(a:Int):=if Z<|a<t1.kids.length then(idx t1.kids a).bind λd=>(idx t0.s.cases a).bind λe=>(zg n [t0.rows,e]).bind λf=>(self ⟨t0.s,f,b,U⟩ d).bind λg=>if !g then O M else c<|zvp a 1 else O U
def zB.l1 n self t0(t1:Tree)(r:List Range×Int->Option Bool)(s:List Range×Int):=let b:=s.1;if Z<|s.2<t1.steps.length then jn (λv=>let o:=v;r (o,zvp s.2 1)) λd=>(idx t1.steps s.2).bind λa=>if a.kind==1 then if Z<|t0.s.zvv.length<=a.index then if !false then O M else d b else(idx t0.s.zvv a.index).bind λc=>if zvz a.cell c.first<0||c.least.length<=zvz a.cell c.first then if !false then O M else d b else jn (λv=>let g:=v;(idx g a.cell).bind λB=>(idx g a.cell).bind λD=>if Z<|D.hi<B.lo then O U else if !true then O M else d g) λk=>(zbS n ⟨t0.s,t0.rows,b,t0.zvJ⟩ c<|zvz a.cell c.first).bind λx=>if x then(idx b a.cell).bind λy=>(idx c.least<|zvz a.cell c.first).bind λz=>(idx b a.cell).bind λA=>(sto b a.cell ⟨A.lo,gmin y.hi<|zvz z 1⟩).bind λp=>k p else k b else if t0.rows.length<=a.index||b.length<=a.cell then if !false then O M else d b else(idx t0.rows a.index).bind λe=>if Z<|a.cell<0 then if(e.zvr.length:Int)==0&&e.bound<0 then O U else if !((e.zvr.length:Int)==0&&e.bound<0)then O M else d b else(zcJ n e b a.cell).bind λt=>(idx b a.cell).bind λG=>(sto b a.cell t).bind λh=>(idx h a.cell).bind λu=>(idx h a.cell).bind λw=>if Z<|w.hi<u.lo then O U else if !true then O M else d h else if t1.kind==1 then if Z<|b.length<=t1.cell then O M else(idx b t1.cell).bind λf=>(app 16 [] b).bind λl=>(app 16 [] b).bind λm=>(zgc n f ⟨f.lo,t1.at_⟩).bind λC=>(idx l t1.cell).bind λH=>(sto l t1.cell C).bind λq=>(zgc n f ⟨zvp t1.at_ 1,f.hi⟩).bind λE=>(idx m t1.cell).bind λI=>(sto m t1.cell E).bind λj=>(idx t1.kids 0).bind λF=>(self ⟨t0.s,t0.rows,q,t0.zvJ⟩ F).bind λi=>grd (!i||(idx t1.kids 1).isSome)<|grd (!i||(self ⟨t0.s,t0.rows,j,t0.zvJ⟩<|(idx t1.kids 1).getD J).isSome)<|O<|i&&(self ⟨t0.s,t0.rows,j,t0.zvJ⟩<|(idx t1.kids 1).getD J).getD J else if t1.kind==2 then if t0.zvJ||t1.kids.length !=(t0.s.cases.length:Int)then O M else zvt (zB.l2 n self t0 t1 b) n 0 else O M
def zB.body n self t0 t1:=(zck n t0.box).bind λa=>if a then O U else(app 16 [] t0.box).bind λb=>zvt (zB.l1 n self t0 t1) n (b,0)
def zB:Nat->zvV->Tree->Option Bool|0,_,_=>Y|n+1,t0,t1=>zB.body n (zB n) t0 t1
def zgs n t0 t1:=(zar n t0).bind λa=>grd (!a||(zb8 n t1).isSome)<|grd (!(a&&(zb8 n t1).getD J)||(zB n ⟨t0,t0.rows,t0.box,M⟩ t1).isSome)<|O<|a&&(zb8 n t1).getD J&&(zB n ⟨t0,t0.rows,t0.box,M⟩ t1).getD J
def zaz n t0 t1(t2:zv5)t3:=(zf n t0 t1 t3).bind λa=>if a.2 !=0||t2.steps<0||65536<t2.steps then O M else if t2.kind==0 then(zfv n a.1 t2.state).bind λb=>grd (!b||(zaq n t2.tree ⟨0,[],0,0,[]⟩).isSome)<|O<|b&&(zaq n t2.tree ⟨0,[],0,0,[]⟩).getD J else if t2.kind==1 then(zgs n a.1 t2.tree).bind λc=>O<|c&&(t2.state.length:Int)==0 else O M
def zhN n:=(zik n).bind λc=>(zbn n c ⟨0,0,⟨M,1⟩⟩ 100 []).bind λa=>(zbn n c ⟨0,0,⟨M,0⟩⟩ 100 []).bind λb=>(zbn n c ⟨0,0,⟨M,1⟩⟩ 0 []).bind λd=>grd (!(a.2==0&&a.1.kind==0)||(zaA n a.1.state [0]).isSome)<|grd (!(a.2==0&&a.1.kind==0&&(zaA n a.1.state [0]).getD J&&b.2==0&&b.1.kind==1)||(zaz n c ⟨0,0,⟨M,1⟩⟩ a.1 []).isSome)<|grd (!(a.2==0&&a.1.kind==0&&(zaA n a.1.state [0]).getD J&&b.2==0&&b.1.kind==1&&(zaz n c ⟨0,0,⟨M,1⟩⟩ a.1 []).getD J)||(zaz n c ⟨0,0,⟨M,0⟩⟩ b.1 []).isSome)<|grd (!(a.2==0&&a.1.kind==0&&(zaA n a.1.state [0]).getD J&&b.2==0&&b.1.kind==1&&(zaz n c ⟨0,0,⟨M,1⟩⟩ a.1 []).getD J&&(zaz n c ⟨0,0,⟨M,0⟩⟩ b.1 []).getD J)||(zaz n c ⟨0,0,⟨M,1⟩⟩ b.1 []).isSome)<|O<|a.2==0&&a.1.kind==0&&(zaA n a.1.state [0]).getD J&&b.2==0&&b.1.kind==1&&(zaz n c ⟨0,0,⟨M,1⟩⟩ a.1 []).getD J&&(zaz n c ⟨0,0,⟨M,0⟩⟩ b.1 []).getD J&&!(zaz n c ⟨0,0,⟨M,1⟩⟩ b.1 []).getD J&&d.2==0&&d.1.kind==2
def zdo.l1 (n:Nat)(t0:List Int)(t1:List Table)(c:Int->Option Bool)(a:Int):=if Z<|a<t1.length then(idx t1 a).bind λb=>grd (40<(b.name.length:Int)||(idx t1 a).isSome)<|if 40<(b.name.length:Int)||12<((((idx t1 a).getD J).zvo).length:Int)then O M else c<|zvp a 1 else O<|(t0.length:Int)<=12&&(t1.length:Int)<=20
def zdo n t0 t1:=zvt (zdo.l1 n t0 t1) n 0
def zw.l5 (n:Nat)f(c:Int->Option Bool)(b:Action)(d:Int->Option Bool)(a:Int):=if Z<|a<b.effect.hold.length then(idx b.effect.hold a).bind λe=>if Z<|20<(e.zvr.length:Int)then O M else d<|zvp a 1 else c<|zvp f 1
def zw.l4 n(t0:Model)c(b:Int):=if Z<|b<t0.zvq.length then(idx t0.zvq b).bind λa=>(idx t0.zvq b).bind λd=>if 6<(d.arguments.length:Int)||20<(a.effect.delta.length:Int)||10<(a.effect.hold.length:Int)||40<(a.effect.zvw.length:Int)then O M else zvt (zw.l5 n b c a) n 0 else O U
def zw.l3 n t0(c:Int->Option Bool)(a:Int):=if Z<|a<t0.zvs.length then(idx t0.zvs a).bind λb=>grd (40<(b.name.length:Int)||(idx t0.zvs a).isSome)<|if 40<(b.name.length:Int)||6<((((idx t0.zvs a).getD J).zvu).length:Int)then O M else c<|zvp a 1 else zvt (zw.l4 n t0) n 0
def zw.l2 n t0(b:Int->Option Bool)(a:Int):=if Z<|a<t0.constraints.length then(idx t0.constraints a).bind λc=>if Z<|20<(c.row.zvr.length:Int)then O M else b<|zvp a 1 else zvt (zw.l3 n t0) n 0
def zw.l1 n t0(b:Int->Option Bool)(a:Int):=if Z<|a<t0.zvC.length then(idx t0.zvC a).bind λc=>if Z<|40<(c.length:Int)then O M else b<|zvp a 1 else zvt (zw.l2 n t0) n 0
def zw n t0:=grd (8<(t0.zvu.length:Int)||6<(t0.tables.length:Int)||20<(t0.zvC.length:Int)||60<(t0.constraints.length:Int)||8<(t0.zvs.length:Int)||30<(t0.zvq.length:Int)||12<(t0.zvD.length:Int)||(zdo n t0.zvu t0.tables).isSome)<|if 8<(t0.zvu.length:Int)||6<(t0.tables.length:Int)||20<(t0.zvC.length:Int)||60<(t0.constraints.length:Int)||8<(t0.zvs.length:Int)||30<(t0.zvq.length:Int)||12<(t0.zvD.length:Int)||!(zdo n t0.zvu t0.tables).getD J then O M else zvt (zw.l1 n t0) n 0
def zbL.l1 (n:Nat)(t0:List Int)(c:Int->Option Bool)(a:Int):=if Z<|a<t0.length then(idx t0 a).bind λb=>grd (b<1||(idx t0 a).isSome)<|if b<1||6<(idx t0 a).getD J then O M else c<|zvp a 1 else O U
def zbL n t0:=zvt (zbL.l1 n t0) n 0
def zat.l1 (n:Nat)t0 t1(b:Int×Int->Option Int)(s:Int×Int):=if Z<|s.2<t1.length then(idx t1 s.2).bind λa=>grd (a<0||(idx t1 s.2).isSome)<|if a<0||t0.length<=(idx t1 s.2).getD J then O 0 else(idx t1 s.2).bind λc=>(idx t0 c).bind λd=>b (zvA s.1 d,zvp s.2 1)else O s.1
def zat n t0 t1:=grd (3<(t1.length:Int)||(zbL n t0).isSome)<|if 3<(t1.length:Int)||!(zbL n t0).getD J then O 0 else zvt (zat.l1 n t0 t1) n (1,0)
def zbo (n:Nat)(t0:Int):=O<|t0==9||t0==10||t0==13||t0==32
def zbt.l2 (n:Nat)t0(b c:Int->Option Int)s:=let a:=s;grd (! a<t0.length||(sidx t0 a).isSome)<|if a<t0.length&&(sidx t0 a).getD J !=10 then c<|zvp a 1 else b a
def zbt.l1 n t0 b s:=let a:=s;grd (! a<t0.length||(sidx t0 a).isSome)<|grd (! a<t0.length||(zbo n<|(sidx t0 a).getD J).isSome)<|grd (! a<t0.length||((zbo n<|(sidx t0 a).getD J).getD J||(sidx t0 a).isSome))<|if a<t0.length&&((zbo n<|(sidx t0 a).getD J).getD J||(sidx t0 a).getD J==35)then(sidx t0 a).bind λc=>if c==35 then zvt (zbt.l2 n t0 b) n a else b<|zvp a 1 else O a
def zbt n t0 t1:=zvt (zbt.l1 n t0) n t1
def zbh (n:Nat)(t0:Int):=O<|97<=t0&&t0<=122
def zb0 (n:Nat)(t0:Int):=O<|48<=t0&&t0<=57
def zfC (n:Nat):Option<|List<|List UInt8:=O [[115,111,114,116],[114,101,108,97,116,105,111,110],[99,111,117,110,116,101,114],[115,101,116],[114,101,103,105,115,116,101,114],[105,110,118,97,114,105,97,110,116],[111,112,101,114,97,116,105,111,110],[107,101,121],[114,101,102,101,114,101,110,99,101],[116,111],[99,111,117,110,116],[97,99,121,99,108,105,99],[97,108,108],[115,117,109],[105,110],[97,100,100,119,105,110,115],[114,101,109,111,118,101,119,105,110,115],[108,97,115,116],[109,117,108,116,105],[104,105,100,101],[111,114,100,101,114,101,100],[114,101,113,117,105,114,101],[104,111,108,100],[105,110,115,101,114,116],[100,101,108,101,116,101],[97,100,100],[102,114,111,109],[112,117,116],[100,114,111,112],[97,115,115,105,103,110],[102,111,114],[119,104,101,114,101],[97,110,100],[111,114],[110,111,116]]
def zc5.l1 (n:Nat)t0(t1:List UInt8)(b:Int->Option Bool)(a:Int):=if Z<|a<t0.length then(idx t0 a).bind λc=>if Z<|c=t1 then O U else b<|zvp a 1 else O M
def zc5 n t0 t1:=zvt (zc5.l1 n t0 t1) n 0
def zgh (n:Nat):Option<|List<|List UInt8:=O [[61,61],[33,61],[60,61],[62,61],[46,46],[60],[62],[61],[43],[45],[42],[40],[41],[123],[125],[44],[58],[59]]
def zbC.l1 (n:Nat)(t0:List UInt8)(t1:Int)(c:List<|List UInt8)(d:Int->Option Int)(b:Int):Option Int:=if Z<|b<c.length then(idx c b).bind λa=>grd (! zvp t1 a.length<=t0.length||(cut t0 t1<|zvp t1 a.length).isSome)<|grd (! zvp t1 a.length<=t0.length||(idx c b).isSome)<|if zvp t1 a.length<=t0.length&&(cut t0 t1<|zvp t1 a.length).getD J=(idx c b).getD J then O a.length else d<|zvp b 1 else O 0
def zbC n t0 t1:=(zgh n).bind λa=>zvt (zbC.l1 n t0 t1 a) n 0
def zaE.l3 n t0(b:Int->Option (Int×Int))s:=let a:=s;grd (! a<t0.length||(sidx t0 a).isSome)<|grd (! a<t0.length||(zbo n<|(sidx t0 a).getD J).isSome)<|grd (!(a<t0.length&&!(zbo n<|(sidx t0 a).getD J).getD J)||(sidx t0 a).isSome)<|grd (!(a<t0.length&&!(zbo n<|(sidx t0 a).getD J).getD J&&(sidx t0 a).getD J !=35)||(sidx t0 a).isSome)<|grd (!(a<t0.length&&!(zbo n<|(sidx t0 a).getD J).getD J&&(sidx t0 a).getD J !=35)||(zbh n<|(sidx t0 a).getD J).isSome)<|grd (!(a<t0.length&&!(zbo n<|(sidx t0 a).getD J).getD J&&(sidx t0 a).getD J !=35&&!(zbh n<|(sidx t0 a).getD J).getD J)||(sidx t0 a).isSome)<|grd (!(a<t0.length&&!(zbo n<|(sidx t0 a).getD J).getD J&&(sidx t0 a).getD J !=35&&!(zbh n<|(sidx t0 a).getD J).getD J)||(zb0 n<|(sidx t0 a).getD J).isSome)<|grd (!(a<t0.length&&!(zbo n<|(sidx t0 a).getD J).getD J&&(sidx t0 a).getD J !=35&&!(zbh n<|(sidx t0 a).getD J).getD J&&!(zb0 n<|(sidx t0 a).getD J).getD J)||(zbC n t0 a).isSome)<|if a<t0.length&&!(zbo n<|(sidx t0 a).getD J).getD J&&(sidx t0 a).getD J !=35&&!(zbh n<|(sidx t0 a).getD J).getD J&&!(zb0 n<|(sidx t0 a).getD J).getD J&&(zbC n t0 a).getD J==0 then b<|zvp a 1 else O (5,a)
def zaE.l2 n t0(b:Int->Option (Int×Int))s:=let a:=s;grd (! a<t0.length||(sidx t0 a).isSome)<|grd (! a<t0.length||(zb0 n<|(sidx t0 a).getD J).isSome)<|if a<t0.length&&(zb0 n<|(sidx t0 a).getD J).getD J then b<|zvp a 1 else O (3,a)
def zaE.l1 n t0 t1(b:Int->Option (Int×Int))s:=let a:=s;grd (! a<t0.length||(sidx t0 a).isSome)<|grd (! a<t0.length||(zbh n<|(sidx t0 a).getD J).isSome)<|grd (! a<t0.length||((zbh n<|(sidx t0 a).getD J).getD J||(sidx t0 a).isSome))<|grd (! a<t0.length||((zbh n<|(sidx t0 a).getD J).getD J||(zb0 n<|(sidx t0 a).getD J).isSome))<|grd (! a<t0.length||((zbh n<|(sidx t0 a).getD J).getD J||(zb0 n<|(sidx t0 a).getD J).getD J||(sidx t0 a).isSome))<|if a<t0.length&&((zbh n<|(sidx t0 a).getD J).getD J||(zb0 n<|(sidx t0 a).getD J).getD J||(sidx t0 a).getD J==95)then b<|zvp a 1 else(zfC n).bind λc=>(cut t0 t1 a).bind λd=>(zc5 n c d).bind λe=>if e then O (2,a)else O (1,a)
def zaE n t0 t1:=(sidx t0 t1).bind λb=>(zbh n b).bind λc=>if c then zvt (zaE.l1 n t0 t1) n t1 else(sidx t0 t1).bind λd=>(zb0 n d).bind λe=>if e then zvt (zaE.l2 n t0) n t1 else(zbC n t0 t1).bind λa=>if Z<|0<a then O (4,zvp t1 a)else zvt (zaE.l3 n t0) n t1
def zdb.l1 n t0(c:List Token×Int->Option (List Token×Int))(s:List Token×Int):=(zbt n t0 s.2).bind λd=>if Z<|d<t0.length then(zbt n t0 s.2).bind λb=>(zaE n t0 b).bind λa=>(app 32 s.1 [⟨a.1,s.2,b,a.2⟩]).bind λe=>c (e,a.2)else(app 32 s.1 [⟨0,s.2,t0.length,t0.length⟩]).bind λf=>O (f,0)
def zdb n t0:=if Z<|4096<(t0.length:Int)then O ([],8)else zvt (zdb.l1 n t0) n ([],0)
def zhg n t0:=(zdb n t0).bind λa=>grd (a.2 !=0||(a.1.length:Int)!=2||(idx a.1 0).isSome)<|grd (a.2 !=0||(a.1.length:Int)!=2||((idx a.1 0).getD J).at_ !=0||(idx a.1 0).isSome)<|if a.2 !=0||(a.1.length:Int)!=2||((idx a.1 0).getD J).at_ !=0||((idx a.1 0).getD J).end_ !=t0.length then O 0 else(idx a.1 0).bind λb=>O b.kind
def zfX n t0:=(zhg n t0).bind λa=>O<|a==1&&(t0.length:Int)<=16
def zcf (n:Nat)(t0:Int):=O<|t0==0||t0==1
def zaK.l2 (n:Nat)(t0:List Int)(t1:List Table)(c:Int)(d:Int)(k:Int)(f:Int×Int->Option Bool)(a:Table)(g:Int->Option Bool)(e:Int):=if Z<|e<k then(idx t1 e).bind λi=>if Z<|i.name=a.name then O M else g<|zvp e 1 else(zat n t0 a.zvo).bind λb=>(zfX n a.name).bind λj=>if !j||a.kind<0||5<a.kind||b==0 then O M else if a.range.hi<a.range.lo||a.range.lo<(-9999)||9999<a.range.hi then O M else if(a.kind==0||a.kind==2||a.kind==3)&&(a.range.lo !=0||a.range.hi !=1)then O M else(zcf n a.kind).bind λh=>if h then if a.first !=c then O M else f (zvp c b,d)else if a.first !=d then O M else f (c,zvp d b)
def zaK.l1 n t0 t1(b:Int×Int×Int->Option Bool)(s:Int×Int×Int):=if Z<|s.2.2<t1.length then jn (λv=>let d:=v.1;let e:=v.2;b (d,e,zvp s.2.2 1)) λa=>(idx t1 s.2.2).bind λc=>zvt (zaK.l2 n t0 t1 s.1 s.2.1 s.2.2 a c) n 0 else O<|s.1<=128&&s.2.1<=64
def zaK n t0 t1:=grd (4<(t0.length:Int)||(zbL n t0).isSome)<|if 4<(t0.length:Int)||!(zbL n t0).getD J||12<(t1.length:Int)then O M else zvt (zaK.l1 n t0 t1) n (0,0,0)
def zaU.l2 n t0(t1:List Table)t2 a(c d:List Range×Int->Option (List Range))(s:List Range×Int):=(idx t1 a).bind λe=>(zcf n e.kind).bind λb=>grd (! b==t2||(idx t1 a).isSome)<|grd (! b==t2||(zat n t0 ((idx t1 a).getD J).zvo).isSome)<|if b==t2&&s.2<(zat n t0 ((idx t1 a).getD J).zvo).getD J then(idx t1 a).bind λf=>(app 16 s.1 [f.range]).bind λg=>d (g,zvp s.2 1)else c (s.1,zvp a 1)
def zaU.l1 n t0 t1 t2 a(s:List Range×Int):=if Z<|s.2<t1.length then zvt (zaU.l2 n t0 t1 t2 s.2 a) n (s.1,0)else O s.1
def zaU n t0 t1 t2:=(zaK n t0 t1).bind λa=>if !a then O []else zvt (zaU.l1 n t0 t1 t2) n ([],0)
def zcC n(t0:Model):=(zaU n t0.zvu t0.tables U).bind λa=>O a
def zb1.l2 (n:Nat)(a:List Range)(d:Int×Int->Option Bool)(s:Int×Int):=if Z<|s.2<a.length then(idx a s.2).bind λb=>(idx a s.2).bind λc=>if Z<|4096<zvA s.1 (zvp (zvz b.hi c.lo) 1)then O M else d (zvA s.1<|zvp (zvz b.hi c.lo) 1,zvp s.2 1)else O U
def zb1.l1 n t0(c:Int->Option Bool)(a:Int):=if Z<|a<t0.zvq.length then(idx t0.zvq a).bind λd=>if Z<|4<(d.effect.hold.length:Int)then O M else c<|zvp a 1 else(zcC n t0).bind λb=>if Z<|12<(b.length:Int)then O M else zvt (zb1.l2 n b) n (1,0)
def zb1 n t0:=(zw n t0).bind λa=>if !a||12<(t0.zvq.length:Int)||40<(t0.constraints.length:Int)then O M else zvt (zb1.l1 n t0) n 0
def zaY.l1 n t0(c:Int->Option Bool)(a:Int):=if Z<|a<t0.length then(idx t0 a).bind λd=>(zfX n d).bind λb=>grd (!b||(cut t0 0 a).isSome)<|grd (!b||(idx t0 a).isSome)<|grd (!b||(zc5 n ((cut t0 0 a).getD J)<|(idx t0 a).getD J).isSome)<|if !b||(zc5 n ((cut t0 0 a).getD J)<|(idx t0 a).getD J).getD J then O M else c<|zvp a 1 else O U
def zaY n t0:=zvt (zaY.l1 n t0) n 0
def zbc.l1 (n:Nat)t0(t1:List Term)(b:Int->Option Bool)(a:Int):=if Z<|a<t0.length then(idx t0 a).bind λc=>(idx t1 a).bind λd=>if ! c=d then O M else b<|zvp a 1 else O U
def zbc n t0 t1:=if t0.length !=(t1.length:Int)then O M else zvt (zbc.l1 n t0 t1) n 0
def zdc n(t0 t1:Row):=grd (! t0.bound==t1.bound||(zbc n t0.zvr t1.zvr).isSome)<|O<|t0.bound==t1.bound&&(zbc n t0.zvr t1.zvr).getD J
def zaO (n:Nat)t0 t1:=O<|zwb t1<=t0&&t0<=t1
def zcK.l1 (n:Nat)(t0:Row)(t1:Int)(c:Int->Option Bool)(b:Int):=if Z<|b<t0.zvr.length then(idx t0.zvr b).bind λa=>grd (a.cell<0||t1<=a.cell||(! 0<b||(idx t0.zvr<|zvz b 1).isSome))<|grd (a.cell<0||t1<=a.cell||0<b&&a.cell<=((idx t0.zvr<|zvz b 1).getD J).cell||a.zvy==0||(zaO n a.zvy 1000).isSome)<|if a.cell<0||t1<=a.cell||0<b&&a.cell<=((idx t0.zvr<|zvz b 1).getD J).cell||a.zvy==0||!(zaO n a.zvy 1000).getD J then O M else c<|zvp b 1 else(zaO n t0.bound 1000000000).bind λd=>O d
def zcK n t0 t1:=zvt (zcK.l1 n t0 t1) n 0
def zcn.l1 (n:Nat)(t0:Model)(t1:Constraint)(c:Int->Option Bool)(b:Int):=if Z<|b<t0.tables.length then(idx t0.tables b).bind λa=>grd (!(a.kind==0&&(a.zvo.length:Int)==2)||(idx a.zvo 0).isSome)<|grd (!(a.kind==0&&(a.zvo.length:Int)==2)||(idx a.zvo 1).isSome)<|grd (!(a.kind==0&&(a.zvo.length:Int)==2&&(idx a.zvo 0).getD J==(idx a.zvo 1).getD J&&a.first==t1.first)||(idx a.zvo 0).isSome)<|grd (!(a.kind==0&&(a.zvo.length:Int)==2&&(idx a.zvo 0).getD J==(idx a.zvo 1).getD J&&a.first==t1.first)||(idx t0.zvu<|(idx a.zvo 0).getD J).isSome)<|if a.kind==0&&(a.zvo.length:Int)==2&&(idx a.zvo 0).getD J==(idx a.zvo 1).getD J&&a.first==t1.first&&(idx t0.zvu<|(idx a.zvo 0).getD J).getD J==t1.size then O U else c<|zvp b 1 else O M
def zcn n t0 t1:=if 0<(t1.row.zvr.length:Int)||t1.row.bound !=0 then O M else zvt (zcn.l1 n t0 t1) n 0
def zX.l2 n(t0:Model)(b:List Range)(d:Int->Option Bool)(c:Int):=if Z<|c<t0.constraints.length then(idx t0.constraints c).bind λa=>if a.family<0||t0.zvC.length<=a.family then O M else grd (!(a.kind==0&&a.first==0&&a.size==0)||(zcK n a.row b.length).isSome)<|grd (! !(a.kind==0&&a.first==0&&a.size==0&&(zcK n a.row b.length).getD J)||(!(zvA 2 b.length<=c&&a.kind==1)||(zcn n t0 a).isSome))<|if !(a.kind==0&&a.first==0&&a.size==0&&(zcK n a.row b.length).getD J)&&!(zvA 2 b.length<=c&&a.kind==1&&(zcn n t0 a).getD J)then O M else d<|zvp c 1 else O U
def zX.l1 n t0 b(e:Int->Option Bool)s:=let a:=s;if Z<|a<b.length then(idx b a).bind λf=>(idx b a).bind λd=>(idx t0.constraints<|zvA 2 a).bind λg=>(zdc n g.row ⟨[⟨a,-1⟩],zwb f.lo⟩).bind λc=>grd (!c||(idx t0.constraints<|zvp (zvA 2 a) 1).isSome)<|grd (!c||(zdc n ((idx t0.constraints<|zvp (zvA 2 a) 1).getD J).row ⟨[⟨a,1⟩],d.hi⟩).isSome)<|if !c||!(zdc n ((idx t0.constraints<|zvp (zvA 2 a) 1).getD J).row ⟨[⟨a,1⟩],d.hi⟩).getD J then O M else e<|zvp a 1 else zvt (zX.l2 n t0 b) n 0
def zX n t0:=(zcC n t0).bind λa=>if t0.constraints.length<zvA 2 a.length||512<(t0.constraints.length:Int)then O M else zvt (zX.l1 n t0 a) n 0
def zcM.l1 (n:Nat)(t0 t1:List Int)(b:Int->Option Bool)(a:Int):Option Bool:=if a<t0.length&&a<t1.length then(idx t0 a).bind λc=>(idx t1 a).bind λd=>if c !=d then(idx t0 a).bind λe=>(idx t1 a).bind λf=>O<|e<f else b<|zvp a 1 else O<|t0.length<(t1.length:Int)
def zcM n t0 t1:=zvt (zcM.l1 n t0 t1) n 0
def zdU.l1 (n:Nat)t0 t1(c:List Int×Int×Int->Option (List Int))(s:List Int×Int×Int):=let a:=s.2.2;if Z<|0<=a then(idx t1 a).bind λd=>(idx t0 d).bind λe=>(zwy s.2.1 e).bind λf=>(idx s.1 a).bind λj=>(sto s.1 a f).bind λb=>(idx t1 a).bind λg=>(idx t0 g).bind λh=>(zwx s.2.1 h).bind λi=>c (b,i,zvz a 1)else O s.1
def zdU n t0 t1 t2:=(mkl 8 t1.length 0).bind λa=>zvt (zdU.l1 n t0 t1) n (a,t2,zvz t1.length 1)
def zcH.l1 n t0(t1:List Table)t2 t3(d:Int->Option (Int×List Int×Bool))(a:Int):=if Z<|a<t1.length then(idx t1 a).bind λb=>(idx t1 a).bind λe=>(zcf n e.kind).bind λc=>grd (!(c==t2&&0<=t3&&0<=zvz t3 b.first)||(idx t1 a).isSome)<|grd (!(c==t2&&0<=t3&&0<=zvz t3 b.first)||(zat n t0 ((idx t1 a).getD J).zvo).isSome)<|if c==t2&&0<=t3&&0<=zvz t3 b.first&&zvz t3 b.first<(zat n t0 ((idx t1 a).getD J).zvo).getD J then(idx t1 a).bind λf=>(zdU n t0 f.zvo<|zvz t3 b.first).bind λg=>O (a,g,U)else d<|zvp a 1 else O (0,[],M)
def zcH n t0 t1 t2 t3:=(zaK n t0 t1).bind λa=>if !a then O (0,[],M)else zvt (zcH.l1 n t0 t1 t2 t3) n 0
def ziB (n:Nat)(t0:Int):=O<|t0==2||t0==3
def zac.l3 n(t0:Model)(t1:zwf)(e:Int->Option Bool)(b:Int):=if Z<|b<t1.zvw.length then(idx t1.zvw b).bind λa=>(zcH n t0.zvu t0.tables M a.cell).bind λd=>grd (!d.2.2||(! 0<b||(idx t1.zvw<|zvz b 1).isSome))<|if !d.2.2||0<b&&a.cell<=((idx t1.zvw<|zvz b 1).getD J).cell then O M else(idx t0.tables d.1).bind λc=>(ziB n c.kind).bind λf=>if f&&(a.kind !=0&&a.kind !=1||a.value !=0)then O M else(ziB n c.kind).bind λg=>if !g&&(a.kind !=2||a.value<c.range.lo||c.range.hi<a.value)then O M else e<|zvp b 1 else O<|(t1.hold.length:Int)<=8&&(t1.zvw.length:Int)<=32
def zac.l2 n t0 t1(c:List Range)(b:Int->Option Bool)(a:Int):=if Z<|a<t1.hold.length then(idx t1.hold a).bind λd=>(zcK n d c.length).bind λe=>if !e then O M else b<|zvp a 1 else zvt (zac.l3 n t0 t1) n 0
def zac.l1 n t0(t1:zwf)c(d:Int->Option Bool)(b:Int):=if Z<|b<t1.delta.length then(idx t1.delta b).bind λa=>grd (a.cell<0||c.length<=a.cell||(! 0<b||(idx t1.delta<|zvz b 1).isSome))<|grd (a.cell<0||c.length<=a.cell||0<b&&a.cell<=((idx t1.delta<|zvz b 1).getD J).cell||a.add==0||(zaO n a.add 1000000000).isSome)<|if a.cell<0||c.length<=a.cell||0<b&&a.cell<=((idx t1.delta<|zvz b 1).getD J).cell||a.add==0||!(zaO n a.add 1000000000).getD J then O M else d<|zvp b 1 else zvt (zac.l2 n t0 t1 c) n 0
def zac n t0 t1:=(zcC n t0).bind λa=>zvt (zac.l1 n t0 t1 a) n 0
def zC.l4 (n:Nat)(t0:Model)(e:Int)(g:Int->Option Bool)(a:Action)(h:Int->Option Bool)(b:Int):=if Z<|b<a.arguments.length then(idx t0.zvs a.operation).bind λi=>(idx i.zvu b).bind λc=>grd (! c<0||(idx a.arguments b).isSome)<|grd (! c<0||(zaO n ((idx a.arguments b).getD J) 9999).isSome)<|grd (c<0&&!(zaO n ((idx a.arguments b).getD J) 9999).getD J||(! 0<=c||(idx a.arguments b).isSome))<|grd (c<0&&!(zaO n ((idx a.arguments b).getD J) 9999).getD J||(! 0<=c||((idx a.arguments b).getD J<0||(idx a.arguments b).isSome)))<|grd (c<0&&!(zaO n ((idx a.arguments b).getD J) 9999).getD J||(! 0<=c||((idx a.arguments b).getD J<0||(idx t0.zvu c).isSome)))<|if c<0&&!(zaO n ((idx a.arguments b).getD J) 9999).getD J||0<=c&&((idx a.arguments b).getD J<0||(idx t0.zvu c).getD J<=(idx a.arguments b).getD J)then O M else h<|zvp b 1 else jn (λv=>(zac n t0 a.effect).bind λj=>if !j then O M else g<|zvp e 1) λf=>if Z<|0<e then(idx t0.zvq<|zvz e 1).bind λd=>grd (a.operation<d.operation||(! d.operation==a.operation||(zcM n d.arguments a.arguments).isSome))<|if a.operation<d.operation||d.operation==a.operation&&!(zcM n d.arguments a.arguments).getD J then O M else f ()else f ()
def zC.l3 n(t0:Model)c(b:Int):=if Z<|b<t0.zvq.length then(idx t0.zvq b).bind λa=>grd (a.operation<0||t0.zvs.length<=a.operation||(idx t0.zvs a.operation).isSome)<|if a.operation<0||t0.zvs.length<=a.operation||a.arguments.length !=((((idx t0.zvs a.operation).getD J).zvu).length:Int)then O M else zvt (zC.l4 n t0 b c a) n 0 else O U
def zC.l2 (n:Nat)(t0:Model)g(d:List (List UInt8)×Int->Option Bool)(a:zvX)f(e:Int->Option Bool)(b:Int):=if Z<|b<a.zvu.length then(idx a.zvu b).bind λc=>grd (c<(-1)||(idx a.zvu b).isSome)<|if c<(-1)||t0.zvu.length<=(idx a.zvu b).getD J then O M else e<|zvp b 1 else if Z<|3<(a.zvu.length:Int)then O M else d (f,zvp g 1)
def zC.l1 n t0 b(s:List (List UInt8)×Int):=if Z<|s.2<t0.zvs.length then(idx t0.zvs s.2).bind λa=>(app 16 s.1 [a.name]).bind λc=>zvt (zC.l2 n t0 s.2 b a c) n 0 else grd (8<(t0.zvs.length:Int)||(zaY n s.1).isSome)<|if 8<(t0.zvs.length:Int)||!(zaY n s.1).getD J||256<(t0.zvq.length:Int)then O M else zvt (zC.l3 n t0) n 0
def zC n t0:=zvt (zC.l1 n t0) n ([],0)
def zaV.l1 (n:Nat)(self:Model->Int->Int->Int->Option Bool)t0 t1 t2 t3(c:Int->Option Bool)s:=let a:=s;if a<t0.zvD.length&&0<t3 then(idx t0.zvD a).bind λb=>grd (! b.table==t1||(idx t0.zvD a).isSome)<|grd (! b.table==t1||(self t0 ((idx t0.zvD a).getD J).to t2<|zvz t3 1).isSome)<|if b.table==t1&&(self t0 ((idx t0.zvD a).getD J).to t2<|zvz t3 1).getD J then O U else c<|zvp a 1 else O M
def zaV.body n self t0 t1 t2 t3:=if t1==t2 then O U else zvt (zaV.l1 n self t0 t1 t2 t3) n 0
def zaV:Nat->Model->Int->Int->Int->Option Bool|0,_,_,_,_=>Y|n+1,t0,t1,t2,t3=>zaV.body n (zaV n) t0 t1 t2 t3
def zaI.l2 n t0(b:Int->Option Bool)(a:Int):=if Z<|a<t0.zvD.length then(idx t0.zvD a).bind λc=>(idx t0.zvD a).bind λd=>(zaV n t0 c.to d.table t0.tables.length).bind λe=>if e then O M else b<|zvp a 1 else O U
def zaI.l1 n(t0:Model)(e:Int->Option Bool)(d:Int):=if Z<|d<t0.zvD.length then(idx t0.zvD d).bind λa=>if a.table<0||t0.tables.length<=a.table||a.to<0||t0.tables.length<=a.to||a.table==a.to then O M else(idx t0.tables a.table).bind λb=>(idx t0.tables a.to).bind λc=>grd (b.kind !=0||c.kind !=0||a.column<0||b.zvo.length<=a.column||(c.zvo.length:Int)!=1||(idx c.zvo 0).isSome)<|grd (b.kind !=0||c.kind !=0||a.column<0||b.zvo.length<=a.column||(c.zvo.length:Int)!=1||(idx b.zvo a.column).isSome)<|if b.kind !=0||c.kind !=0||a.column<0||b.zvo.length<=a.column||(c.zvo.length:Int)!=1||(idx c.zvo 0).getD J !=(idx b.zvo a.column).getD J then O M else e<|zvp d 1 else zvt (zaI.l2 n t0) n 0
def zaI n t0:=if Z<|12<(t0.zvD.length:Int)then O M else zvt (zaI.l1 n t0) n 0
def ze9 n t0:=(zaK n t0.zvu t0.tables).bind λb=>grd (!b||24<(t0.zvC.length:Int)||(zaY n t0.zvC).isSome)<|if !b||24<(t0.zvC.length:Int)||!(zaY n t0.zvC).getD J then O M else(zX n t0).bind λa=>grd (!a||(zC n t0).isSome)<|grd (!(a&&(zC n t0).getD J)||(zaI n t0).isSome)<|O<|a&&(zC n t0).getD J&&(zaI n t0).getD J
def zee n t0(t1:Question):=(ze9 n t0).bind λb=>if !b||t1.e<0||t1.f<0||t0.zvq.length<=t1.e||t0.zvq.length<=t1.f||t1.target.index<0 then O M else if t1.target.hold then(idx t0.zvq t1.e).bind λa=>O<|t1.target.index<a.effect.hold.length else O<|t1.e<=t1.f&&t1.target.index<t0.constraints.length
def zc6 (n:Nat)(t0:Int):=O<|t0==0||t0==1
def zbM.l1 (n:Nat)(t0:Model)(t1:Table)(a:Int×Int->Option Int)(s:Int×Int):=if Z<|s.2<t1.zvo.length then(idx t1.zvo s.2).bind λb=>(idx t0.zvu b).bind λc=>a (zvA s.1 c,zvp s.2 1)else O s.1
def zbM n t0 t1:=zvt (zbM.l1 n t0 t1) n (1,0)
def zcy.l2 n t0 a(b:List Range->Option (List Range))(c:List Range×Int->Option (List Range))(s:List Range×Int):=(idx t0.tables a).bind λd=>(zbM n t0 d).bind λe=>if Z<|s.2<e then(idx t0.tables a).bind λf=>(app 16 s.1 [f.range]).bind λg=>c (g,zvp s.2 1)else b s.1
def zcy.l1 n t0(c:List Range×Int->Option (List Range))(s:List Range×Int):=if Z<|s.2<t0.tables.length then jn (λv=>let b:=v;c (b,zvp s.2 1)) λa=>(idx t0.tables s.2).bind λd=>(zc6 n d.kind).bind λe=>if e then zvt (zcy.l2 n t0 s.2 a) n (s.1,0)else a s.1 else O s.1
def zcy n t0:=zvt (zcy.l1 n t0) n ([],0)
def zbd.l1 (n:Nat)(t0:zwf)t1(b:Int×Int->Option Int)(s:Int×Int):=if Z<|s.2<t0.delta.length then jn (λv=>let e:=v;b (e,zvp s.2 1)) λa=>(idx t0.delta s.2).bind λc=>if c.cell==t1 then(idx t0.delta s.2).bind λd=>a<|zvp s.1 d.add else a s.1 else O s.1
def zbd n t0 t1:=zvt (zbd.l1 n t0 t1) n (0,0)
def zbD.l1 n t0(t1:Row)(a:Int×Int->Option Int)(s:Int×Int):=if Z<|s.2<t1.zvr.length then(idx t1.zvr s.2).bind λb=>(idx t1.zvr s.2).bind λc=>(zbd n t0 c.cell).bind λd=>a (zvp s.1<|zvA b.zvy d,zvp s.2 1)else O s.1
def zbD n t0 t1:=zvt (zbD.l1 n t0 t1) n (0,0)
def ziC.l1 (n:Nat)t0(t1:Int)(b:Int->Option Bool)(a:Int):=if Z<|a<t0.length then(idx t0 a).bind λc=>if c==t1 then O U else b<|zvp a 1 else O M
def ziC n t0 t1:=zvt (ziC.l1 n t0 t1) n 0
def zcO.l1 (n:Nat)(t0:Row)(a:List Term×Int->Option Row)(s:List Term×Int):=if Z<|s.2<t0.zvr.length then(idx t0.zvr s.2).bind λb=>(app 16 s.1 [b]).bind λc=>a (c,zvp s.2 1)else O ⟨s.1,t0.bound⟩
def zcO n t0:=zvt (zcO.l1 n t0) n ([],0)
def zbO.l1 n(t0:Constraint)t1(a:List Int×Int->Option zvP)(s:List Int×Int):=if Z<|s.2<zvA t0.size t0.size then(zbd n t1<|zvp t0.first s.2).bind λb=>(app 8 s.1 [zvz 1 b]).bind λc=>a (c,zvp s.2 1)else O ⟨t0.first,t0.size,s.1⟩
def zbO n t0 t1:=zvt (zbO.l1 n t0 t1) n ([],0)
def zbV.l1 n t0(t1:Constraint)(b:Int->Option Bool)s:=let a:=s;if Z<|a<zvA t1.size t1.size then(zbd n t0<|zvp t1.first a).bind λc=>if Z<|0<c then O U else b<|zvp a 1 else O M
def zbV n t0 t1:=zvt (zbV.l1 n t0 t1) n 0
def zbr.l1 (n:Nat)(t0:Row)t1(a:List Term×Int->Option Row)(s:List Term×Int):=if Z<|s.2<t0.zvr.length then(idx t0.zvr s.2).bind λb=>(idx t0.zvr s.2).bind λc=>(app 16 s.1 [⟨b.cell,zwb c.zvy⟩]).bind λd=>a (d,zvp s.2 1)else O ⟨s.1,t1⟩
def zbr n t0 t1:=zvt (zbr.l1 n t0 t1) n ([],0)
def zhY (n:Nat)t0(t1:List Bool):=O<|1<=t0&&t0<=6&&t1.length==zvA t0 t0
def zdV.l1 (n:Nat)t0(t1:Int)(b:Int->Option Bool)(a:Int):=if Z<|a<t0.length then(idx t0 a).bind λc=>if c==t1 then O U else b<|zvp a 1 else O M
def zdV n t0 t1:=zvt (zdV.l1 n t0 t1) n 0
def zdH.l1 (n:Nat)t0 t1(a:List Int×Int->Option (List Int))(s:List Int×Int):=if Z<|s.2<t0.length then(idx t0 s.2).bind λb=>(app 8 s.1 [b]).bind λc=>a (c,zvp s.2 1)else(app 8 s.1 [t1]).bind λd=>O d
def zdH n t0 t1:=zvt (zdH.l1 n t0 t1) n ([],0)
def zL.l4 n t0 t1 b a(g:List (List Int)×List (List Int)×Int->Option (List<|List Int))l e(h:List (List Int)×Int->Option (List<|List Int))(s:List (List Int)×Int):=if Z<|s.2<t0 then jn (λv=>let f:=v;h (f,zvp s.2 1)) λd=>(idx t1<|zvp (zvA l t0) s.2).bind λc=>grd (!c||(idx b a).isSome)<|grd (!c||(zdV n ((idx b a).getD J) s.2).isSome)<|if c&&!(zdV n ((idx b a).getD J) s.2).getD J then(idx b a).bind λi=>(zdH n i s.2).bind λj=>(app 24 s.1 [j]).bind λk=>d k else d s.1 else g (e,s.1,zvp a 1)
def zL.l3 n t0 t1 b p(g:List (List Int)×List (List Int)×Int->Option (List<|List Int))h(s:List (List Int)×List (List Int)×Int):=let a:=s.2.2;if Z<|a<b.length then(idx b a).bind λi=>(idx i 0).bind λd=>(idx b a).bind λj=>(idx b a).bind λk=>(idx j<|zvz k.length 1).bind λe=>jn (λv=>let f:=v;zvt (zL.l4 n t0 t1 b a h e f) n (s.2.1,zvp d 1)) λc=>(idx t1<|zvp (zvA e t0) d).bind λl=>if l then(idx b a).bind λm=>(app 24 s.1 [m]).bind λo=>c o else c s.1 else g (s.1,s.2.1,zvp p 1)
def zL.l2 n t0 t1 a(s:List (List Int)×List (List Int)×Int):=if Z<|s.2.2<t0 then zvt (zL.l3 n t0 t1 s.2.1 s.2.2 a) n (s.1,[],0)else O s.1
def zL.l1 n t0 t1(a:List (List Int)×Int->Option (List<|List Int))(s:List (List Int)×Int):=if Z<|s.2<t0 then(app 24 s.1 [[s.2]]).bind λb=>a (b,zvp s.2 1)else zvt (zL.l2 n t0 t1) n ([],s.1,0)
def zL n t0 t1:=(zhY n t0 t1).bind λa=>if !a then O []else zvt (zL.l1 n t0 t1) n ([],0)
def zan.l3 n(t1:Constraint)t2 t3 e g c(h:List (List Row)->Option (List<|List Row))(i:List Row×Bool×Bool×Int->Option (List<|List Row))(s:List Row×Bool×Bool×Int):=let f:=s.2.2.1;let d:=s.2.2.2;(idx e c).bind λo=>if Z<|d<o.length then(idx e c).bind λp=>(idx e c).bind λq=>(zwy (zvp d 1) q.length).bind λr=>(idx p r).bind λa=>(idx e c).bind λt=>(idx t d).bind λb=>grd (s.2.1||(zbd n t2<|zvp (zvp t1.first<|zvA b t1.size) a).isSome)<|grd (f||(zbd n t3<|zvp (zvp t1.first<|zvA b t1.size) a).isSome)<|(zbd n t2<|zvp (zvp t1.first<|zvA b t1.size) a).bind λj=>(zbd n t3<|zvp (zvp t1.first<|zvA b t1.size) a).bind λk=>(app 32 s.1 [⟨[⟨zvp (zvp t1.first<|zvA b t1.size) a,-1⟩],zvp (zvp (-1) j) k⟩]).bind λl=>i (l,s.2.1||0<(zbd n t2<|zvp (zvp t1.first<|zvA b t1.size) a).getD J,f||0<(zbd n t3<|zvp (zvp t1.first<|zvA b t1.size) a).getD J,zvp d 1)else if s.2.1&&f then(app 24 g [s.1]).bind λm=>h m else h g
def zan.l2 n t1 t2 t3 a(d:List (List Row)×Int->Option (List<|List Row))(s:List (List Row)×Int):=if Z<|s.2<a.length then jn (λv=>let b:=v;d (b,zvp s.2 1)) λc=>zvt (zan.l3 n t1 t2 t3 a s.1 s.2 c) n ([],M,M,0)else O s.1
def zan.l1 n(t0:List Range)t1 t2 t3(a:List Bool×Int->Option (List<|List Row))(s:List Bool×Int):=if Z<|s.2<zvA t1.size t1.size then(idx t0<|zvp t1.first s.2).bind λb=>(zbd n t2<|zvp t1.first s.2).bind λc=>(zbd n t3<|zvp t1.first s.2).bind λd=>(app 1 s.1 [1<=zvp (zvp b.hi c) d]).bind λe=>a (e,zvp s.2 1)else(zL n t1.size s.1).bind λf=>zvt (zan.l2 n t1 t2 t3 f) n ([],0)
def zan n t0 t1 t2 t3:=zvt (zan.l1 n t0 t1 t2 t3) n ([],0)
def zcg (n:Nat)t0 t1(t2:Int):=O<|t1<=t0&&t0<=t2
def zey.l1 n(t0:Row)t1(b:Int×Int->Option Bool)(s:Int×Int):=if Z<|s.2<t0.zvr.length then(idx t0.zvr s.2).bind λa=>grd (a.cell<=s.1||t1<=a.cell||a.zvy==0||(zcg n a.zvy (-1000) 1000).isSome)<|if a.cell<=s.1||t1<=a.cell||a.zvy==0||!(zcg n a.zvy (-1000) 1000).getD J then O M else b (a.cell,zvp s.2 1)else(zcg n t0.bound (-1000000000) 1000000000).bind λc=>O c
def zey n t0 t1:=zvt (zey.l1 n t0 t1) n (-1,0)
def zaW.l2 n(t0:List Range)t1(b:Int->Option Bool)(a:Int):=if Z<|a<t1.length then(idx t1 a).bind λc=>(zey n c t0.length).bind λd=>if !d then O M else b<|zvp a 1 else O U
def zaW.l1 n t0 t1(c:Int->Option Bool)s:=let a:=s;if Z<|a<t0.length then(idx t0 a).bind λd=>(zcg n d.lo (-1000000) 1000000).bind λb=>grd (!b||(idx t0 a).isSome)<|grd (!b||(zcg n ((idx t0 a).getD J).hi (-1000000) 1000000).isSome)<|if !b||!(zcg n ((idx t0 a).getD J).hi (-1000000) 1000000).getD J then O M else c<|zvp a 1 else zvt (zaW.l2 n t0 t1) n 0
def zaW n t0 t1:=if Z<|128<(t0.length:Int)then O M else zvt (zaW.l1 n t0 t1) n 0
def zcI.l1 (n:Nat)(t0:List Range)(b:Int->Option Bool)(a:Int):=if Z<|a<t0.length then(idx t0 a).bind λc=>(idx t0 a).bind λd=>if Z<|d.hi<c.lo then O U else b<|zvp a 1 else O M
def zcI n t0:=zvt (zcI.l1 n t0) n 0
def zak.l3 (n:Nat)f(d:Int->Option Bool)(b:zvP)(e:Int->Option Bool)(a:Int):=if Z<|a<b.least.length then(idx b.least a).bind λc=>grd (c<(-4000000)||(idx b.least a).isSome)<|if c<(-4000000)||4000000<(idx b.least a).getD J then O M else e<|zvp a 1 else d<|zvp f 1
def zak.l2 n(t0:System)c(b:Int):=if Z<|b<t0.zvv.length then(idx t0.zvv b).bind λa=>if a.size<1||6<a.size||a.first<0||zvz t0.box.length (zvA a.size a.size)<a.first||a.least.length !=zvA a.size a.size then O M else zvt (zak.l3 n b c a) n 0 else O U
def zak.l1 n t0(c:Int->Option Bool)(a:Int):=if Z<|a<t0.cases.length then(idx t0.cases a).bind λb=>grd (64<(b.length:Int)||(idx t0.cases a).isSome)<|grd (64<(b.length:Int)||(zaW n t0.box<|(idx t0.cases a).getD J).isSome)<|if 64<(b.length:Int)||!(zaW n t0.box<|(idx t0.cases a).getD J).getD J then O M else c<|zvp a 1 else zvt (zak.l2 n t0) n 0
def zak n t0:=grd (1024<(t0.rows.length:Int)||64<(t0.zvv.length:Int)||1024<(t0.cases.length:Int)||(zaW n t0.box t0.rows).isSome)<|grd (1024<(t0.rows.length:Int)||64<(t0.zvv.length:Int)||1024<(t0.cases.length:Int)||!(zaW n t0.box t0.rows).getD J||(zcI n t0.box).isSome)<|if 1024<(t0.rows.length:Int)||64<(t0.zvv.length:Int)||1024<(t0.cases.length:Int)||!(zaW n t0.box t0.rows).getD J||(zcI n t0.box).getD J then O M else zvt (zak.l1 n t0) n 0
def zu.l5 n(t0:Model)(t1:Question)(c d:Action)l g(u:List zvP×Int->Option (System×Int))(s:List zvP×Int):=if Z<|s.2<t0.constraints.length then jn (λv=>let t:=v;u (t,zvp s.2 1)) λi=>(idx t0.constraints s.2).bind λa=>if a.kind !=1 then i s.1 else(zbO n a ⟨[],[],[]⟩).bind λw=>(app 40 s.1 [w]).bind λr=>jn (λv=>let o:=v;(zbV n d.effect a).bind λA=>if A&&t1.e !=t1.f then(zbO n a d.effect).bind λB=>(app 40 o [B]).bind λC=>i C else i o) λq=>(zbV n c.effect a).bind λx=>if x then(zbO n a c.effect).bind λy=>(app 40 r [y]).bind λz=>q z else q r else jn (λv=>let m:=v.1;let p:=v.2;(zak n ⟨l,m,s.1,p⟩).bind λL=>if !L then O (⟨[],[],[],[]⟩,8)else O (⟨l,m,s.1,p⟩,0)) λh=>if t1.target.hold then(idx c.effect.hold t1.target.index).bind λj=>(zbD n d.effect j).bind λD=>(zbr n j<|zvz (zvp (zwb j.bound) D) 1).bind λE=>(app 32 g [E]).bind λF=>h (F,[])else(idx t0.constraints t1.target.index).bind λb=>if b.kind==0 then(zbD n c.effect b.row).bind λG=>(zbD n d.effect b.row).bind λH=>(zbr n b.row<|zvz (zvp (zvp (zwb b.row.bound) G) H) 1).bind λI=>(app 32 g [I]).bind λxf=>h (xf,[])else(zan n l b c.effect d.effect).bind λk=>if(k.length:Int)==0 then(app 32 g [⟨[],-1⟩]).bind λK=>h (K,k)else h (g,k)
def zu.l4 n t0 t1 h a i(b:List Row×Int->Option (System×Int))(s:List Row×Int):=if s.2<a.effect.hold.length&&t1.e !=t1.f then(idx a.effect.hold s.2).bind λc=>(zcO n c).bind λd=>(app 32 s.1 [d]).bind λg=>b (g,zvp s.2 1)else zvt (zu.l5 n t0 t1 h a i s.1) n ([],0)
def zu.l3 n t0 t1 a f g(b:List Row×Int->Option (System×Int))(s:List Row×Int):=if Z<|s.2<a.effect.hold.length then(idx a.effect.hold s.2).bind λc=>(zcO n c).bind λd=>(app 32 s.1 [d]).bind λe=>b (e,zvp s.2 1)else zvt (zu.l4 n t0 t1 a f g) n (s.1,0)
def zu.l2 n t0 t1 t2 g h o(j:List Row×Int->Option (System×Int))(s:List Row×Int):=if Z<|s.2<t0.constraints.length then jn (λv=>let i:=v;j (i,zvp s.2 1)) λd=>(idx t0.constraints s.2).bind λa=>if a.kind !=0 then d s.1 else(zbD n g.effect a.row).bind λc=>(zbD n h.effect a.row).bind λb=>jn (λv=>let m:=v;(zcO n a.row).bind λf=>(app 32 s.1 [⟨f.zvr,zvz f.bound m⟩]).bind λl=>d l) λe=>(ziC n t2 s.2).bind λk=>if k&&(t1.target.hold||t1.target.index !=s.2)then e<|gmax (gmax (gmax 0 c) b)<|zvp c b else e<|gmax (gmax 0 c) b else zvt (zu.l3 n t0 t1 g h o) n (s.1,0)
def zu.l1 n t0 t1 t2(c:Int->Option (System×Int))(a:Int):=if Z<|a<t2.length then(idx t2 a).bind λb=>grd (b<0||(idx t2 a).isSome)<|grd (b<0||t0.constraints.length<=(idx t2 a).getD J||(idx t2 a).isSome)<|grd (b<0||t0.constraints.length<=(idx t2 a).getD J||(idx t0.constraints<|(idx t2 a).getD J).isSome)<|if b<0||t0.constraints.length<=(idx t2 a).getD J||((idx t0.constraints<|(idx t2 a).getD J).getD J).kind !=0 then O (⟨[],[],[],[]⟩,2)else c<|zvp a 1 else(idx t0.zvq t1.e).bind λd=>(idx t0.zvq t1.f).bind λg=>(zcy n t0).bind λh=>zvt (zu.l2 n t0 t1 t2 d g h) n ([],0)
def zu n t0 t1 t2:=(zee n t0 t1).bind λa=>if !a then O (⟨[],[],[],[]⟩,1)else zvt (zu.l1 n t0 t1 t2) n 0
def zef (n:Nat)(t0:Int):=O<|0<=t0&&t0<=65536
def zb2.l1 n t0(b:Int×Int->Option Int)(s:Int×Int):=if Z<|s.2<t0.tables.length then jn (λv=>let g:=v;b (g,zvp s.2 1)) λa=>(idx t0.tables s.2).bind λc=>(zc6 n c.kind).bind λd=>if d then(idx t0.tables s.2).bind λe=>(zbM n t0 e).bind λf=>a<|zvp s.1 f else a s.1 else O s.1
def zb2 n t0:=zvt (zb2.l1 n t0) n (0,0)
def zeV.l1 n t0 t1(a:List Int×Int->Option (List Int))(s:List Int×Int):=if Z<|s.2<t0.length then(idx t0 s.2).bind λb=>(zbd n t1 s.2).bind λc=>(app 8 s.1 [zvp b c]).bind λd=>a (d,zvp s.2 1)else O s.1
def zeV n t0 t1:=zvt (zeV.l1 n t0 t1) n ([],0)
def zex.l1 (n:Nat)(t0:Constraint)t1(c:Int->Option Bool)(a:Int):=if Z<|a<t0.row.zvr.length then(idx t0.row.zvr a).bind λb=>grd (b.cell<0||(idx t0.row.zvr a).isSome)<|if b.cell<0||t1<=((idx t0.row.zvr a).getD J).cell then O M else c<|zvp a 1 else O<|t0.kind==0
def zex n t0 t1:=if t0.kind==1 then O<|1<=t0.size&&t0.size<=6&&0<=t0.first&&t0.first<=zvz t1 (zvA t0.size t0.size)else zvt (zex.l1 n t0 t1) n 0
def zfY (n:Nat)(t0:Constraint)(t1:List Int)(t2 t3:Int):Option Bool:=(idx t1<|zvp (zvp t0.first<|zvA t2 t0.size) t3).bind λa=>O<|1<=a
def zew.l1 (n:Nat)t0(t1:Int)(b:Int->Option Bool)(a:Int):=if Z<|a<t0.length then(idx t0 a).bind λc=>if c==t1 then O U else b<|zvp a 1 else O M
def zew n t0 t1:=zvt (zew.l1 n t0 t1) n 0
def zbp.l1 n(self:Constraint->List Int->List Int->Int->Option (List<|List Int))t0 t1 t2 t3 b(e:List (List Int)×Int->Option (List<|List Int))(s:List (List Int)×Int):=if Z<|s.2<t0.size then jn (λv=>let d:=v;e (d,zvp s.2 1)) λa=>(zew n t2 s.2).bind λc=>grd (c||(zfY n t0 t1 b s.2).isSome)<|if c||!(zfY n t0 t1 b s.2).getD J then a s.1 else(app 8 [] t2).bind λf=>(app 8 f [s.2]).bind λg=>(self t0 t1 g t3).bind λh=>(app 24 s.1 h).bind λi=>a i else O s.1
def zbp.body n self t0 t1 t2(t3:Int):=(idx t2<|zvz t2.length 1).bind λa=>if t2.length==t3 then(idx t2 0).bind λb=>(zfY n t0 t1 a b).bind λc=>if c then O [t2]else O []else(idx t2 0).bind λd=>zvt (zbp.l1 n self t0 t1 t2 t3 a) n ([],zvp d 1)
def zbp:Nat->Constraint->List Int->List Int->Int->Option (List<|List Int)|0,_,_,_,_=>Y|n+1,t0,t1,t2,t3=>zbp.body n (zbp n) t0 t1 t2 t3
def ze8.l2 n t0 t1 c(d e:Int->Option (List Int))(a:Int):=if Z<|a<t0.size then(zbp n t0 t1 [a] c).bind λb=>if Z<|0<(b.length:Int)then(idx b 0).bind λf=>O f else e<|zvp a 1 else d<|zvp c 1
def ze8.l1 n(t0:Constraint)t1 b s:=let a:=s;if Z<|a<=t0.size then zvt (ze8.l2 n t0 t1 a b) n 0 else O []
def ze8 n t0 t1:=grd (t0.kind !=1||(zex n t0 t1.length).isSome)<|if t0.kind !=1||!(zex n t0 t1.length).getD J then O []else zvt (ze8.l1 n t0 t1) n 1
def zhX.l1 (n:Nat)(t0:Row)t1(d:Int×Int×Int->Option Bool)(s:Int×Int×Int):=if Z<|s.2.2<t0.zvr.length then(idx t0.zvr s.2.2).bind λa=>(idx t1 a.cell).bind λe=>(zwx e 4294967296).bind λf=>(idx t1 a.cell).bind λg=>(zwy g 4294967296).bind λh=>d (zvp s.1<|zvA a.zvy f,zvp s.2.1<|zvA a.zvy h,zvp s.2.2 1)else(shrO .i64 s.2.1 32).bind λb=>(shrO .i64 t0.bound 32).bind λc=>O<|zvp s.1 b<c||zvp s.1 b==c&&band .i64 s.2.1 4294967295<=band .i64 t0.bound 4294967295
def zhX n t0 t1:=zvt (zhX.l1 n t0 t1) n (0,0,0)
def zoQ n t0 t1:=(zex n t0 t1.length).bind λc=>if !c then O M else if t0.kind==1 then(ze8 n t0 t1).bind λa=>O<|(a.length:Int)==0 else(zhX n t0.row t1).bind λb=>O b
def zdA n t0 t1:=(zoQ n t0 t1).bind λa=>O a
def znT n t0 t1:=(zdA n ⟨0,0,t0,0,0⟩ t1).bind λa=>O a
def zco.l2 n(t1:zwf)t2(b:Int->Option Bool)(a:Int):=if Z<|a<t1.hold.length then(idx t1.hold a).bind λc=>(znT n c t2).bind λd=>if !d then O M else b<|zvp a 1 else O U
def zco.l1 n(t0:Model)t1 t2 c(d:Int->Option Bool)(a:Int):=if Z<|a<t0.constraints.length then(idx t0.constraints a).bind λe=>(zdA n e t2).bind λb=>grd (!b||(idx t0.constraints a).isSome)<|grd (!b||(zdA n ((idx t0.constraints a).getD J) c).isSome)<|if !b||!(zdA n ((idx t0.constraints a).getD J) c).getD J then O M else d<|zvp a 1 else zvt (zco.l2 n t1 t2) n 0
def zco n t0 t1 t2:=(zeV n t2 t1).bind λa=>zvt (zco.l1 n t0 t1 t2 a) n 0
def zgi.l2 n(t0:Model)(t1:Question)t2 t3(i j:Action)b(c:Int->Option Bool)(a:Int):=if Z<|a<t2.length then grd (t1.target.hold||(idx t2 a).isSome)<|grd (!(t1.target.hold||t1.target.index !=(idx t2 a).getD J)||(idx t2 a).isSome)<|grd (!(t1.target.hold||t1.target.index !=(idx t2 a).getD J)||(idx t0.constraints<|(idx t2 a).getD J).isSome)<|grd (!(t1.target.hold||t1.target.index !=(idx t2 a).getD J)||(zdA n ((idx t0.constraints<|(idx t2 a).getD J).getD J) b).isSome)<|if(t1.target.hold||t1.target.index !=(idx t2 a).getD J)&&!(zdA n ((idx t0.constraints<|(idx t2 a).getD J).getD J) b).getD J then O M else c<|zvp a 1 else if t1.target.hold then(idx i.effect.hold t1.target.index).bind λd=>(zeV n t3 j.effect).bind λe=>(znT n d e).bind λf=>O<|!f else(idx t0.constraints t1.target.index).bind λg=>(zdA n g b).bind λh=>O<|!h
def zgi.l1 n t0 t1 t2 t3(h:Int->Option Bool)(a:Int):=if Z<|a<t2.length then(idx t2 a).bind λd=>grd (d<0||(idx t2 a).isSome)<|if d<0||t0.constraints.length<=(idx t2 a).getD J then O M else h<|zvp a 1 else(idx t0.zvq t1.e).bind λc=>(idx t0.zvq t1.f).bind λb=>(zco n t0 c.effect t3).bind λg=>grd (!g||(zco n t0 b.effect t3).isSome)<|if !g||!(zco n t0 b.effect t3).getD J then O M else(zeV n t3 c.effect).bind λi=>(zeV n i b.effect).bind λj=>zvt (zgi.l2 n t0 t1 t2 t3 c b j) n 0
def zgi n t0 t1 t2 t3:=(zb2 n t0).bind λa=>if t3.length !=a then O M else zvt (zgi.l1 n t0 t1 t2 t3) n 0
def zeU n t0(t1:Swap):=(ze9 n t0).bind λc=>grd (!(c&&0<=t1.sort&&t1.sort<t0.zvu.length&&0<=t1.a&&t1.a<t1.b)||(idx t0.zvu t1.sort).isSome)<|O<|c&&0<=t1.sort&&t1.sort<t0.zvu.length&&0<=t1.a&&t1.a<t1.b&&t1.b<(idx t0.zvu t1.sort).getD J
def zde (n:Nat)(t0:Swap)t1:=if t1==t0.a then O t0.b else if t1==t0.b then O t0.a else O t1
def zaQ.l2 n(t0:Model)t1(b:Table)(f:Int×Int×Int×Int->Option Int)(s:Int×Int×Int×Int):=let a:=s.2.2.2;if Z<|0<=a then(idx b.zvo a).bind λh=>(idx t0.zvu h).bind λc=>(zwy s.1 c).bind λe=>jn (λv=>let g:=v;(zwx s.1 c).bind λk=>f (k,zvp s.2.1<|zvA g s.2.2.1,zvA s.2.2.1 c,zvz a 1)) λd=>(idx b.zvo a).bind λi=>if i==t1.sort then(zde n t1 e).bind λj=>d j else d e else O<|zvp b.first s.2.1
def zaQ.l1 n t0 t1 t2 t3(d:Int->Option Int)s:=let b:=s;if Z<|b<t0.tables.length then(idx t0.tables b).bind λa=>(zc6 n a.kind).bind λc=>grd (c !=t3||zvz t2 a.first<0||(zbM n t0 a).isSome)<|if c !=t3||zvz t2 a.first<0||(zbM n t0 a).getD J<=zvz t2 a.first then d<|zvp b 1 else zvt (zaQ.l2 n t0 t1 a) n (zvz t2 a.first,0,1,zvz a.zvo.length 1)else O<|-1
def zaQ n t0 t1 t2 t3:=zvt (zaQ.l1 n t0 t1 t2 t3) n 0
def zbQ.l2 (n:Nat)b q(j:List Term×Int->Option Row)c(f:Term)(i:List Term×Bool×Int->Option Row)(s:List Term×Bool×Int):=let a:=s.2.2;if Z<|a<b.length then jn (λv=>let g:=v.1;let k:=v.2;(idx b a).bind λm=>(app 16 g [m]).bind λo=>i (o,k,zvp a 1)) λd=>grd (! !s.2.1||(idx b a).isSome)<|if !s.2.1&&c<((idx b a).getD J).cell then(app 16 s.1 [⟨c,f.zvy⟩]).bind λl=>d (l,U)else d (s.1,s.2.1)else jn (λv=>let h:=v;j (h,zvp q 1)) λe=>if !s.2.1 then(app 16 s.1 [⟨c,f.zvy⟩]).bind λp=>e p else e s.1
def zbQ.l1 n t0 t1(t2:Row)a(s:List Term×Int):=if Z<|s.2<t2.zvr.length then(idx t2.zvr s.2).bind λb=>(zaQ n t0 t1 b.cell U).bind λc=>(idx t2.zvr s.2).bind λd=>zvt (zbQ.l2 n s.1 s.2 a c d) n ([],M,0)else O ⟨s.1,t2.bound⟩
def zbQ n t0 t1 t2:=zvt (zbQ.l1 n t0 t1 t2) n ([],0)
def zaw.l1 (n:Nat)(t0 t1:Row)(b:Int->Option Bool)(a:Int):=if Z<|a<t0.zvr.length then(idx t0.zvr a).bind λc=>(idx t1.zvr a).bind λd=>if ! c=d then O M else b<|zvp a 1 else O U
def zaw n t0 t1:=if t0.bound !=t1.bound||t0.zvr.length !=(t1.zvr.length:Int)then O M else zvt (zaw.l1 n t0 t1) n 0
def zbq.l1 n t0 t1 t2(b:Int×Int->Option Int)(s:Int×Int):=if Z<|s.2<t1 then jn (λv=>let e:=v;b (e,zvp s.2 1)) λa=>(idx t0 s.2).bind λc=>(zaw n c t2).bind λd=>if d then a<|zvp s.1 1 else a s.1 else O s.1
def zbq n t0 t1 t2:=zvt (zbq.l1 n t0 t1 t2) n (0,0)
def zbz.l1 (n:Nat)t0(t1:zwg)(b:Int×Int->Option Int)(s:Int×Int):=if Z<|s.2<t0.length then jn (λv=>let d:=v;b (d,zvp s.2 1)) λa=>(idx t0 s.2).bind λc=>if Z<|c=t1 then a<|zvp s.1 1 else a s.1 else O s.1
def zbz n t0 t1:=zvt (zbz.l1 n t0 t1) n (0,0)
def zW.l4 n t0 t1(t2 t3:zwf)(c:Int->Option Bool)(a:Int):=if Z<|a<t2.zvw.length then(idx t2.zvw a).bind λb=>(zaQ n t0 t1 b.cell M).bind λd=>(idx t2.zvw a).bind λe=>(zbz n t2.zvw e).bind λf=>(zbz n t3.zvw ⟨b.kind,d,b.value⟩).bind λg=>if f !=g then O M else c<|zvp a 1 else O U
def zW.l3 n t0 t1 t2 t3(b:Int->Option Bool)(a:Int):=if Z<|a<t2.hold.length then(idx t2.hold a).bind λc=>(zbQ n t0 t1 c).bind λd=>(idx t2.hold a).bind λe=>(zbq n t2.hold t2.hold.length e).bind λf=>(zbq n t3.hold t3.hold.length d).bind λg=>if f !=g then O M else b<|zvp a 1 else zvt (zW.l4 n t0 t1 t2 t3) n 0
def zW.l2 n t0 t1(t2 t3:zwf)a(e:Int->Option Bool)(f:Bool×Int->Option Bool)(s:Bool×Int):=if Z<|s.2<t3.delta.length then jn (λv=>let g:=v;f (g,zvp s.2 1)) λd=>(idx t3.delta s.2).bind λb=>(idx t2.delta a).bind λh=>(zaQ n t0 t1 h.cell U).bind λc=>grd (! b.cell==c||(idx t3.delta s.2).isSome)<|grd (! b.cell==c||(idx t2.delta a).isSome)<|if b.cell==c&&((idx t3.delta s.2).getD J).add==((idx t2.delta a).getD J).add then d U else d s.1 else if !s.1 then O M else e<|zvp a 1
def zW.l1 n t0 t1 t2 t3 b(a:Int):=if Z<|a<t2.delta.length then zvt (zW.l2 n t0 t1 t2 t3 a b) n (M,0)else zvt (zW.l3 n t0 t1 t2 t3) n 0
def zW n t0 t1 t2 t3:=if t2.delta.length !=(t3.delta.length:Int)||t2.hold.length !=(t3.hold.length:Int)||t2.zvw.length !=(t3.zvw.length:Int)then O M else zvt (zW.l1 n t0 t1 t2 t3) n 0
def zY.l2 n t0 t1(a:Action)(i:zvX)d(f:Int->Option (Int×Bool))(b:Action)(g:Bool×Int->Option (Int×Bool))(s:Bool×Int):=if s.1&&s.2<a.arguments.length then(idx a.arguments s.2).bind λe=>jn (λv=>let h:=v;(idx b.arguments s.2).bind λl=>g (l==h,zvp s.2 1)) λc=>(idx i.zvu s.2).bind λj=>if j==t1.sort then(zde n t1 e).bind λk=>c k else c e else grd (!s.1||(zW n t0 t1 a.effect b.effect).isSome)<|if s.1&&(zW n t0 t1 a.effect b.effect).getD J then O (d,U)else f<|zvp d 1
def zY.l1 n t0 t1 b e d(a:Int):=if Z<|a<t0.zvq.length then(idx t0.zvq a).bind λc=>zvt (zY.l2 n t0 t1 b e a d c) n (c.operation==b.operation&&c.arguments.length==(b.arguments.length:Int),0)else O (0,M)
def zY n t0 t1 t2:=(idx t0.zvq t2).bind λa=>(idx t0.zvs a.operation).bind λb=>zvt (zY.l1 n t0 t1 a b) n 0
def zb7.l1 n(t0:Model)t1(a:Constraint)(d:Int×Int->Option Int)(s:Int×Int):=if Z<|s.2<t1 then jn (λv=>let e:=v;d (e,zvp s.2 1)) λc=>(idx t0.constraints s.2).bind λb=>grd (!(b.kind==a.kind&&b.family==a.family)||(zaw n b.row a.row).isSome)<|if b.kind==a.kind&&b.family==a.family&&(zaw n b.row a.row).getD J then c<|zvp s.1 1 else c s.1 else O s.1
def zb7 n t0 t1:=(idx t0.constraints t1).bind λa=>zvt (zb7.l1 n t0 t1 a) n (0,0)
def zad.l1 n t0 t2(b:Constraint)d(e:Int->Option (Int×Bool))(c:Int):=if Z<|c<t0.constraints.length then(idx t0.constraints c).bind λa=>grd (!(a.kind==b.kind&&a.family==b.family)||(zaw n a.row d).isSome)<|grd (!(a.kind==b.kind&&a.family==b.family&&(zaw n a.row d).getD J)||(zb7 n t0 c).isSome)<|grd (!(a.kind==b.kind&&a.family==b.family&&(zaw n a.row d).getD J)||(zb7 n t0 t2).isSome)<|if a.kind==b.kind&&a.family==b.family&&(zaw n a.row d).getD J&&(zb7 n t0 c).getD J==(zb7 n t0 t2).getD J then O (c,U)else e<|zvp c 1 else O (0,M)
def zad n t0 t1 t2:=(idx t0.constraints t2).bind λa=>if a.kind==1 then O (t2,U)else(zbQ n t0 t1 a.row).bind λb=>zvt (zad.l1 n t0 t2 a b) n 0
def zaa.l2 n t0 t1(b:Int->Option Bool)(a:Int):=if Z<|a<t0.constraints.length then(zad n t0 t1 a).bind λc=>if !c.2 then O M else b<|zvp a 1 else O U
def zaa.l1 n t0 t1(b:Int->Option Bool)(a:Int):=if Z<|a<t0.zvq.length then(zY n t0 t1 a).bind λc=>if !c.2 then O M else b<|zvp a 1 else zvt (zaa.l2 n t0 t1) n 0
def zaa n t0 t1:=zvt (zaa.l1 n t0 t1) n 0
def zfa n t0 t1:=(zeU n t0 t1).bind λa=>grd (!a||(zaa n t0 t1).isSome)<|O<|a&&(zaa n t0 t1).getD J
def zdd.l1 n(t2:Question)(g h:Int×Bool)(b d:Action)e(f:Int->Option (Question×Bool))(a:Int):=if Z<|a<d.effect.hold.length then(idx d.effect.hold a).bind λi=>(zaw n i e).bind λc=>grd (!c||(zbq n d.effect.hold a e).isSome)<|grd (!c||(idx b.effect.hold t2.target.index).isSome)<|grd (!c||(zbq n b.effect.hold t2.target.index<|(idx b.effect.hold t2.target.index).getD J).isSome)<|if c&&(zbq n d.effect.hold a e).getD J==(zbq n b.effect.hold t2.target.index<|(idx b.effect.hold t2.target.index).getD J).getD J then O (⟨g.1,h.1,⟨U,a⟩⟩,U)else f<|zvp a 1 else O (⟨0,0,⟨M,0⟩⟩,M)
def zdd n t0 t1 t2:=(zY n t0 t1 t2.e).bind λa=>(zY n t0 t1 t2.f).bind λb=>if !a.2||!b.2 then O (⟨0,0,⟨M,0⟩⟩,M)else if !t2.target.hold then(zad n t0 t1 t2.target.index).bind λc=>if !c.2 then O (⟨0,0,⟨M,0⟩⟩,M)else O (⟨gmin a.1 b.1,gmax a.1 b.1,⟨M,c.1⟩⟩,U)else(idx t0.zvq t2.e).bind λd=>(idx t0.zvq a.1).bind λg=>(idx d.effect.hold t2.target.index).bind λh=>(zbQ n t0 t1 h).bind λi=>zvt (zdd.l1 n t2 a b d g i) n 0
def zcN n t0 t1 t2:=(zeU n t0 t1).bind λa=>grd (!a||(zee n t0 t2).isSome)<|if !a||!(zee n t0 t2).getD J then O (⟨0,0,⟨M,0⟩⟩,M)else(zdd n t0 t1 t2).bind λb=>O (b.1,b.2)
def zbN.l1 n t0 t1 t2(a:List Int×Int->Option (List Int×Bool))(s:List Int×Int):=if Z<|s.2<t2.length then(zaQ n t0 t1 s.2 U).bind λb=>(idx t2 b).bind λc=>(app 8 s.1 [c]).bind λd=>a (d,zvp s.2 1)else O (s.1,U)
def zbN n t0 t1 t2:=(zeU n t0 t1).bind λa=>grd (!a||(zb2 n t0).isSome)<|if !a||t2.length !=(zb2 n t0).getD J then O ([],M)else zvt (zbN.l1 n t0 t1 t2) n ([],0)
def zdy n t0 t1 t2:=(zhN n).bind λf=>if !f then O M else(zb1 n t0).bind λd=>grd (!d||(zfa n t0 t2).isSome)<|if !d||!(zfa n t0 t2).getD J then O U else(zcN n t0 t2 t1).bind λb=>if !b.2 then O U else(zbn n t0 t1 65536 []).bind λa=>(zbn n t0 b.1 65536 []).bind λc=>if a.2 !=0||c.2 !=0 then O M else if a.1.kind==2||c.1.kind==2 then O U else if a.1.kind !=c.1.kind then O M else(zbN n t0 t2 a.1.state).bind λe=>grd (a.1.kind !=0||(zef n a.1.steps).isSome)<|grd (a.1.kind !=0||(!(zef n a.1.steps).getD J||(zaz n t0 b.1 ⟨0,e.1,⟨0,[],0,0,[]⟩,0⟩ []).isSome))<|O<|a.1.kind !=0||(zef n a.1.steps).getD J&&(zaz n t0 b.1 ⟨0,e.1,⟨0,[],0,0,[]⟩,0⟩ []).getD J
end
section
set_option maxRecDepth 100000
variable[Drw]
def zx1 {α:Type}:Nat->Nat->List α->Option (List α)
 |0,0,_=>O []|0,n+1,c::cs=>match zx1 0 n cs with
  |some l=>O<|c::l|none=>Y
 |o+1,n,_::cs=>zx1 o n cs|_,_,[]=>Y
theorem zkd {α}:∀{o n}{cs l:List α},zx1 o n cs=O l->l=(cs.drop o).take n/\o+n<=cs.length
 |0,0,cs,l,h=>by grind[zx1]|0,n+1,[],l,h=>by grind[zx1]|0,n+1,c::cs,l,h=>by rw[zx1]at h;cases a:zx1 0 n cs with
  |none=>simp_all|some m=>rw[a]at h;obtain⟨e,b⟩:=zkd a;simp_all
 |o+1,n,[],l,h=>by grind[zx1]|o+1,n,c::cs,l,h=>by
  rw[zx1]at h;obtain⟨e,b⟩:=zkd h;grind
def zfit:D->Value->Bool|.val<|.int k a,.int k' b=>decide (k=k')&&Z (a=b)|.val<|.bool a,.bool b=>zzm a b|.val<|.string a,.string b=>a.data.toList.isEmpty&&b.data.toList.isEmpty|.sl _ [],.slice Y 0 0=>U|.osl _ [],.slice Y 0 0=>U|.val<|.slice Y 0 0,.slice Y 0 0=>U|.val .nilFunc,.nilFunc=>U|.val<|.map Y,.map Y=>U|.val<|.pointer Y,.pointer Y=>U|_,_=>M
def zys:List D->List Value->Bool|[],[]=>U|d::ds,v::vs=>zfit d v&&zys ds vs|_,_=>M
def zdB (P:Program)(t:Nat)(d:D):Bool:=match zbR P t with
 |some z=>match d,z with
  |.agg ds,.agg vs=>zys ds vs.toList|_,_=>zfit d z
 |none=>M
theorem zuP {a b:ByteArray}(h:(a.data.toList.isEmpty&&b.data.toList.isEmpty)=U):a=b:=by obtain⟨⟨l⟩⟩:=a;obtain⟨⟨m⟩⟩:=b;simp_all
theorem zqa {A w}:∀{d}{v},zfit d v=U->d.rep A w v:=by
 intro d v h;unfold zfit at h;split at h;·simp only[yc]at h;grind[xC]
 ·grind[zkb,xC]
 ·grind[zuP,xC]
 ·simp only[xC];simp_all
 ·simp only[xC];simp_all
 ·grind[xC]
 ·grind[xC]
 ·grind[xC]
 ·grind[xC]
 grind
theorem zma {A w}:∀{ds}{vs},zys ds vs=U->xu A w ds vs|[],[],_=>by grind[xu]|[],_::_,h=>by grind[zys]|_::_,[],h=>by grind[zys]|d::ds,v::vs,h=>by simp only[zys,yc]at h;exact⟨v,vs,rfl,zqa h.1,zma h.2⟩
theorem ztM {P t d}(h:zdB P t d=U):zxh P t d:=by
 unfold zdB at h;split at h
 ·rename_i z a;refine⟨z,a,λA w=>?_⟩;split at h;·exact⟨_,rfl,zma h⟩
  grind[zqa]
 grind
def tF2l:List<|Nat×List (Option<|Nat×Nat):=[(34,[Y,Y,O (2,2)]),(42,[Y,Y,O (2,5)]),(57,[Y,Y,O (2,2)]),(79,[Y,Y,O (2,3)]),(91,[Y,Y,Y,O (3,5)]),(107,[Y,Y,Y,O (3,2)]),(132,[O (0,4)]),(134,[Y,Y,O (2,5)]),(153,[O (0,4)]),(218,[O (0,7)]),(255,[O (0,7)])]
def tStl:List Nat:=[9]
def tEl:List<|Nat×Nat×Nat×Nat:=[(22,3,1,8),(23,107,6,72),(24,9,1,16),(25,57,6,64),(26,111,3,48),(27,79,5,104),(28,202,3,24),(37,149,3,24),(38,40,5,72),(51,22,1,24),(53,109,2,16),(73,113,2,16),(74,55,2,32),(75,243,3,24),(80,83,2,16),(84,124,3,40),(85,74,1,24),(173,4,1,1),(216,221,2,32),(267,271,4,32),(339,341,2,16),(344,350,3,6),(345,353,3,12)]
def tZdl:List<|Nat×D:=[(3,.int 0),(4,.bool M),(5,.val<|.int .u8 0),(9,.str []),(21,.val<|.int .i32 0),(22,.sl 1 []),(23,.sl 6 []),(24,.sl 1 []),(25,.sl 6 []),(26,.sl 3 []),(27,.sl 5 []),(28,.sl 3 []),(30,.agg [.sl 1 [],.sl 6 [],.sl 1 [],.sl 6 [],.sl 3 [],.sl 5 [],.sl 3 []]),(32,.agg [.bool M,.int 0]),(34,.agg [.int 0,.int 0,.bool M,.int 0]),(37,.sl 3 []),(38,.sl 5 []),(40,.agg [.int 0,.sl 3 [],.int 0,.int 0,.sl 5 []]),(42,.agg [.int 0,.sl 1 [],.int 0,.sl 3 [],.int 0,.int 0,.sl 5 [],.int 0]),(43,.int 0),(51,.sl 1 []),(53,.sl 2 []),(55,.agg [.sl 2 [],.int 0]),(57,.agg [.int 0,.int 0,.sl 2 [],.int 0,.int 0,.int 0]),(60,.val .nilFunc),(64,.agg [.int 0,.int 0,.int 0]),(73,.sl 2 []),(74,.sl 2 []),(75,.sl 3 []),(77,.agg [.sl 2 [],.sl 2 [],.sl 3 []]),(79,.agg [.int 0,.sl 1 [],.sl 2 [],.sl 2 [],.sl 3 []]),(80,.sl 2 []),(83,.agg [.int 0,.int 0]),(84,.sl 3 []),(85,.sl 1 []),(87,.agg [.sl 2 [],.sl 2 [],.sl 3 [],.sl 1 []]),(91,.agg [.int 0,.int 0,.sl 1 [],.int 0,.sl 3 [],.int 0,.int 0,.sl 5 [],.int 0]),(95,.val<|.map Y),(107,.agg [.str [],.int 0,.sl 1 [],.int 0,.int 0,.int 0]),(109,.agg [.int 0,.int 0]),(111,.agg [.str [],.bool M,.sl 1 []]),(113,.agg [.int 0,.int 0]),(124,.agg [.int 0,.int 0,.sl 1 []]),(130,.val<|.pointer Y),(132,.agg [.sl 2 [],.sl 2 [],.sl 3 [],.sl 1 [],.sl 2 [],.int 0,.int 0]),(134,.agg [.osl 1 [],.int 0,.int 0,.sl 3 [],.int 0,.int 0,.sl 5 []]),(149,.agg [.int 0,.int 0,.int 0]),(153,.agg [.sl 2 [],.sl 2 [],.sl 3 [],.sl 1 [],.sl 2 [],.sl 2 [],.bool M]),(173,.sl 1 []),(192,.agg [.sl 3 [],.sl 2 [],.bool M,.bool M]),(202,.agg [.int 0,.int 0,.int 0]),(216,.sl 2 []),(218,.agg [.sl 1 [],.sl 6 [],.sl 1 [],.sl 6 [],.sl 3 [],.sl 5 [],.sl 3 [],.sl 2 [],.sl 2 []]),(221,.agg [.int 0,.sl 1 []]),(223,.agg [.int 0,.sl 1 []]),(243,.agg [.int 0,.int 0,.int 0]),(248,.val .nilFunc),(255,.agg [.sl 1 [],.sl 6 [],.sl 1 [],.sl 6 [],.sl 3 [],.sl 5 [],.sl 3 [],.sl 2 []]),(260,.val<|.int .u64 0),(267,.sl 4 []),(271,.agg [.int 0,.int 0,.int 0,.int 0]),(278,.val<|.map Y),(283,.val<|.map Y),(289,.int 0),(296,.val<|.int .u32 0),(298,.val<|.int .u64 0),(317,.val<|.int .u64 0),(339,.sl 2 []),(341,.agg [.int 0,.int 0]),(343,.val<|.pointer Y),(344,.sl 3 []),(345,.sl 3 []),(347,.agg [.sl 3 [],.sl 3 [],.int 0]),(348,.val<|.int .u16 0),(350,.agg [.val<|.int .u16 0,.val<|.int .u16 0,.val<|.int .u16 0]),(353,.agg [.val<|.int .u32 0,.val<|.int .u32 0,.val<|.int .u32 0])]
def tF2 (t i:Nat):Option<|Nat×Nat:=match assN tF2l t with|some r=>nthO r i|none=>Y
def tSt (t:Nat):Bool:=memN tStl t
def tE:Nat->Option (Nat×Nat×Nat):=assN tEl
def tZd:Nat->Option D:=assN tZdl
def zzl (P:Program)(t:Nat):List (Option<|Nat×Nat)->Nat->Bool|[],_=>U|none::l,i=>zzl P t l<|i+1|some (o,n)::l,i=>decide (zw8 P t i=O (o,O n))&&zzl P t l (i+1)
theorem zn2 {P t o n}:∀{l}{j i},zzl P t l j=U->nthO l i=O (o,n)->zw8 P t (j+i)=O (o,O n)
 |[],_,_,_,h=>by grind[nthO]|x::l,j,0,a,h=>by
  subst h;simp only[zzl]at a;grind|x::l,j,i+1,a,h=>by
  have b:zzl P t l (j+1)=true:=by cases x with|none=>exact a|some o=>simp only[zzl]at a;grind
  have:=zn2 b h;grind
theorem zuv:(tF2l.all λp=>zzl xg p.1 p.2 0)=true:=by kernel_rfl
theorem ztG {t i o n}(h:tF2 t i=O (o,n)):zw8 xg t i=O (o,O n):=by unfold tF2 at h;cases a:assN tF2l t with|none=>simp_all|some r=>rw[a]at h;have:=zn2 (yo.1 zuv _<|zdI a) h;simp_all
def stB (P:Program)(t:Nat):Bool:=match P.underlying t with|some .string=>U|_=>M
theorem zuw:tStl.all (stB xg)=true:=by kernel_rfl
theorem zld {t}(h:tSt t=U):xg.underlying t=O .string:=by
 have:=yo.1 zuw t<|ziq h;grind[stB]
def tBol:List Nat:=[4]
def boB (P:Program)(t:Nat):Bool:=match P.underlying t with|some .bool=>U|_=>M
theorem zut:tBol.all (boB xg)=true:=by kernel_rfl
theorem zvf {t}(h:memN tBol t=U):xg.underlying t=O .bool:=by
 have:=yo.1 zut t<|ziq h;grind[boB]
theorem zvh:(tEl.all λp=>zcb xg p.1 p.2.1 p.2.2.1 p.2.2.2)=true:=by kernel_rfl
theorem zzJ {t el k b}(h:tE t=O (el,k,b)):zcb xg t el k b=true:=yo.1 zvh (t,el,k,b)<|zdI h
theorem zsm:(tZdl.all λp=>zdB xg p.1 p.2)=true:=by kernel_rfl
def nilZ:D->D|.sl _ []=>.val<|.slice Y 0 0|d=>d
def zz9 (js:List Nat):List D->Nat->List D|d::ds,i=>(match memN js i with|true=>nilZ d|false=>d)::zz9 js ds (i+1)|[],_=>[]
def nilAt (js:List Nat):D->D|.agg ds=>.agg<|zz9 js ds 0|d=>nilZ d
theorem zm6 {d}{v}(h:zfit d v=U):zfit (nilZ d) v=true:=by
 unfold nilZ;split
 ·unfold zfit at h|-;grind
 grind
theorem zom (js):∀{ds}{vs}(i),zys ds vs=U->zys (zz9 js ds i) vs=U
 |[],[],_,_=>rfl|[],_::_,_,h=>by grind[zys]|_::_,[],_,h=>by grind[zys]|d::ds,v::vs,i,h=>by
  simp only[zys,yc,zz9]at h|-;refine⟨?_,zom js (i+1) h.2⟩;grind[zm6]
theorem zsn {t d}(js)(h:tZd t=O d):zxh xg t<|nilAt js d:=ztM<|by have h:=yo.1 zsm (t,d)<|zdI h;unfold zdB at h|-;cases a:zbR xg t with
 |none=>simp_all|some z=>rw[a]at h;cases d with
  |agg ds=>cases z with
   |agg vs=>exact zom js 0 h|_=>grind[zfit]
  |sl k xs=>cases xs<;>cases z<;>exact zm6 h|_=>cases z<;>exact zm6 h
theorem zp0 {t d}(h:tZd t=O d):zxh xg t d:=ztM<|yo.1 zsm (t,d)<|zdI h
def zps {α:Type}:List α->Bool|[]=>U|_=>M
def kOKs (k:Nat):List D->Bool|[]=>U|d::ds=>match d.kOK k with|true=>kOKs k ds|false=>M
theorem zpu {k}:∀{ds},kOKs k ds=U->∀d∈ds,d.kOK k=U
 |[],_,_,h=>by grind|d::ds,h,x,a=>by
  unfold kOKs at h;split at h
  ·rcases yE.1 a with rfl|a;·grind
   ·exact zpu h x a
  grind
def ixs:List (Nat×Operand)->Nat->Bool|[],_=>U|(i,_)::l,j=>match vf i j with|true=>ixs l<|j+1|false=>M
theorem ztw:∀{l}{j},ixs l j=U->l.map (·.1)=ws j l.length
 |[],_,_=>rfl|(i,x)::l,j,h=>by
  unfold ixs at h;split at h;·rename_i a;rw[yU,yQ,List.range'_succ,ztw h,wU a]
  grind
def zls:List D->List D->List D|c::cs,d::ds=>zl1 c d::zls cs ds|cs,[]=>cs|[],_=>[]
theorem zsy:∀{cs}(ds),D.Les cs<|zls cs ds|[],[]=>.nil|[],_::_=>.nil|c::cs,[]=>lesR _|c::cs,d::ds=>.cons (ztN c d)<|zsy ds
def zl1K {β:Type}(c d:D)(k:D->β):β:=match c with
 |.val<|.slice Y 0 0=>match d with
  |.sl n _=>k<|.sl n []|.osl n _=>k<|.osl n []|_=>k c
 |_=>k c
theorem zuG {β:Type}(c d:D)(k:D->β):zl1K c d k=k (zl1 c d):=by unfold zl1K zl1;split<;>(try split)<;>simp_all
def zlsK {β:Type}:List D->List D->(List D->β)->β|c::cs,d::ds,k=>zl1K c d λx=>zlsK cs ds λl=>k<|x::l|cs,[],k=>k cs|[],_,k=>k []
theorem zsx {β:Type}:∀(cs ds)(k:List D->β),zlsK cs ds k=k (zls cs ds)|[],[],_=>rfl|[],_::_,_=>rfl|_::_,[],_=>rfl|c::cs,d::ds,k=>by rw[zlsK,zuG,zsx cs ds];rfl
theorem OpV.les {P}{o}{e}{H}{ds ds'}(h:OpV P o e H<|.d<|.agg ds)(hl:D.Les ds ds'):OpV P o e H<|.d<|.agg ds':=⟨λl c w f m g i j=>by refine zfL.imp (λu p a=>⟨a.1,?_⟩)<|h.run l c w f m g i j;have:=a.2;obtain⟨k,n,b⟩:=this;exact⟨k,n,hl.reps b⟩⟩
section
variable(H:List Blk)(e:Operand->Option V)
def wFld (t:TypeId)(x:Operand)(i:Nat):Option V:=match e x with
 |some<|.d<|.ref<|.agg cs=>match tF2 t i with
  |some (o,n)=>match zx1 o n cs with
   |some ds=>match zzg ds n with
    |true=>O<|.d<|.ref<|.agg ds|false=>Y
   |none=>Y
  |none=>Y
 |some<|.loc b off=>match tF2 t i with
  |some (o,_)=>match zx3 H b with|some _=>O<|.loc b<|off+o|none=>Y
  |none=>Y
 |_=>Y
def wLoad (t:TypeId)(x:Operand):Option V:=match e x with
 |some<|.loc b off=>match tS t with
  |some<|O n=>match zx3 H b with
   |some cs=>match zx1 off n cs with
    |some vs=>O<|zAc vs|none=>Y
   |none=>Y
  |_=>Y
 |_=>Y
def wFn (f:Fn)(fs cs:Array Operand):Option V:=match f with
 |.func g=>match zps fs.toList with
  |true=>match evs e cs.toList with
   |some ds=>O<|.d<|.fn (.func g) [] ds|none=>Y
  |false=>Y
 |_=>Y
def wStr (op:BinOp)(x y:Operand):Option V:=match e x with
 |some<|.d<|.val<|.string a=>match e y with
  |some<|.d<|.val<|.string b=>match op with
   |.eql=>O<|.d<|.bool<|Z<|a.data.toList=b.data.toList|.neq=>O<|.d<|.bool<|!decide (a.data.toList=b.data.toList)|_=>Y
  |_=>Y
 |_=>Y
def wBoo (op:BinOp)(t:TypeId)(x y:Operand):Option V:=match e x with
 |some<|.d<|.val<|.bool a=>match e y with
  |some<|.d<|.val<|.bool b=>match memN tBol t with
   |true=>match op with
    |.eql=>O<|.d<|.bool<|a==b|.neq=>O<|.d<|.bool<|a !=b|_=>Y
   |false=>Y
  |_=>Y
 |_=>wStr e op x y
def wNeg (x:Operand):Option V:=match e x with
 |some<|.d<|.val<|.int k a=>match k with
  |.i64=>O<|.d<|.int<|zwb a|_=>Y
 |_=>Y
def wBld (t:TypeId)(parts:Array<|Nat×Operand):Option V:=match tP t with
 |some pl=>match tZd t with
  |some<|.agg zs=>match zhv e pl parts.toList with
   |some ps=>match zxV zs ps with
    |some ds=>zlsK ds zs λl=>O<|.d<|.agg l|none=>Y
   |none=>Y
  |_=>Y
 |none=>Y
def hasSl:List D->Bool|.sl _ _::_=>U|.osl _ _::_=>U|_::l=>hasSl l|[]=>M
def wBldN (js:List Nat)(t:TypeId)(parts:Array<|Nat×Operand):Option V:=match tP t with
 |some pl=>match tZd t with
  |some<|.agg zs=>match zhv e pl parts.toList with
   |some ps=>match zxV (zz9 js zs 0) ps with
    |some ds=>O<|.d<|.agg ds|none=>Y
   |none=>Y
  |_=>Y
 |none=>Y
def wBld0 (t:TypeId)(parts:Array<|Nat×Operand):Option V:=match tZd t with
 |some<|.agg zs=>match hasSl zs with
  |true=>Y|false=>wBld e t parts
 |_=>Y
def wBsl (t:TypeId)(len:Nat)(parts:Array<|Nat×Operand):Option V:=match tE t with
 |some (_,k,_)=>match evs e<|parts.toList.map (·.2)with
  |some ds=>match ixs parts.toList 0 with
   |true=>match vf parts.toList.length len with
    |true=>match xQ (len*k) 16777216 with
     |true=>match kOKs k ds with
      |true=>O<|.d<|.sl k ds|false=>Y
     |false=>Y
    |false=>Y
   |false=>Y
  |none=>Y
 |none=>Y
def wLen (args:List Operand)(tys:List TypeId):Option V:=match args with
 |[x]=>match tys with
  |[t]=>match e x with
   |some<|.d<|.val<|.string a=>match tSt t with
    |true=>O<|.d<|.int a.data.toList.length|false=>Y
   |_=>Y
  |_=>Y
 |_=>Y
def wMM (mx:Bool)(args:List Operand):Option V:=match args with
 |[x,y]=>match e x with
  |some<|.d<|.val<|.int k a=>match e y with
   |some<|.d<|.val<|.int k' b=>match Z<|k=k' with
    |true=>O<|.d<|.val<|.int k<|match mx with|true=>gmax a b|false=>gmin a b
    |false=>Y
   |_=>Y
  |_=>Y
 |_=>Y
def wPick (c x y:Operand):Option V:=match e c with
 |some<|.d<|.val<|.bool b=>match b with
  |true=>e x|false=>e y
 |_=>Y
def wOp2:Op->Option V
 |.fieldAddr t x i=>wFld H e t x i|.load t x=>wLoad H e t x|.makeFunc f fs cs=>wFn e f fs cs|.unOp .neg _ x=>wNeg e x|.pick c x y=>wPick e c x y|.binOp op t x y _=>wBoo e op t x y|.build t parts=>wBld0 e t parts|.buildSlice t len parts=>wBsl e t len parts|.call c=>match c.callee with
  |.builtin .len=>wLen e c.args.toList c.argTypes.toList|.builtin .max=>wMM e U c.args.toList|.builtin .min=>wMM e M c.args.toList|_=>Y
 |_=>Y
end
def ztu:List (Nat×Operand)->Bool|[]=>U|(_,.const<|.slice Y 0 0)::_=>U|[_]=>M|_::l=>ztu l
def nilA:Op->Bool|.assign<|.const<|.slice Y 0 0=>U|.move<|.const<|.slice Y 0 0=>U|.buildSlice _ _ ps=>ztu ps.toList|_=>M
def wOp (H:List Blk)(e:Operand->Option V)(op:Op):Option V:=match nilA op with|true=>Y|false=>match vOp tF tS H e op with|some v=>O v|none=>wOp2 H e op
theorem arr0 {α}{a:Array α}(h:zps a.toList=U):a=#[]:=by obtain⟨l⟩:=a;cases l with|nil=>rfl|cons _ _=>cases h
theorem arr1 {α:Type}{a}{x:α}(h:a.toList=[x]):a=#[x]:=by grind
theorem arr2 {α:Type}{a}{x y:α}(h:a.toList=[x,y]):a=#[x,y]:=by grind
theorem zsC {o}{e}{H}{t el len k bytes:Nat}{parts}{ds}(ho:o.op=.buildSlice t len parts)(hp:parts.toList.map (·.1)=ws 0 len)(he:zcb xg t el k bytes=U)(hx:evs e (parts.toList.map (·.2))=O ds)(hk:∀d∈ds,d.kOK k=U)(hl:xQ (len*k) 16777216=U):OpV xg o e H<|.d<|.sl k ds:=by have:=OpV.zwo (P:=xg) (H:=H) (enc:=λx:{d:D//d.kOK k=U}=>x.1) (ds.attach.map λd=>⟨d.1,hk d.1 d.2⟩) ho hp he (by simpa using hx) (λx=>x.2) hl;simp_all
section
variable{o:Oper}{e:Operand->Option V}{H:List Blk}{v:V}
theorem zuB {t x i}(ho:o.op=.fieldAddr t x i)(h:wFld H e t x i=O v):OpV xg o e H v:=by
 unfold wFld at h;split at h
 ·split at h
  ·split at h
   ·split at h;·cases h;obtain⟨b,c⟩:=zkd ‹zx1 _ _ _=_›;exact .fieldAddr ho ‹e x=_›<|Fld.of (ztG ‹tF2 t i=_›) (congrArg O<|zkF ‹zzg _ _=_›)<|by simp only[zlP];simp_all
    grind
   grind
  grind
 ·split at h
  ·split at h;·cases h;obtain⟨_,a⟩:=zh9 ‹zx3 _ _=_›;exact .zvL ho ‹e x=_› a<|ztG ‹tF2 t i=_›
   grind
  grind
 grind
theorem ztj {t x}(ho:o.op=.load t x)(h:wLoad H e t x=O v):OpV xg o e H v:=by
 unfold wLoad at h;split at h
 ·split at h
  ·split at h
   ·split at h;·cases h;obtain⟨b,c⟩:=zkd ‹zx1 _ _ _=_›;obtain⟨_,a⟩:=zh9 ‹zx3 _ _=_›;exact .zxi ho ‹e x=_› a (Tab.sh _ _ ‹tS t=_›) c<|by rw[b]
    grind
   grind
  grind
 grind
theorem zvm {f fs cs}(ho:o.op=.makeFunc f fs cs)(h:wFn e f fs cs=O v):OpV xg o e H v:=by
 unfold wFn at h;split at h
 ·split at h
  ·split at h;·cases h;rw[arr0 ‹zps fs.toList=_›]at ho;exact .makeFunc ho ‹evs _ _=_›
   grind
  grind
 grind
theorem zuF {op t x y u}(ho:o.op=.binOp op t x y u)(h:wStr e op x y=O v):OpV xg o e H v:=by
 unfold wStr at h;split at h
 ·split at h
  ·split at h;·cases h;exact .zzo ho ‹e x=_› ‹e y=_›
   ·cases h;exact .zAi ho ‹e x=_› ‹e y=_›
   grind
  grind
 grind
theorem zuz {op t x y u}(ho:o.op=.binOp op t x y u)(h:wBoo e op t x y=O v):OpV xg o e H v:=by
 unfold wBoo at h;split at h
 ·split at h
  ·split at h
   ·have a:=zvf ‹memN _ _=_›;split at h;·cases h;exact .beq ho a ‹e x=_› ‹e y=_›
    ·cases h;exact .bne ho a ‹e x=_› ‹e y=_›
    grind
   grind
  grind
 grind[zuF]
theorem zuD {t x}(ho:o.op=.unOp .neg t x)(h:wNeg e x=O v):OpV xg o e H v:=by
 unfold wNeg at h;split at h
 ·split at h;·cases h;exact .neg6 ho ‹e x=_›
  grind
 grind
theorem zst {t parts}(ho:o.op=.build t parts)(h:wBld e t parts=O v):OpV xg o e H v:=by
 unfold wBld at h;split at h
 ·split at h
  ·split at h
   ·split at h;·rw[zsx]at h;cases h;exact OpV.les (.build ho (tP_ok ‹tP t=_›) (zp0 ‹tZd t=_›) ‹zhv _ _ _=_› ‹zxV _ _=_›)<|zsy _
    grind
   grind
  grind
 grind
theorem zti {js t parts}(ho:o.op=.build t parts)(h:wBldN e js t parts=O v):OpV xg o e H v:=by
 unfold wBldN at h;split at h
 ·split at h
  ·split at h
   ·split at h;·cases h;exact .build ho (tP_ok ‹tP t=_›) (zsn js (d:=.agg _) ‹tZd t=_›) ‹zhv _ _ _=_› ‹zxV _ _=_›
    grind
   grind
  grind
 grind
theorem zth {t parts}(ho:o.op=.build t parts)(h:wBld0 e t parts=O v):OpV xg o e H v:=by grind[wBld0,zst]
theorem zuA {t len parts}(ho:o.op=.buildSlice t len parts)(h:wBsl e t len parts=O v):OpV xg o e H v:=by
 unfold wBsl at h;split at h
 ·split at h
  ·split at h
   ·split at h
    ·split at h
     ·split at h;·cases h;exact zsC ho (by grind[ztw,wU]) (zzJ ‹tE t=_›) ‹evs _ _=_› (zpu ‹kOKs _ _=_›) ‹xQ _ _=_›
      grind
     grind
    grind
   grind
  grind
 grind
theorem zuC {c}(ho:o.op=.call c)(hc:c.callee=.builtin .len)(h:wLen e c.args.toList c.argTypes.toList=O v):OpV xg o e H v:=by
 unfold wLen at h;obtain⟨f,b,d⟩:=c;subst hc;split at h
 ·split at h
  ·split at h
   ·split at h;·cases h;have g:=arr1 ‹b.toList=_›;have a:=arr1 ‹d.toList=_›;subst g a;exact .zxI ho (zld ‹tSt _=_›) ‹e _=_›
    grind
   grind
  grind
 grind
theorem ztL {c}{mx}(ho:o.op=.call c)(hc:c.callee=.builtin (match mx with|true=>.max|false=>.min))(h:wMM e mx c.args.toList=O v):OpV xg o e H v:=by
 unfold wMM at h;obtain⟨f,b,g⟩:=c;subst hc;split at h
 ·split at h
  ·split at h
   ·split at h
    ·cases h;have d:=arr2 ‹b.toList=_›;subst d;have a:=of_decide_eq_true ‹Z _=_›;subst a;cases mx;·exact .min2 ho ‹e _=_› ‹e _=_›
     ·exact .max2 ho ‹e _=_› ‹e _=_›
    grind
   grind
  grind
 grind
theorem ztk {c x y}(ho:o.op=.pick c x y)(h:wPick e c x y=O v):OpV xg o e H v:=by
 unfold wPick at h;split at h;·rename_i b hc;exact .pick ho hc (λhb=>by subst hb;exact h) λhb=>by subst hb;exact h
 ·cases h
theorem zuE (h:wOp2 H e o.op=O v):OpV xg o e H v:=by cases a:o.op with
 |fieldAddr t x i=>rw[a]at h;exact zuB a h|load t x=>rw[a]at h;exact ztj a h|makeFunc f fs cs=>rw[a]at h;exact zvm a h|pick c x y=>rw[a]at h;exact ztk a h|unOp u t x=>rw[a]at h;cases u<;>first|(exact zuD a h)|(cases h)
 |binOp op t x y u=>rw[a]at h;exact zuz a h|build t parts=>rw[a]at h;exact zth a h|buildSlice t len parts=>rw[a]at h;exact zuA a h|call c=>
  rw[a]at h;simp only[wOp2]at h;split at h;·grind[zuC]
  ·exact ztL (mx:=U) a ‹_› h
  ·exact ztL (mx:=M) a ‹_› h
  grind|_=>rw[a]at h;cases h
theorem zp6 (h:wOp H e o.op=O v):OpV xg o e H v:=by
 unfold wOp at h;split at h;·cases h
 ·split at h;·cases h;exact zp4 (P:=xg) ‹vOp _ _ _ _ _=_›
  grind[zuE]
theorem zp7 (h:wOp H e o.op=O v):zap o=false:=by grind[zap,wOp,wOp2,vOp]
end
end
section
set_option maxRecDepth 100000
variable[Drw]
def runW (N:Nat)(H:List Blk):List Oper->List (Nat×V)->List Oper×List (Nat×V)
 |o::l,T=>match o.guard with
  |none=>match o.dst with
   |some d=>match xA d N with
    |true=>match wOp H (ev T) o.op with
     |some v=>runW N H l<|(d,v)::T|none=>(o::l,T)
    |false=>(o::l,T)
   |none=>(o::l,T)
  |some _=>(o::l,T)
 |[],T=>([],T)
def runW1 (N:Nat)(H:List Blk):List Oper->List (Nat×V)->Option (List Oper×List (Nat×V))
 |o::l,T=>match o.guard with
  |none=>match o.dst with
   |some d=>match xA d N with
    |true=>match wOp H (ev T) o.op with
     |some v=>O<|runW N H l<|(d,v)::T|none=>Y
    |false=>Y
   |none=>Y
  |some _=>Y
 |[],_=>Y
def gOK (ops:Array Oper)(T:List<|Nat×V):Option (Nat×Bool)->Bool
 |none=>U|some (j,w)=>match ops[j]?.bind (·.dst)with
  |some g=>match look g T with
   |some<|.d<|.val<|.bool b=>zzm b w|_=>M
  |none=>M
def sameG:Option (Nat×Bool)->Option (Nat×Bool)->Bool
 |none,Y=>U|some (i,a),O (j,b)=>match vf i j with
  |true=>zzm a b|false=>M
 |_,_=>M
def runQW (N:Nat)(H:List Blk)(ops:Array Oper)(g:Option<|Nat×Bool):List Oper->List (Nat×V)->List Oper×List (Nat×V)
 |o::l,T=>match sameG o.guard g with
  |true=>match gOK ops T o.guard with
   |true=>match o.dst with
    |some d=>match xA d N with
     |true=>match wOp H (ev T) o.op with
      |some v=>runQW N H ops g l<|(d,v)::T|none=>(o::l,T)
     |false=>(o::l,T)
    |none=>(o::l,T)
   |false=>(o::l,T)
  |false=>(o::l,T)
 |[],T=>([],T)
def zr5 (N:Nat)(H:List Blk)(ops:Array Oper):List Oper->List (Nat×V)->Option (List Oper×List (Nat×V))
 |o::l,T=>match gOK ops T o.guard with
  |true=>match o.dst with
   |some d=>match xA d N with
    |true=>match wOp H (ev T) o.op with
     |some v=>O<|runQW N H ops o.guard l<|(d,v)::T|none=>Y
    |false=>Y
   |none=>Y
  |false=>Y
 |[],_=>Y
section
variable{C:Ctx}{ops:Array Oper}{Q:Exit->St->Prop}{o:Oper}{l rest:List Oper}{T T':List<|Nat×V}{H:List Blk}{N:Nat}{al:List Ev}{K:List Ev->List (Nat×V)->Prop}
theorem zr7 (k:TriL xg C ops rest Q ⟨T',H⟩):∀(l)(T),runW C.n H l T=(rest,T')->TriL xg C ops l Q ⟨T,H⟩
 |[],T,h=>by cases h;exact k|o::l,T,h=>by
  rw[runW]at h;split at h
  ·split at h
   ·split at h
    ·split at h;·have a:=‹o.dst=_›;refine .op ‹o.guard=_› (by rw[a];exact‹xA _ _=_›) (zp6 ‹wOp _ _ _=_›) ?_;rw[a];exact zr7 k l _ h
     simp_all
    simp_all
   simp_all
  simp_all
theorem zs8 (k:TriL xg C ops rest Q ⟨T',H⟩){l}{T}(h:runW1 C.n H l T=O (rest,T')):TriL xg C ops l Q ⟨T,H⟩:=by cases l with
 |nil=>cases h|cons o l=>
  rw[runW1]at h;split at h
  ·split at h
   ·split at h
    ·split at h;·have a:=‹o.dst=_›;refine .op ‹o.guard=_› (by rw[a];exact‹xA _ _=_›) (zp6 ‹wOp _ _ _=_›) ?_;rw[a];exact zr7 k l _<|vP h
     grind
    grind
   grind
  grind
theorem zrg {d:Nat}{v}(hg:gOK ops T o.guard=U)(hd:o.dst=O d)(hn:xA d N=U)(hs:zap o=M)(hv:OpV xg o (ev T) H v)(k:TriQ xg N ops H l al ((d,v)::T) K):TriQ xg N ops H (o::l) al T K:=by cases a:o.guard with
 |none=>exact .op a hd hn hs hv k|some p=>
  rw[a]at hg;simp only[gOK]at hg;split at hg
  ·split at hg;·have e:=zkb hg;subst e;exact .gop a ‹Option.bind _ _=_› ‹look _ _=_› hd hn hs hv k
   simp_all
  simp_all
theorem zpT (k:TriQ xg N ops H rest al T' K){g}:∀(l)(T),runQW N H ops g l T=(rest,T')->TriQ xg N ops H l al T K
 |[],T,h=>by cases h;exact k|o::l,T,h=>by
  rw[runQW]at h;split at h
  ·split at h
   ·split at h
    ·split at h
     ·split at h;·exact zrg ‹gOK _ _ _=_› ‹o.dst=_› ‹xA _ _=_› (zp7 ‹wOp _ _ _=_›) (zp6 ‹wOp _ _ _=_›)<|zpT k l _ h
      simp_all
     simp_all
    simp_all
   simp_all
  simp_all
theorem zr6 (k:TriQ xg N ops H rest al T' K){l}{T}(h:zr5 N H ops l T=O (rest,T')):TriQ xg N ops H l al T K:=by cases l with
 |nil=>cases h|cons o l=>
  rw[zr5]at h;split at h
  ·split at h
   ·split at h
    ·split at h;·exact zrg ‹gOK _ _ _=_› ‹o.dst=_› ‹xA _ _=_› (zp7 ‹wOp _ _ _=_›) (zp6 ‹wOp _ _ _=_›)<|zpT k l _<|vP h
     grind
    grind
   grind
  grind
end
end
section
set_option maxRecDepth 100000
variable[Drw]
theorem lnS {a b:Nat}(h:a=b:=by first|exact rfl|exact Eq.symm<|yI _|exact of_decide_eq_true<|by assumption|exact Eq.symm<|of_decide_eq_true<|by assumption|exact Eq.trans (of_decide_eq_true<|by assumption)<|Eq.symm<|yI _):a=b:=h
section
variable{p:Prop}{C:Ctx}{ops:Array Oper}{Q:Exit->St->Prop}{o:Oper}{l l1 l2 rest:List Oper}{T T':List<|Nat×V}{H:List Blk}{s:St}{N:Nat}{al:List Ev}{K:List Ev->List (Nat×V)->Prop}{x y c:Code}{R:Type}{r:R}
theorem wk.seq (k:p->Tri xg C x (zxS (Tri xg C y Q) Q) s):p->Tri xg C (.seq x y) Q s:=λa=>.seq<|k a
theorem wk.skip (k:p->Q .normal s):p->Tri xg C .skip Q s:=λa=>.skip<|k a
theorem wk.block {id}(k:p->Tri xg C c (zfl id Q) s):p->Tri xg C (.block id c) Q s:=λa=>.block<|k a
theorem wk.exit {id}(k:p->Q (.exit id) s):p->Tri xg C (.exit id) Q s:=λa=>.exit<|k a
theorem wk.ret (k:p->Q .ret s):p->Tri xg C .ret Q s:=λa=>.ret<|k a
theorem wk.xT {n}{i}(k:p->Q (.exit i) s):p->zxS n Q (.exit i) s:=k
theorem wk.rT {n}(k:p->Q .ret s):p->zxS n Q .ret s:=k
theorem wk.nB {i}(k:p->Q .normal s):p->zfl i Q .normal s:=k
theorem wk.rB {i}(k:p->Q .ret s):p->zfl i Q .ret s:=k
theorem wk.xB {i}(k:p->Q .normal s):p->zfl i Q (.exit i) s:=λa=>by simp only[zfl];grind
theorem wk.xJ {σ}{k}{xf:σ->St}{i}(h:p->Q (.exit i) s):p->zxO k r xf Q (.exit i) s:=h
theorem wk.rJ {σ}{k}{xf:σ->St}(h:p->Q .ret s):p->zxO k r xf Q .ret s:=h
theorem wk.nd {σ}{k}{xf}{v:σ}{X}(g:(s.H,(xf v).H.all<|vl (xf v).H.length,(xf v).T.all λp=>p.2.under (xf v).H.length,lks (xf v).T s.T)=((xf v).H++X,U,U,vls (xf v).T)):k v=O r->zxO k r xf Q .normal s:=λh=>ndE h g
theorem wk.cond {b}{q}{m n}(hc:ev s.T q=O (.d<|.bool b))(ht:m=O r->Tri xg C x Q s)(hf:n=O r->Tri xg C y Q s):(if b=U then m else n)=O r->Tri xg C (.cond q x y) Q s:=λh=>.zvG hc h ht hf
theorem wk.zzT {q}(hc:ev s.T q=O (.d<|.bool U))(k:p->Tri xg C x Q s):p->Tri xg C (.cond q x y) Q s:=λh=>.zzT hc<|k h
theorem wk.zzS {q}(hc:ev s.T q=O (.d<|.bool M))(k:p->Tri xg C y Q s):p->Tri xg C (.cond q x y) Q s:=λh=>.zzS hc<|k h
theorem wk.gK {c}{m}{G:Prop}(k:c=U->m=O r->G):grd c m=O r->G:=λh=>k (grdS h).1 (grdS h).2
def zz2:List Oper->Nat->Nat->Nat
 |o::l,n,m=>match o.guard with|some _=>zz2 l (n+1)<|n+1|none=>match o.op with
   |.pick _ _ _=>zz2 l (n+1)<|n+1|_=>zz2 l (n+1) m
 |[],_,m=>m
def cutN {β:Type}:Nat->List Oper->(List Oper->List Oper->β)->β|0,l,k=>k [] l|n+1,o::l,k=>cutN n l λa b=>k (o::a) b|_+1,[],k=>k [] []
theorem zi1 {β}:∀(n)(l)(k:List Oper->List Oper->β),cutN n l k=k (l.take n) (l.drop n)|0,l,k=>by simp[cutN]|n+1,[],k=>by simp[cutN]|n+1,o::l,k=>by rw[cutN,zi1 n l];simp
theorem wk.reg {id}(h:vf (zz2 l 0 0) 0=U)(k:p->TriL xg C l.toArray l Q s):p->Tri xg C (.region id l.toArray M) Q s:=λa=>.region<|k a
theorem wk.regP {id n}(h:(zz2 l 0 0,cutN n l λa b=>O (a,b))=(n,O (l1,l2)))(h2:zoO l1=U)(k:p->TriQ xg C.n l.toArray H l1 [] T λ_ T=>TriL xg C l.toArray l2 Q ⟨T,H⟩):p->Tri xg C (.region id l.toArray M) Q ⟨T,H⟩:=λc=>by simp only[yg,zi1]at h;obtain⟨_,rfl,rfl⟩:=h;exact .plain n h2<|k c
def quiet (o:Oper)(mk:List<|Nat×Nat):Bool:=match o.op with
 |.store t (.tmp r) _=>match o.guard with
  |none=>match assN mk r with|some t'=>vf t t'|none=>M
  |some _=>M
 |.store _ _ _=>M|.mapUpdate _ _ _ _=>M|.makeMap _ _=>M|.makeSlice _ _ _=>M|.call c=>match c.callee with
  |.builtin .append=>M|.builtin .copy=>M|.builtin .clear=>M|.builtin .delete=>M|_=>U
 |_=>U
def znN:List Oper->List (Nat×Nat)->Nat->Nat
 |o::l,mk,n=>match quiet o mk with
  |true=>match o.op with
   |.alloc t=>match o.dst with
    |some r=>znN l ((r,t)::mk)<|n+1|none=>znN l mk<|n+1
   |.store _ (.tmp r) _=>znN l ((r,0)::mk)<|n+1|_=>znN l mk<|n+1
  |false=>n
 |[],_,n=>n
theorem wk.regD {id n}(h:(znN l [] 0,cutN n l λa b=>O (a,b))=(n,O (l1,l2)))(k:p->TriQ xg C.n l.toArray H l1 [] T λal T=>TriL xg C l.toArray l2 Q<|zlC xg H al T)(h1:regOK l n=true:=by kernel_rfl)(h2:(zf4 (l.take n)&&zeN (l.take n))=true:=by kernel_rfl):p->Tri xg C (.region id l.toArray U) Q ⟨T,H⟩:=λc=>by simp only[yg,zi1]at h;obtain⟨_,rfl,rfl⟩:=h;exact .draw n Hm h1 h2<|k c
theorem wk.W (h:runW1 C.n H l T=O (rest,T'))(k:p->TriL xg C ops rest Q ⟨T',H⟩):p->TriL xg C ops l Q ⟨T,H⟩:=λa=>zs8 (k a) h
theorem wk.nil (k:p->Q .normal s):p->TriL xg C ops [] Q s:=λa=>.nil<|k a
structure OpP (o:Oper)(e:Operand->Option V)(H:List Blk)(K:V->Prop):Prop where out:∃v,OpV xg o e H v/\K v
structure zv8 (f:FuncId)(xs:List D)(K:D->Prop):Prop where out:∃y,Pure xg f xs y/\K y
structure DynP (F:D)(xs:List D)(K:D->Prop):Prop where out:∃y,Dyn xg F xs y/\K y
theorem wk.oL {d}(g:(o.guard,o.dst,xA d C.n)=(Y,O d,U))(k:p->OpP o (ev T) H λv=>TriL xg C ops rest Q ⟨(d,v)::T,H⟩):p->TriL xg C ops (o::rest) Q ⟨T,H⟩:=λb=>by simp only[yg]at g;obtain⟨v,c,a⟩:=(k b).out;refine .op g.1 (by rw[g.2.1];exact g.2.2) c ?_;rw[g.2.1];exact a
theorem wk.oQ {d}(g:(gOK ops T o.guard,o.dst,xA d N,zap o)=(U,O d,U,M))(k:p->OpP o (ev T) H λv=>TriQ xg N ops H rest al ((d,v)::T) K):p->TriQ xg N ops H (o::rest) al T K:=λa=>by
 obtain⟨v,c,b⟩:=(k a).out;grind[zrg]
section
variable{e:Operand->Option V}{G:V->Prop}{q i z:Operand}{t u kk:Nat}
theorem wk.oe {α:Type}{j}{xs:List α}{enc}(g:(o.op,e q,tX t)=(.call {callee:=.builtin .len,args:=#[q],argTypes:=#[t]},O<|.d<|.sl j<|xs.map enc,O kk))(k:p->G (.d<|.int xs.length)):p->OpP o e H G:=λb=>by simp only[yg]at g;obtain⟨c,a,_⟩:=zya g.2.2;exact⟨_,.len g.1 a g.2.1,k b⟩
theorem wk.oev {α:Type}{b n kk' el:Nat}{xs:List α}{enc}(g:(o.op,e q,H[b]?,tX t)=(.call {callee:=.builtin .len,args:=#[q],argTypes:=#[t]},O<|.vec b n,O<|.vec el kk'<|xs.map enc,O kk))(k:p->G (.d<|.int xs.length))(hn:n=xs.length:=by exact lnS):p->OpP o e H G:=λc=>by simp only[yg]at g;obtain⟨el,a,_⟩:=zya g.2.2.2;exact⟨_,.lenV g.1 a g.2.1 g.2.2.1 hn,k c⟩
theorem wk.ox {α}{xs}{enc}{a}{f:α->Option R}(g:(o.op,e q,e i,tX t)=(.indexAddr t q i,O<|.d<|.sl kk<|xs.map enc,O<|.d<|.int a,O kk))(k:∀v,f v=O r->G (.d<|.ref<|enc v)):(idx xs a).bind f=O r->OpP o e H G:=λh=>by simp only[yg]at g;obtain⟨v,c,j⟩:=zv0 h;obtain⟨m,l,b⟩:=zya g.2.2.2;exact⟨_,.idx g.1 g.2.1 g.2.2.1 l b c,k v j⟩
theorem wk.oxg {α}[Inhabited α]{xs}{enc:α->D}{a}(g:(o.op,e q,e i,tX t)=(.indexAddr t q i,O<|.d<|.sl kk<|xs.map enc,O<|.d<|.int a,O kk))(hv:p->(idx xs a).isSome=U)(k:p->G (.d<|.ref<|enc<|(idx xs a).getD J)):p->OpP o e H G:=λb=>by simp only[yg]at g;obtain⟨h,f,c⟩:=zya g.2.2.2;exact⟨_,.idx g.1 g.2.1 g.2.2.1 f c<|zwh<|hv b,k b⟩
theorem wk.oxv {α}{b n el:Nat}{xs}{enc}{a}{f:α->Option R}(g:(o.op,e q,H[b]?,e i,tX t)=(.indexAddr t q i,O<|.vec b n,O<|.vec el kk<|xs.map enc,O<|.d<|.int a,O kk))(k:∀v,idx xs a=O v->f v=O r->G (.el b n a.toNat 0))(hn:n=xs.length:=by exact lnS):(idx xs a).bind f=O r->OpP o e H G:=λh=>by simp only[yg]at g;obtain⟨v,c,l⟩:=zv0 h;obtain⟨m,p,j⟩:=zya g.2.2.2.2;exact⟨_,.idxV g.1 g.2.1 g.2.2.1 hn g.2.2.2.1 p j c,k v c l⟩
theorem wk.ole {α}{b n el:Nat}{xs}{enc}{a}{v:α}{y}(g:(o.op,e q,H[b]?,tS t)=(.load t q,O<|.el b n a.toNat 0,O<|.vec el kk<|xs.map enc,O y))(hv:idx xs a=O v)(hk:zgl (enc v) y=U)(k:p->G (.d<|enc v))(hn:n=xs.length:=by exact lnS):p->OpP o e H G:=λc=>by simp only[yg]at g;exact⟨_,.loadEl g.1 g.2.1 g.2.2.1 hn hv (Tab.sh _ _ g.2.2.2)<|zf1 hk,k c⟩
theorem wk.oqu {a b}{f}(g:(o.op,e q,e z)=(.binOp .quo t q z u,O<|.d<|.int a,O<|.d<|.int b))(k:∀v,f v=O r->G (.d<|.int v)):(zwx a b).bind f=O r->OpP o e H G:=λh=>by simp only[yg]at g;obtain⟨v,i,c⟩:=zv0 h;exact⟨_,.quo6 g.1 g.2.1 g.2.2 i,k v c⟩
theorem wk.ore {a b}{f}(g:(o.op,e q,e z)=(.binOp .rem t q z u,O<|.d<|.int a,O<|.d<|.int b))(k:∀v,f v=O r->G (.d<|.int v)):(zwy a b).bind f=O r->OpP o e H G:=λh=>by simp only[yg]at g;obtain⟨v,i,c⟩:=zv0 h;exact⟨_,.rem6 g.1 g.2.1 g.2.2 i,k v c⟩
theorem wk.osi {l}{a}{f}(g:(o.op,e q,e i,tSt t)=(.index t q i,O<|.d<|.str l,O<|.d<|.int a,U))(k:∀v,f v=O r->G (.d<|.val<|.int .u8 v)):(sidx l a).bind f=O r->OpP o e H G:=λh=>by simp only[yg]at g;obtain⟨v,c,b⟩:=zv0 h;exact⟨_,.sidx g.1 g.2.1 g.2.2.1 (zld g.2.2.2) c,k v b⟩
theorem wk.osig {l}{a}(g:(o.op,e q,e i,tSt t)=(.index t q i,O<|.d<|.str l,O<|.d<|.int a,U))(hv:p->(sidx l a).isSome=U)(k:p->G (.d<|.val<|.int .u8<|(sidx l a).getD J)):p->OpP o e H G:=λb=>by simp only[yg]at g;exact⟨_,.sidx g.1 g.2.1 g.2.2.1 (zld g.2.2.2)<|zwh<|hv b,k b⟩
theorem wk.ocl {l}{a}{f}(g:(o.op,e q,e i,tSt t)=(.slice t q (O i) Y Y,O<|.d<|.str l,O<|.d<|.int a,U))(k:∀v,f v=O r->G (.d<|.str v)):(cut l a (l.length:Int)).bind f=O r->OpP o e H G:=λh=>by simp only[yg]at g;obtain⟨v,c,b⟩:=zv0 h;exact⟨_,.zyH g.1 g.2.1 g.2.2.1 (zld g.2.2.2) c,k v b⟩
theorem wk.ochg {l}{a}(g:(o.op,e q,e i,tSt t)=(.slice t q Y (O i) Y,O<|.d<|.str l,O<|.d<|.int a,U))(hv:p->(cut l 0 a).isSome=U)(k:p->G (.d<|.str<|(cut l 0 a).getD J)):p->OpP o e H G:=λb=>by simp only[yg]at g;exact⟨_,.zzV g.1 g.2.1 g.2.2.1 (zld g.2.2.2)<|zwh<|hv b,k b⟩
theorem wk.ons (g:(o.op,tX o.type)=(.assign<|.const<|.slice Y 0 0,O kk))(k:p->G (.d<|.sl kk [])):p->OpP o e H G:=λa=>by simp only[yg]at g;exact⟨_,.nilS (α:=D) kk id g.1,k a⟩
def zfB:List Operand->List TypeId->List D->List D
 |.const (.slice Y 0 0)::xs,t::ts,d::ds=>(match d with
  |.val<|.slice Y 0 0=>match tX t with
   |some k=>.sl k []|none=>d
  |_=>d)::zfB xs ts ds|_::xs,_::ts,d::ds=>d::zfB xs ts ds|_,_,ds=>ds
theorem zhQ:∀(xs)(ts)(ds),D.Les ds<|zfB xs ts ds
 |[],_,ds=>by grind[zfB,lesR]|x::xs,[],ds=>by grind[zfB,lesR]|x::xs,t::ts,[]=>by unfold zfB;split<;>first|exact .nil|simp_all
 |x::xs,t::ts,d::ds=>by
  unfold zfB;split
  ·rename_i b c a;cases a;refine .cons ?_<|zhQ _ _ _;split
   ·split;·exact .nil _
    ·exact .refl _
   ·exact .refl _
  ·rename_i b c a;cases a;exact .cons (.refl _)<|zhQ _ _ _
  grind
theorem wk.ocall {f:FuncId}{args}{tys}{xs xs'}(g:(o.op,memN tCl f,evs e args.toList)=(.call {callee:=.value<|.func f,args:=args,argTypes:=tys},U,O xs))(g2:zfB args.toList tys.toList xs=xs')(k:p->zv8 f xs' λd=>G<|.d d):p->OpP o e H G:=λb=>by simp only[yg]at g;obtain⟨y,c,a⟩:=(k b).out;subst g2;exact⟨_,.callLe g.1 (zwe g.2.1) g.2.2 (zhQ _ _ _) c,a⟩
theorem wk.ocallB {f:FuncId}{args}{tys}{xs}(g:(o.op,memN tCl f)=(.call {callee:=.value<|.func f,args:=args,argTypes:=tys},U))(hl:Lent e H args.toList xs)(k:p->zv8 f xs λd=>d.scal=U/\G (.d d)):p->OpP o e H G:=λb=>by simp only[yg]at g;obtain⟨y,c,h,a⟩:=(k b).out;exact⟨_,.callB g.1 (zwe g.2) hl h c,a⟩
theorem wk.odyn {args}{tys}{F}{xs}(g:(o.op,e q,evs e args.toList)=(.call {callee:=.value q,args:=args,argTypes:=tys},O<|.d F,O xs))(k:p->DynP F xs λd=>G<|.d d):p->OpP o e H G:=λb=>by simp only[yg]at g;obtain⟨y,c,a⟩:=(k b).out;exact⟨_,.dyn g.1 g.2.1 g.2.2 c,a⟩
end
class EqS (t:Nat){α:outParam Type}(enc:outParam<|α->D)(de:outParam<|DecidableEq α):Prop where ok:∃ls,zwU xg t ls/\∃vals:α->List Value,(∀x,enc x=zh4 (vals x))/\(∀x,za5 ls (vals x)=U)/\∀x y,eqVs (vals x) (vals y)=@Z (x=y) (de x y)
theorem wk.osq {α}{enc}{de}{e}{G}{q z}{t u:Nat}{a b:α}[hE:EqS t enc de](g:(o.op,e q,e z)=(.binOp .eql t q z u,O<|.d<|enc a,O<|.d<|enc b))(k:p->G (.d<|.bool<|@Z (a=b)<|de a b)):p->OpP o e H G:=λj=>by simp only[yg]at g;obtain⟨l,i,vals,f,c,h⟩:=hE.ok;exact⟨_,.seql g.1 i g.2.1 g.2.2 (f a) (f b) (c a) (c b)<|h a b,k j⟩
theorem wk.osn {α}{enc}{de}{e}{G}{q z}{t u:Nat}{a b:α}[hE:EqS t enc de](g:(o.op,e q,e z)=(.binOp .neq t q z u,O<|.d<|enc a,O<|.d<|enc b))(k:p->G (.d<|.bool<|!@Z (a=b) (de a b))):p->OpP o e H G:=λj=>by simp only[yg]at g;obtain⟨l,i,vals,f,c,h⟩:=hE.ok;exact⟨_,.sneq g.1 i g.2.1 g.2.2 (f a) (f b) (c a) (c b)<|h a b,k j⟩
class HS (t:Nat):Prop where mk::
theorem wk.tnv {j el kk b}[HS j](g:(o.guard,o.op,o.dst,xA j C.n,tE o.type)=(Y,.assign<|.const<|.slice Y 0 0,O j,U,O (el,kk,b)))(k:p->TriL xg C ops rest Q ⟨(j,.vec H.length 0)::(j,.d<|.val<|.slice Y 0 0)::T,H++[.vec el kk []]⟩):p->TriL xg C ops (o::rest) Q ⟨T,H⟩:=λf=>by simp only[yg]at g;obtain⟨e,c,a,h,i⟩:=g;refine .op e (by rw[a];exact h) (.assign c rfl) ?_;rw[a];exact .zxP j kk el (by simp[look])<|k f
theorem wk.tbv {t len j el kk b:Nat}{parts}[HS j](g:(o.guard,o.op,o.dst,xA j C.n,tE t,zps parts.toList,vf len 0)=(Y,.buildSlice t len parts,O j,U,O (el,kk,b),U,U))(k:p->TriL xg C ops rest Q ⟨(j,.vec H.length 0)::T,H++[.vec el kk []]⟩):p->TriL xg C ops (o::rest) Q ⟨T,H⟩:=λc=>by simp only[yg]at g;obtain⟨e,f,h,i,l,m,n⟩:=g;have q:=arr0 m;have a:=wU n;subst q a;exact .zyb (α:={d:D//d.kOK kk=U}) (enc:=λx=>x.1) [] e f h i rfl (zzJ l) rfl (λx=>x.2) (by simp)<|k c
theorem wk.tmk {t j el kk b}{x y}{α}{enc}{m}{z}{d}{f:List α->Option R}(g:(o.guard,o.op,o.dst,xA j C.n,tE t,xA 0 b,ev T x,ev T y,tZd el)=(Y,.makeSlice t x y,O j,U,O (el,kk,b),U,O<|.d<|.int m,O<|.d<|.int m,O d))(k:∀v,f v=O r->TriL xg C ops rest Q ⟨(j,.vec H.length v.length)::T,H++[.vec el kk<|v.map enc]⟩)(hd:d=enc z):(mkl b m z).bind f=O r->TriL xg C ops (o::rest) Q ⟨T,H⟩:=λh=>by simp only[yg]at g;obtain⟨c,e,i,l,n,p,q,s,u⟩:=g;obtain⟨v,w,a⟩:=zv0 h;exact .zxX c e i l (zzJ n) p q s (hd▸zp0 u) w<|k v a
class HB (r:Nat)(js:outParam<|List Nat):Prop where mk::
class HN (d:Nat)(js:outParam<|List Nat):Prop where mk::
class HC (n:Nat)(j c k el:outParam Nat):Prop where mk::
theorem wk.alN {t j}{d}{js}[HB j js](g:(o.guard,o.op,o.dst,xA j C.n,tZd t)=(Y,.alloc t,O j,U,O d))(k:p->TriL xg C ops rest Q ⟨(j,.loc H.length 0)::T,H++[.box t<|V.zvR<|.d<|nilAt js d]⟩)(g6:(nilAt js d).ones=true:=by exact rfl):p->TriL xg C ops (o::rest) Q ⟨T,H⟩:=λb=>by simp only[yg]at g;obtain⟨c,e,f,h,a⟩:=g;exact .zwB c e f h (zsn js a) g6<|k b
theorem wk.tnc (n){j c k el t:Nat}{cs}[HC n j c k el](g:(H[j]?,cs[c]?)=(O<|.box t cs,O<|.d<|.val<|.slice Y 0 0))(kk:p->TriL xg C ops l Q ⟨T,(H++[Blk.vec el k []]).set j<|.box t<|cs.set c<|.vec H.length 0⟩):p->TriL xg C ops l Q ⟨T,H⟩:=λa=>by simp only[yg]at g;exact .zxt j c k el g.1 g.2<|kk a
theorem wk.blN {t d:Nat}{parts}{v}{js}[HN d js](g:(o.guard,o.op,o.dst,xA d C.n)=(Y,.build t parts,O d,U))(k:p->TriL xg C ops rest Q ⟨(d,v)::T,H⟩)(g5:wBldN (ev T) js t parts=O v:=by exact rfl):p->TriL xg C ops (o::rest) Q ⟨T,H⟩:=λf=>by simp only[yg]at g;obtain⟨c,e,a,b⟩:=g;refine .op c (by rw[a];exact b) (zti e g5) ?_;rw[a];exact k f
theorem wk.obl {e}{G}{t:Nat}{parts}{v}(g:(o.op,wBld e t parts)=(.build t parts,O v))(k:p->G v):p->OpP o e H G:=λa=>by simp only[yg]at g;exact⟨_,zst g.1 g.2,k a⟩
theorem zoM:∀{l}{x},x∈l->memN l x=U
 |[],_,h=>by grind|k::l,x,h=>by
  unfold memN;split;·rfl
  ·rcases yE.1 h with e|h;·simp_all
   ·exact zoM h
def dedT:List Nat->List (Nat×V)->List (Nat×V)
 |us,(t,v)::T=>match memN us t with
  |true=>dedT us T|false=>(t,v)::dedT (t::us) T
 |_,[]=>[]
theorem zmm:∀(T)(us)(t)(v),look t (dedT us T)=O v->look t T=O v/\t∉us
 |[],us,t,v,h=>by grind[dedT,look]|(u,x)::T,us,t,v,h=>by
  unfold dedT at h;split at h
  ·obtain⟨b,a⟩:=zmm T us t v h;grind[look,ziq]
  ·rw[look]at h|-;split at h
   ·rename_i e;subst e;grind[zoM]
   ·rename_i e;obtain⟨b,a⟩:=zmm T (u::us) t v h;simp_all
theorem TriL.ded (k:TriL xg C ops l Q ⟨dedT [] T,H⟩):TriL xg C ops l Q ⟨T,H⟩:=⟨λc a w b=>k.run c a w<|R.weaken b λt v h=>(zmm T [] t v h).1⟩
def relT (i m:Nat):List (Nat×V)->List (Nat×V)|(t,.vec j n)::T=>(t,.vec j<|match vf i j with|true=>m|false=>n)::relT i m T|q::T=>q::relT i m T|[]=>[]
def zy0 (i m:Nat):List (Nat×V)->Prop|(_,.vec j n)::T=>(match vf i j with|true=>n=m|false=>True)/\zy0 i m T|_::T=>zy0 i m T|[]=>True
theorem zmW {i m}:∀{T},zy0 i m T->relT i m T=T
 |[],_=>rfl|(t,v)::T,h=>by
  cases v<;>simp only[relT,zy0]at h|-;case vec j n=>
   rw[zmW h.2];grind
  all_goals rw[zmW h]
def lens (i:Nat):List (Nat×V)->List Nat
 |(_,.vec j n)::T=>match vf i j with
  |true=>n::lens i T|false=>lens i T
 |_::T=>lens i T|[]=>[]
theorem zkG {i m}:∀{T},lens i T=(lens i T).map (λ_=>m)->zy0 i m T
 |[],_=>trivial|(t,v)::T,h=>by
  cases v<;>simp only[lens,zy0]at h|-;case vec j n=>cases a:vf i j with|true=>rw[a]at h;simp only[yU,wI]at h;exact⟨h.1,zkG h.2⟩|false=>rw[a]at h;exact⟨trivial,zkG h⟩
  all_goals exact zkG h
theorem zsR {i m m'}(e:m=m'){T}(h:zy0 i m T):zy0 i m' T:=e▸h
theorem wk.tst {t i n kk el:Nat}{q z}{α}{enc}{xs}{a}{y}{f:List α->Option R}{T1}(g:(o.guard,o.op,o.dst,ev T q,H[i]?,ev T z,tC t)=(Y,.store t q z,Y,O<|.el i n a.toNat 0,O<|.vec el kk<|xs.map enc,O<|.d<|enc y,O kk))(hk:(enc y).kOK kk=U)(h1:(enc y).ones=U)(hT:dedT [] T=T1)(k:∀v,f v=O r->TriL xg C ops rest Q ⟨relT i v.length T1,H.set i<|.vec el kk<|v.map enc⟩)(hn:n=xs.length:=by exact rfl)(he:lens i T1=(lens i T1).map λ_=>xs.length:=by exact rfl):(sto xs a y).bind f=O r->TriL xg C ops (o::rest) Q ⟨T,H⟩:=λh=>by simp only[yg]at g;obtain⟨e,u,j,l,m,p,s⟩:=g;obtain⟨v,c,b⟩:=zv0 h;have:=k v b;rw[zmW<|zsR (zcp c)<|zkG he,<-hT]at this;refine .zwQ e u j l m hn p hk h1 (zog s) c<|.ded this
theorem wk.so {q z}{t i off n}{bt}{cs}{e}(g:(o.guard,o.op,o.dst,ev T q,nthD H i,ev T z,e.ones,tC t,(V.zvR<|.d e).length,xQ (off+n) cs.length)=(Y,.store t q z,Y,O<|.loc i off,O<|.box bt cs,O<|.d e,U,O n,n,U))(k:p->TriL xg C ops rest Q ⟨T,H.set i<|.box bt<|cs.take off++V.zvR (.d e)++cs.drop (off+n)⟩):p->TriL xg C ops (o::rest) Q ⟨T,H⟩:=λa=>.so g<|k a
theorem wk.aq (k:p->TriL xg C ops l Q ⟨T,H⟩):p->TriL xg C ops l Q (zlC xg H [] T):=λa=>by grind[zlC,zxc,zw6,zhJ]
theorem wk.aS {o1 o2:Oper}{z}{t j}{q}{e}(g:(o1.guard,o2.guard,o1.op,o1.dst,o2.op,o2.dst,xA j C.n,ev T q,neT q j,tZ t,zgl e z,e.ones)=(Y,Y,.alloc t,O j,.store t (.tmp j) q,Y,U,O<|.d e,U,O z,U,U))(k:p->TriL xg C ops rest Q ⟨(j,.d<|.ref e)::T,H⟩):p->TriL xg C ops (o1::o2::rest) Q ⟨T,H⟩:=λa=>.aS g<|k a
theorem wk.alo {t j}{d}(g:(o.guard,o.op,o.dst,xA j C.n,tZd t,d.ones)=(Y,.alloc t,O j,U,O d,U))(k:p->TriL xg C ops rest Q ⟨(j,.loc H.length 0)::T,H++[.box t<|V.zvR<|.d d]⟩):p->TriL xg C ops (o::rest) Q ⟨T,H⟩:=λb=>by simp only[yg]at g;obtain⟨c,e,f,h,i,a⟩:=g;exact .zwB c e f h (zp0 i) a<|k b
theorem wk.app {α}{q z}{t el i n kk b j}{enc}{xs ys}{f:List α->Option R}(g:(o.guard,o.op,o.dst,xA j C.n,ev T q,H[i]?,ev T z,tE t,xA 0 b)=(Y,.call {callee:=.builtin .append,args:=#[q,z],argTypes:=#[t,t]},O j,U,O<|.vec i n,O<|.vec el kk<|xs.map enc,O<|.d<|.sl kk<|ys.map enc,O (el,kk,b),U))(k:∀zs,f zs=O r->TriL xg C ops rest Q ⟨(j,.vec i zs.length)::T,H.set i<|.vec el kk<|zs.map enc⟩)(hn:n=xs.length:=by exact rfl)(ho:∀z,(enc z).ones=true:=by exactλ_=>rfl):(Go.Proofs.YtipkniadbkndfaaGreatDoor.app b xs ys).bind f=O r->TriL xg C ops (o::rest) Q ⟨T,H⟩:=λh=>by simp only[yg]at g;obtain⟨c,e,l,m,p,s,u,w,x⟩:=g;obtain⟨v,y,a⟩:=zv0 h;exact .app c e l m p s hn u (zzJ w) x ho y<|k v a
theorem wk.QW (h:zr5 N H ops l T=O (rest,T'))(k:p->TriQ xg N ops H rest al T' K):p->TriQ xg N ops H l al T K:=λa=>zr6 (k a) h
theorem wk.Qn (k:p->K al T):p->TriQ xg N ops H [] al T K:=λa=>.nil<|k a
theorem wk.Qal {t d}{z}(g:(o.guard,o.op,o.dst,xA d N,tZd t)=(Y,.alloc t,O d,U,O z))(k:p->TriQ xg N ops H rest (al++[(d,t,Y)]) ((d,.junk)::T) K):p->TriQ xg N ops H (o::rest) al T K:=λb=>by simp only[yg]at g;obtain⟨c,e,a,f,h⟩:=g;obtain⟨v,i,_⟩:=(zp0 h).out;exact .alloc c e a f (by simp_all)<|k b
theorem wk.Qst {t d:Nat}{q}{e}{z}(g:(o.guard,o.op,o.dst,ev T q,e.ones,tZ t,zgl e z)=(Y,.store t (.tmp d) q,Y,O<|.d e,U,O z,U))(k:p->TriQ xg N ops H rest (al++[(d,t,O e)]) T K):p->TriQ xg N ops H (o::rest) al T K:=λb=>by simp only[yg]at g;obtain⟨c,f,h,i,j,l,a⟩:=g;exact .store c f h i j (zf1 a) (tZ_ok l)<|k b
def zpK (g:Nat):List Oper->Nat->Option Nat
 |o::l,n=>match o.op with
  |.pick (.tmp t) _ _=>match vf t g with
   |true=>O n|false=>zpK g l<|n+1
  |_=>zpK g l<|n+1
 |[],_=>Y
def ztt (ops:Array Oper):List Oper->Option Nat
 |o::_=>match o.guard with
  |some (j,_)=>ops[j]?.bind (·.dst)|none=>Y
 |[]=>Y
def runsB (ops:Array Oper)(T:List<|Nat×V)(ds:List Nat):Option (Nat×Bool)->Bool|none=>U|some (j,w)=>match ops[j]?.bind (·.dst)with
  |some g=>match memN ds g with
   |true=>M|false=>match look g T with
    |some<|.d<|.val<|.bool b=>zzm b w|_=>M
  |none=>M
theorem zpU {ds}{q}(h:runsB ops T ds q.guard=U):Runs ops q T/\∀j w g',q.guard=O (j,w)->ops[j]?.bind (·.dst)=O g'->g'∉ds:=by cases a:q.guard with
 |none=>exact⟨.inl a,λj w g' e=>by cases e⟩|some p=>
  rw[a]at h;simp only[runsB]at h;split at h
  ·rename_i g c;split at h;·cases h
   ·split at h;·have e:=zkb h;subst e;refine⟨.inr ⟨_,_,_,a,c,‹look _ _=_›⟩,λd f g' e i b=>?_⟩;grind[zoM]
    grind
  grind
def Und (q g:Prop):Prop:=q->g
theorem wk.und {q g}(k:p->q->g):p->Und q g:=k
theorem wk.no {g:Prop}:(Y:Option R)=O r->g:=λh=>by cases h
theorem wk.jA {g m d}{q}{z:Nat}{bo b2}(h:((ztt ops l).bind λg=>(zpK g l 0).bind λm=>cutN m l λa b=>O (g,m,a,b))=O (g,m,l1,q::l2))(h':(q.op,look g T,zfu ops N g U l1 [],runsB ops T (dsts l1) q.guard,q.dst,xA d N)=(.pick (.tmp g) (.tmp z)<|.const<|.bool M,O<|.d<|.bool bo,U,U,O d,U))(h1:p->Und (bo=U) (TriQ xg N ops H l1 al ((g,.d<|.bool U)::T) λ_ T'=>look z T'=O (.d<|.bool b2)))(h2:p->TriQ xg N ops H l2 al ((d,.d<|.bool<|bo&&b2)::zx5 (dsts l1) T) K):p->TriQ xg N ops H l al T K:=λc=>by simp only[yg]at h';obtain⟨i,j,k,n,o,r⟩:=h';rw[vG]at h;obtain⟨u,_,h⟩:=h;rw[vG]at h;obtain⟨s,_,h⟩:=h;rw[zi1]at h;simp only[yp,yg]at h;obtain⟨rfl,rfl,rfl,e⟩:=h;obtain⟨t,f⟩:=zpU n;exact .jAnd s e i j k t f o r (h1 c)<|h2 c
theorem wk.jO {g m d}{q}{z:Nat}{bo b2}(h:((ztt ops l).bind λg=>(zpK g l 0).bind λm=>cutN m l λa b=>O (g,m,a,b))=O (g,m,l1,q::l2))(h':(q.op,look g T,zfu ops N g M l1 [],runsB ops T (dsts l1) q.guard,q.dst,xA d N)=(.pick (.tmp g) (.const<|.bool U)<|.tmp z,O<|.d<|.bool bo,U,U,O d,U))(h1:p->Und (bo=M) (TriQ xg N ops H l1 al ((g,.d<|.bool M)::T) λ_ T'=>look z T'=O (.d<|.bool b2)))(h2:p->TriQ xg N ops H l2 al ((d,.d<|.bool<|bo||b2)::zx5 (dsts l1) T) K):p->TriQ xg N ops H l al T K:=λc=>by simp only[yg]at h';obtain⟨i,j,k,n,o,r⟩:=h';rw[vG]at h;obtain⟨u,_,h⟩:=h;rw[vG]at h;obtain⟨s,_,h⟩:=h;rw[zi1]at h;simp only[yp,yg]at h;obtain⟨rfl,rfl,rfl,e⟩:=h;obtain⟨t,f⟩:=zpU n;exact .jOr s e i j k t f o r (h1 c)<|h2 c
theorem wk.fin {z}{b}(h:look z T=O (.d<|.bool b)):p->look z T=O (.d<|.bool b):=λ_=>h
theorem wk.rO {P}{t:Tmp}{e}{enc:R->D}(hl:look t s.T=O (.d<|enc e)):O e=O r->retQ P #[.tmp t] (enc r) .ret s:=λh=>Go.Proofs.YtipkniadbkndfaaGreatDoor.rO h hl
theorem wk.sc {A B}(h:A)(k:p->B):p->A/\B:=λa=>⟨h,k a⟩
theorem wk.rC {ty:TypeId}{t i T0:Nat}{cs}{ds}(g:(look t s.T,s.H[i]?,tS ty)=(O<|.loc i 0,O<|.box T0 cs,O<|O ds.length))(hf:Frzs s.H cs ds):retQ xg #[.cell t ty] (.agg ds) .ret s:=by simp only[yg]at g;exact zrV g.1 g.2.1 (Tab.sh _ _ g.2.2) hf
theorem wk.rCT {ty:TypeId}{t i u T0:Nat}{cs}{ds}{y}{v}(g:(look t s.T,s.H[i]?,tS ty,look u s.T)=(O<|.loc i 0,O<|.box T0 cs,O<|O ds.length,O v))(hf:Frzs s.H cs ds)(f2:Frz s.H v y):retQ xg #[.cell t ty,.tmp u] (.tup [.agg ds,y]) .ret s:=by simp only[yg]at g;exact zeW g.1 g.2.1 (Tab.sh _ _ g.2.2.1) hf g.2.2.2 f2
end
end
section
set_option maxRecDepth 100000
variable[Drw]
abbrev slE {α:Type}(k:Nat)(f:α->D)(l:List α):D:=.sl k<|l.map f
class Kd0 {γ:outParam Type}(i:FuncId)(f:outParam<|Nat->Option γ)(e:outParam<|γ->D):Prop where ok:∀n r,f n=O r->Pure xg i [] (e r)
class Kd1 {α γ:outParam Type}(i:FuncId)(f:outParam<|Nat->α->Option γ)(a:outParam<|α->D)(e:outParam<|γ->D):Prop where ok:∀n t0 r,f n t0=O r->Pure xg i [a t0] (e r)
class Kd2 {α β γ:outParam Type}(i:FuncId)(f:outParam<|Nat->α->β->Option γ)(a:outParam<|α->D)(b:outParam<|β->D)(e:outParam<|γ->D):Prop where ok:∀n t0 t1 r,f n t0 t1=O r->Pure xg i [a t0,b t1] (e r)
class Kd3 {α β δ γ:outParam Type}(i:FuncId)(f:outParam<|Nat->α->β->δ->Option γ)(a:outParam<|α->D)(b:outParam<|β->D)(c:outParam<|δ->D)(e:outParam<|γ->D):Prop where ok:∀n t0 t1 t2 r,f n t0 t1 t2=O r->Pure xg i [a t0,b t1,c t2] (e r)
class Kd4 {α β δ ε γ:outParam Type}(i:FuncId)(f:outParam<|Nat->α->β->δ->ε->Option γ)(a:outParam<|α->D)(b:outParam<|β->D)(c:outParam<|δ->D)(d:outParam<|ε->D)(e:outParam<|γ->D):Prop where ok:∀n t0 t1 t2 t3 r,f n t0 t1 t2 t3=O r->Pure xg i [a t0,b t1,c t2,d t3] (e r)
class Kd5 {α β δ ε ζ γ:outParam Type}(i:FuncId)(f:outParam<|Nat->α->β->δ->ε->ζ->Option γ)(a:outParam<|α->D)(b:outParam<|β->D)(c:outParam<|δ->D)(d:outParam<|ε->D)(q:outParam<|ζ->D)(e:outParam<|γ->D):Prop where ok:∀n t0 t1 t2 t3 t4 r,f n t0 t1 t2 t3 t4=O r->Pure xg i [a t0,b t1,c t2,d t3,q t4] (e r)
abbrev Fn1 {α γ:Type}(a:α->D)(e:γ->D)(f:α->Option γ)(F:D):Prop:=∀q y,f q=O y->Dyn xg F [a q] (e y)
class Kf2 {α β δ γ:outParam Type}(i:FuncId)(f:outParam<|Nat->α->(β->Option δ)->Option γ)(a:outParam<|α->D)(b:outParam<|β->D)(d:outParam<|δ->D)(e:outParam<|γ->D):Prop where ok:∀n t0 t1 F,Fn1 b d t1 F->∀r,f n t0 t1=O r->Pure xg i [a t0,F] (e r)
instance cf1 {γ}{i}{f}{e:γ->D}:CoeFun (Kd0 i f e) λ_=>∀n r,f n=O r->Pure xg i [] (e r):=⟨λk=>k.ok⟩
instance cf2 {α γ}{i}{f}{a:α->D}{e:γ->D}:CoeFun (Kd1 i f a e) λ_=>∀n t0 r,f n t0=O r->Pure xg i [a t0] (e r):=⟨λk=>k.ok⟩
instance cf3 {α β γ}{i}{f}{a:α->D}{b:β->D}{e:γ->D}:CoeFun (Kd2 i f a b e) λ_=>∀n t0 t1 r,f n t0 t1=O r->Pure xg i [a t0,b t1] (e r):=⟨λk=>k.ok⟩
instance cf4 {α β δ γ}{i}{f}{a:α->D}{b:β->D}{c:δ->D}{e:γ->D}:CoeFun (Kd3 i f a b c e) λ_=>∀n t0 t1 t2 r,f n t0 t1 t2=O r->Pure xg i [a t0,b t1,c t2] (e r):=⟨λk=>k.ok⟩
instance cf5 {α β δ ε γ}{i}{f}{a:α->D}{b:β->D}{c:δ->D}{d:ε->D}{e:γ->D}:CoeFun (Kd4 i f a b c d e) λ_=>∀n t0 t1 t2 t3 r,f n t0 t1 t2 t3=O r->Pure xg i [a t0,b t1,c t2,d t3] (e r):=⟨λk=>k.ok⟩
instance cf6 {α β δ ε ζ γ}{i}{f}{a:α->D}{b:β->D}{c:δ->D}{d:ε->D}{q:ζ->D}{e:γ->D}:CoeFun (Kd5 i f a b c d q e) λ_=>∀n t0 t1 t2 t3 t4 r,f n t0 t1 t2 t3 t4=O r->Pure xg i [a t0,b t1,c t2,d t3,q t4] (e r):=⟨λk=>k.ok⟩
instance cf7 {α β δ γ}{i}{f}{a:α->D}{b:β->D}{d:δ->D}{e:γ->D}:CoeFun (Kf2 i f a b d e) λ_=>∀n t0 t1 F,Fn1 b d t1 F->∀r,f n t0 t1=O r->Pure xg i [a t0,F] (e r):=⟨λk=>k.ok⟩
section
variable{α β δ ε γ R:Type}{i:FuncId}{n:Nat}{xs:List D}{r:R}{K:D->Prop}{G:Prop}
theorem Kd0.c {f}{e}[k:Kd0 i f e]{kk:γ->Option R}(hx:xs=[])(c:∀v,kk v=O r->K (e v)):(f n).bind kk=O r->zv8 i xs K:=λh=>by obtain⟨v,b,a⟩:=zv0 h;exact⟨_,hx▸k.ok _ _ b,c v a⟩
theorem Kd1.c {f}{a e}[k:Kd1 i f a e]{x:α}{kk:γ->Option R}(hx:xs=[a x])(c:∀v,kk v=O r->K (e v)):(f n x).bind kk=O r->zv8 i xs K:=λh=>by obtain⟨v,d,b⟩:=zv0 h;exact⟨_,hx▸k.ok _ _ _ d,c v b⟩
theorem Kd2.c {f}{a b e}[k:Kd2 i f a b e]{x:α}{y:β}{kk:γ->Option R}(hx:xs=[a x,b y])(c:∀v,kk v=O r->K (e v)):(f n x y).bind kk=O r->zv8 i xs K:=λh=>by obtain⟨v,g,d⟩:=zv0 h;exact⟨_,hx▸k.ok _ _ _ _ g,c v d⟩
theorem Kd3.c {f}{a b c e}[k:Kd3 i f a b c e]{x:α}{y:β}{z:δ}{kk:γ->Option R}(hx:xs=[a x,b y,c z])(g:∀v,kk v=O r->K (e v)):(f n x y z).bind kk=O r->zv8 i xs K:=λh=>by obtain⟨v,j,d⟩:=zv0 h;exact⟨_,hx▸k.ok _ _ _ _ _ j,g v d⟩
theorem Kd4.c {f}{a b c d e}[k:Kd4 i f a b c d e]{x:α}{y:β}{z:δ}{u:ε}{kk:γ->Option R}(hx:xs=[a x,b y,c z,d u])(g:∀v,kk v=O r->K (e v)):(f n x y z u).bind kk=O r->zv8 i xs K:=λh=>by obtain⟨v,l,j⟩:=zv0 h;exact⟨_,hx▸k.ok _ _ _ _ _ _ l,g v j⟩
theorem Kf2.c {f}{a b d e}[k:Kf2 i f a b d e]{x:α}{y:β->Option δ}{F}{kk:γ->Option R}(hx:xs=[a x,F])(hf:Fn1 b d y F)(c:∀v,kk v=O r->K (e v)):(f n x y).bind kk=O r->zv8 i xs K:=λh=>by obtain⟨v,j,g⟩:=zv0 h;exact⟨_,hx▸k.ok _ _ _ _ hf _ j,c v g⟩
variable[Inhabited γ]
theorem Kd1.g {f:Nat->α->Option γ}{a e}[k:Kd1 i f a e]{x}(hv:G->(f n x).isSome=U)(hx:xs=[a x])(c:G->K (e<|(f n x).getD J)):G->zv8 i xs K:=λh=>⟨_,hx▸k.ok _ _ _ (zwh<|hv h),c h⟩
theorem Kd2.g {f:Nat->α->β->Option γ}{a b e}[k:Kd2 i f a b e]{x}{y}(hv:G->(f n x y).isSome=U)(hx:xs=[a x,b y])(c:G->K (e<|(f n x y).getD J)):G->zv8 i xs K:=λh=>⟨_,hx▸k.ok _ _ _ _ (zwh<|hv h),c h⟩
theorem Kd3.g {f:Nat->α->β->δ->Option γ}{a b c e}[k:Kd3 i f a b c e]{x}{y}{z}(hv:G->(f n x y z).isSome=U)(hx:xs=[a x,b y,c z])(g:G->K (e<|(f n x y z).getD J)):G->zv8 i xs K:=λh=>⟨_,hx▸k.ok _ _ _ _ _ (zwh<|hv h),g h⟩
theorem Kd4.g {f:Nat->α->β->δ->ε->Option γ}{a b c d e}[k:Kd4 i f a b c d e]{x}{y}{z}{u}(hv:G->(f n x y z u).isSome=U)(hx:xs=[a x,b y,c z,d u])(g:G->K (e<|(f n x y z u).getD J)):G->zv8 i xs K:=λh=>⟨_,hx▸k.ok _ _ _ _ _ _ (zwh<|hv h),g h⟩
theorem Kd1.gx {f:Nat->α->Option γ}{a e}[k:Kd1 i f a e]{x}(hx:xs=[a x])(hv:G->(f n x).isSome=U)(c:G->K (e<|(f n x).getD J)):G->zv8 i xs K:=Kd1.g hv hx c
theorem Kd2.gx {f:Nat->α->β->Option γ}{a b e}[k:Kd2 i f a b e]{x}{y}(hx:xs=[a x,b y])(hv:G->(f n x y).isSome=U)(c:G->K (e<|(f n x y).getD J)):G->zv8 i xs K:=Kd2.g hv hx c
theorem Kd3.gx {f:Nat->α->β->δ->Option γ}{a b c e}[k:Kd3 i f a b c e]{x}{y}{z}(hx:xs=[a x,b y,c z])(hv:G->(f n x y z).isSome=U)(g:G->K (e<|(f n x y z).getD J)):G->zv8 i xs K:=Kd3.g hv hx g
theorem Kf2.g {f:Nat->α->(β->Option δ)->Option γ}{a b d e}[k:Kf2 i f a b d e]{x}{y}{F}(hv:G->(f n x y).isSome=U)(hx:xs=[a x,F])(hf:Fn1 b d y F)(c:G->K (e<|(f n x y).getD J)):G->zv8 i xs K:=λh=>⟨_,hx▸k.ok _ _ _ _ hf _ (zwh<|hv h),c h⟩
end
section
variable{α β δ ε γ R:Type}{i:FuncId}{n:Nat}{xs:List D}{r:R}{K:D->Prop}{G:Prop}{cs:List D}{j:FuncId}
theorem fn1 {a}{e}{f:α->Option γ}(hc:memN tCl j=U)(h:∀q y,f q=O y->zv8 j (a q::cs) λd=>d=e y):Fn1 a e f<|.fn (.func j) [] cs:=λq y c=>by obtain⟨d,g,b⟩:=(h q y c).out;subst b;exact⟨_,_,rfl,zwe hc,g⟩
theorem Kd5.d {ζ}{f}{a b c d q e}[k:Kd5 i f a b c d q e]{x:α}{y:β}{z:δ}{u:ε}{w:ζ}{v:γ}(hx:xs=[a x,b y,c z,d u,q w]):f n x y z u w=O v->zv8 i xs λd=>d=e v:=λh=>⟨_,hx▸k.ok _ _ _ _ _ _ _ h,rfl⟩
theorem Kd1.d {f}{a e}[k:Kd1 i f a e]{x:α}{v:γ}(hx:xs=[a x]):f n x=O v->zv8 i xs λd=>d=e v:=λh=>⟨_,hx▸k.ok _ _ _ h,rfl⟩
theorem Kd2.d {f}{a b e}[k:Kd2 i f a b e]{x:α}{y:β}{v:γ}(hx:xs=[a x,b y]):f n x y=O v->zv8 i xs λd=>d=e v:=λh=>⟨_,hx▸k.ok _ _ _ _ h,rfl⟩
theorem Kd3.d {f}{a b c e}[k:Kd3 i f a b c e]{x:α}{y:β}{z:δ}{v:γ}(hx:xs=[a x,b y,c z]):f n x y z=O v->zv8 i xs λd=>d=e v:=λh=>⟨_,hx▸k.ok _ _ _ _ _ h,rfl⟩
end
def hid:Code->Option Nat
 |.region i _ _=>O i|.seq x y=>match hid x with
  |some i=>O i|none=>hid y
 |.cond _ x y=>match hid x with|some i=>O i|none=>hid y
 |.block _ c=>hid c|.loop c=>hid c|_=>Y
class HL (i:Nat){σ:outParam Type}(ks:outParam<|List Nat)(u:outParam<|σ->List (Nat×V))(f:outParam<|List Blk->σ->List (Nat×Blk)):Prop where mk::
class HJ (i:Nat){σ:outParam Type}(ks:outParam<|List Nat)(u:outParam<|σ->List (Nat×V))(f:outParam<|List Blk->σ->List (Nat×Blk)):Prop where mk::
class HK (i:Nat)(ks:outParam<|List Nat):Prop where mk::
def setL:List V->List (Nat×V)->List V|cs,[]=>cs|cs,(i,v)::l=>setL (cs.set i v) l
def bx (i:Nat)(l:List<|Nat×V)(H:List Blk):Nat×Blk:=(i,match nthD H i with|some<|.box t cs=>.box t<|setL cs l|_=>.dead)
def appK {β:Type}:List (Nat×V)->List (Nat×V)->(List (Nat×V)->β)->β|[],K,k=>k K|q::l,K,k=>appK l K λm=>k<|q::m
theorem zot {β}:∀(l K)(k:List (Nat×V)->β),appK l K k=k (l++K)|[],K,k=>rfl|q::l,K,k=>by rw[appK,zot l];rfl
section
variable{p:Prop}{C:Ctx}{Q:Exit->St->Prop}{s:St}{x y c:Code}{R:Type}{r:R}{i:Nat}{ks:List Nat}{K:List<|Nat×V}{σ:Type}
theorem wk.L {body}{n}{init}{u}{f}{T:σ->List (Nat×V)}{xf:σ->List Blk}{X}(hi:hid c=O i)[HL i ks u f](g1:zx8 ks s.T []=O K)(g2:(λv=>nfH (over s.H<|f s.H v) O)=λv=>O<|xf v)(g3:(λv=>appK (u v) K O)=λv=>O<|T v)(g:(s.H,(xf init).all<|vl (xf init).length,(T init).all λp=>p.2.under (xf init).length,lks (T init) s.T,xQ C.gn s.H.length)=(xf init++X,U,U,vls<|T init,U))(hb:∀(rec)(v),body rec v=O r->Tri xg C c (zxO rec r (λv=>⟨T v,xf v⟩) Q) ⟨T v,xf v⟩):zvt body n init=O r->Tri xg C (.loop c) Q s:=λh=>by
 have b:∀v,xf v=over s.H (f s.H v):=λv=>by
  have:=congrFun g2 v;grind[zkS]
 have d:∀v,T v=u v++K:=λv=>by
  have:=congrFun g3 v;grind[zot]
 have e:=funext b;have j:=funext d;subst e j;simp only[yg]at g;obtain⟨k,l,m,o,a⟩:=g;exact Tri.L ks h u (f s.H) (by simp only[yg];exact⟨g1,k,l,m,o,a⟩) hb
theorem wk.xf {k}{m}{u}{f}{T:σ->List (Nat×V)}{xf:σ->List Blk}(hi:hid y=O i)[HJ i ks u f](g1:zx8 ks s.T []=O K)(g2:(λv=>nfH (over s.H<|f s.H v) O)=λv=>O<|xf v)(g3:(λv=>appK (u v) K O)=λv=>O<|T v)(g:xQ C.gn s.H.length=U)(hm:∀k',m k'=O r->Tri xg C x (zxO k' r (λv=>⟨T v,xf v⟩) Q) s)(hk:∀v,k v=O r->Tri xg C y Q ⟨T v,xf v⟩):jn k m=O r->Tri xg C (.seq x y) Q s:=λh=>by
 have b:∀v,xf v=over s.H (f s.H v):=λv=>by
  have:=congrFun g2 v;grind[zkS]
 have c:∀v,T v=u v++K:=λv=>by
  have:=congrFun g3 v;grind[zot]
 have d:=funext b;have a:=funext c;subst d a;exact Tri.xf ks h u (f s.H) (by simp_all) hm hk
end
section
variable{α β δ ε γ R:Type}{r:R}{xs:List D}{K:D->Prop}{G:Prop}{i:FuncId}
theorem Fn1.c {a}{e}{f}{F}{x:α}{kk:γ->Option R}(hF:Fn1 a e f F)(hx:xs=[a x])(c:∀v,kk v=O r->K (e v)):(f x).bind kk=O r->DynP F xs K:=λh=>by obtain⟨v,d,b⟩:=zv0 h;exact⟨_,hx▸hF _ _ d,c v b⟩
theorem Fn1.g [Inhabited γ]{a}{e}{f:α->Option γ}{F}{x}(hF:Fn1 a e f F)(hv:G->(f x).isSome=U)(hx:xs=[a x])(c:G->K (e<|(f x).getD J)):G->DynP F xs K:=λh=>⟨_,hx▸hF _ _ (zwh<|hv h),c h⟩
class Ks1 {α γ:outParam Type}(i:FuncId)(f:outParam<|α->Option γ)(a:outParam<|α->D)(e:outParam<|γ->D):Prop where ok:∀t0 r,f t0=O r->Pure xg i [a t0] (e r)
class Ks2 {α β γ:outParam Type}(i:FuncId)(f:outParam<|α->β->Option γ)(a:outParam<|α->D)(b:outParam<|β->D)(e:outParam<|γ->D):Prop where ok:∀t0 t1 r,f t0 t1=O r->Pure xg i [a t0,b t1] (e r)
class Ks4 {α β δ ε γ:outParam Type}(i:FuncId)(f:outParam<|α->β->δ->ε->Option γ)(a:outParam<|α->D)(b:outParam<|β->D)(c:outParam<|δ->D)(d:outParam<|ε->D)(e:outParam<|γ->D):Prop where ok:∀t0 t1 t2 t3 r,f t0 t1 t2 t3=O r->Pure xg i [a t0,b t1,c t2,d t3] (e r)
theorem Ks2.c {f}{a b e}[k:Ks2 i f a b e]{x:α}{y:β}{kk:γ->Option R}(hx:xs=[a x,b y])(c:∀v,kk v=O r->K (e v)):(f x y).bind kk=O r->zv8 i xs K:=λh=>by obtain⟨v,g,d⟩:=zv0 h;exact⟨_,hx▸k.ok _ _ _ g,c v d⟩
end
section
variable{α β δ ε ζ γ:Type}{i:FuncId}{n:Nat}{xs:List D}{K:D->Prop}{G:Prop}
theorem Kd1.p {f}{a e}{r0:γ}[k:Kd1 i f a e]{x:α}(hx:xs=[a x])(hv:f n x=O r0)(c:G->K (e r0)):G->zv8 i xs K:=λh=>⟨_,hx▸k.ok _ _ _ hv,c h⟩
theorem Kd2.p {f}{a b e}{r0:γ}[k:Kd2 i f a b e]{x:α}{y:β}(hx:xs=[a x,b y])(hv:f n x y=O r0)(c:G->K (e r0)):G->zv8 i xs K:=λh=>⟨_,hx▸k.ok _ _ _ _ hv,c h⟩
theorem Kf2.cf {R:Type}{r}{f}{a b d e}[k:Kf2 i f a b d e]{x:α}{y:β->Option δ}{j}{cs}{kk:γ->Option R}(hx:xs=[a x,.fn (.func j) [] cs])(hc:memN tCl j=U)(hf:∀q v,y q=O v->zv8 j (b q::cs) λw=>w=d v)(c:∀v,kk v=O r->K (e v)):(f n x y).bind kk=O r->zv8 i xs K:=Kf2.c hx (fn1 hc hf) c
theorem Kf2.gf [Inhabited γ]{f:Nat->α->(β->Option δ)->Option γ}{a b d e}[k:Kf2 i f a b d e]{x}{y}{j}{cs}(hx:xs=[a x,.fn (.func j) [] cs])(hc:memN tCl j=U)(hv:G->(f n x y).isSome=U)(hf:∀q v,y q=O v->zv8 j (b q::cs) λw=>w=d v)(c:G->K (e<|(f n x y).getD J)):G->zv8 i xs K:=Kf2.g hv hx (fn1 hc hf) c
theorem dynF {j:FuncId}{cs}(hc:memN tCl j=U)(h:G->zv8 j (xs++cs) K):G->DynP (.fn (.func j) [] cs) xs K:=λb=>by obtain⟨y,c,a⟩:=(h b).out;exact⟨y,⟨_,_,rfl,zwe hc,c⟩,a⟩
end
theorem isS {p:Prop}{c}(h:p->c=true:=by first|exactλb=>impT (by assumption) b|exactλb=>impF (by assumption) b|exactλb=>impT (impT (by assumption)<|by assumption) b|exactλb=>impT (impF (by assumption)<|by assumption) b|exactλb=>impF (impT (by assumption)<|by assumption) b|exactλb=>impF (impF (by assumption)<|by assumption) b|exactλb=>impT (impT (impT (by assumption)<|by assumption)<|by assumption) b|exactλb=>impT (impT (impF (by assumption)<|by assumption)<|by assumption) b|exactλb=>impT (impF (impT (by assumption)<|by assumption)<|by assumption) b|exactλb=>impT (impF (impF (by assumption)<|by assumption)<|by assumption) b|exactλb=>impF (impT (impT (by assumption)<|by assumption)<|by assumption) b|exactλb=>impF (impT (impF (by assumption)<|by assumption)<|by assumption) b|exactλb=>impF (impF (impT (by assumption)<|by assumption)<|by assumption) b|exactλb=>impF (impF (impF (by assumption)<|by assumption)<|by assumption) b):p->c=true:=h
theorem all1 {γ:Type}{P:γ->Prop}(h:∀v,P v):∀v,P v:=h
end
section
set_option maxRecDepth 100000
variable[Drw]
section
variable{p:Prop}{o:Oper}{e:Operand->Option V}{H:List Blk}{G:V->Prop}{q i z:Operand}{t u kk:Nat}{R:Type}{r:R}
def intOp (op:BinOp)(k:IntKind)(a b:Int):Option Int:=match op with|.add=>O<|k.wrap<|a+b|.sub=>O<|k.wrap<|a-b|.mul=>O<|k.wrap<|a*b|.and=>O<|band k a b|.or=>O<|bor k a b|_=>Y
theorem wk.oin {op}{k}{a b c}(g:(o.op,e q,e z,intOp op k a b)=(.binOp op t q z u,O<|.d<|.val<|.int k a,O<|.d<|.val<|.int k b,O c))(hk:p->G (.d<|.val<|.int k c)):p->OpP o e H G:=λl=>by
 simp only[yg]at g;obtain⟨f,h,i,j⟩:=g;refine⟨_,?_,hk l⟩;unfold intOp at j;split at j<;>cases j;·exact .add f h i
 ·exact .sub f h i
 ·exact .mul f h i
 ·exact .band f h i
 ·exact .bor f h i
theorem wk.osh {k j}{a b}{f}(g:(o.op,e q,e z)=(.binOp .shr t q z u,O<|.d<|.val<|.int k a,O<|.d<|.val<|.int j b))(hk:∀v,f v=O r->G (.d<|.val<|.int k v)):(shrO k a b).bind f=O r->OpP o e H G:=λh=>by simp only[yg]at g;obtain⟨v,i,c⟩:=zv0 h;exact⟨_,.shr g.1 g.2.1 g.2.2 i,hk v c⟩
theorem wk.oqug {a b}(g:(o.op,e q,e z)=(.binOp .quo t q z u,O<|.d<|.int a,O<|.d<|.int b))(hv:p->(zwx a b).isSome=U)(k:p->G (.d<|.int<|(zwx a b).getD J)):p->OpP o e H G:=λc=>by simp only[yg]at g;exact⟨_,.quo6 g.1 g.2.1 g.2.2<|zwh<|hv c,k c⟩
class UI (t:TypeId)(k:outParam IntKind):Prop where ok:xg.underlying t=O (.int k)
theorem wk.om3 {k}{a b c}{tys}(g:(o.op,e q,e i,e z)=(.call {callee:=.builtin .max,args:=#[q,i,z],argTypes:=tys},O<|.d<|.val<|.int k a,O<|.d<|.val<|.int k b,O<|.d<|.val<|.int k c))(hk:p->G (.d<|.val<|.int k<|gmax (gmax a b) c)):p->OpP o e H G:=λf=>by simp only[yg]at g;exact⟨_,.max3 g.1 g.2.1 g.2.2.1 g.2.2.2,hk f⟩
theorem wk.ocb {l}{a b}{f}(g:(o.op,e q,e i,e z,tSt t)=(.slice t q (O i) (O z) Y,O<|.d<|.str l,O<|.d<|.int a,O<|.d<|.int b,U))(k:∀v,f v=O r->G (.d<|.str v)):(cut l a b).bind f=O r->OpP o e H G:=λh=>by simp only[yg]at g;obtain⟨v,j,c⟩:=zv0 h;exact⟨_,.zyI g.1 g.2.1 g.2.2.1 g.2.2.2.1 (zld g.2.2.2.2) j,k v c⟩
theorem wk.ocbg {l}{a b}(g:(o.op,e q,e i,e z,tSt t)=(.slice t q (O i) (O z) Y,O<|.d<|.str l,O<|.d<|.int a,O<|.d<|.int b,U))(hv:p->(cut l a b).isSome=U)(k:p->G (.d<|.str<|(cut l a b).getD J)):p->OpP o e H G:=λc=>by simp only[yg]at g;exact⟨_,.zyI g.1 g.2.1 g.2.2.1 g.2.2.2.1 (zld g.2.2.2.2)<|zwh<|hv c,k c⟩
variable{α:Type}{enc:α->D}{l:List α}
theorem wk.olhg {a}(g:(o.op,e q,e i,tX t)=(.slice t q Y (O i) Y,O<|.d<|.sl kk<|l.map enc,O<|.d<|.int a,O kk))(hv:p->(cut l 0 a).isSome=U)(k:p->G (.d<|.sl kk<|((cut l 0 a).getD J).map enc)):p->OpP o e H G:=λb=>by simp only[yg]at g;obtain⟨h,f,c⟩:=zya g.2.2.2;exact⟨_,.cutSlH g.1 g.2.1 g.2.2.1 f c<|zwh<|hv b,k b⟩
end
def nilK (kk:Nat):D->D|.val<|.slice Y 0 0=>.sl kk []|d=>d
section
variable{p:Prop}{o:Oper}{e:Operand->Option V}{H:List Blk}{G:V->Prop}
end
class HM (t:TypeId){κ β:outParam Type}[dk:outParam<|DecidableEq κ](ke:outParam<|κ->Value)(ve:outParam<|β->D)(z:outParam β):Prop where ok:∃kt et,xg.underlying t=O (.map kt et)/\KeyT xg kt ke/\zxh xg et (ve z)
section
variable{p:Prop}{C:Ctx}{ops:Array Oper}{Q:Exit->St->Prop}{o:Oper}{rest:List Oper}{T:List<|Nat×V}{H:List Blk}{e:Operand->Option V}{G:V->Prop}{q z y:Operand}{t:Nat}
variable{κ β:Type}[dk:DecidableEq κ]{ke:κ->Value}{ve:β->D}{z0:β}
theorem wk.mkm {d}[HM t ke ve z0](g:(o.guard,o.op,o.dst,xA d C.n)=(Y,.makeMap t Y,O d,U))(k:p->TriL xg C ops rest Q ⟨(d,.mp H.length)::T,H++[xS ke ve wl]⟩):p->TriL xg C ops (o::rest) Q ⟨T,H⟩:=λa=>by simp only[yg]at g;exact .makeMap ke ve g.1 g.2.1 g.2.2.1 g.2.2.2<|k a
def isPut:Op->Option (TypeId×Operand×Operand×Operand)|.mapUpdate t x y z=>O (t,x,y,z)|.insert t x y z=>O (t,x,y,z)|_=>Y
theorem wk.mput {i}{m}{k}{v}[hM:HM t ke ve z0](g:(o.guard,isPut o.op,o.dst,ev T q,H[i]?,ev T y,ev T z)=(Y,O (t,q,y,z),Y,O<|.mp i,O<|xS ke ve m,O<|.d<|.val<|ke k,O<|.d<|ve v))(kk:p->TriL xg C ops rest Q ⟨T,H.set i<|xS ke ve<|m.put k v⟩):p->TriL xg C ops (o::rest) Q ⟨T,H⟩:=λe=>by
 simp only[yg]at g;obtain⟨c,a,f,h,j,l,r⟩:=g;obtain⟨s,u,n,b,_⟩:=hM.ok;unfold isPut at a;split at a<;>cases a;·exact .mapPut c ‹o.op=_› f n b h j l r<|kk e
 ·exact .zzv c ‹o.op=_› f n b h j l r<|kk e
theorem wk.mget {i}{m}{k}[hM:HM t ke ve z0](g:(o.op,e q,H[i]?,e y)=(.lookup t q y M,O<|.mp i,O<|xS ke ve m,O<|.d<|.val<|ke k))(kk:p->G (.d<|ve<|(m.get? k).getD z0)):p->OpP o e H G:=λb=>by simp only[yg]at g;obtain⟨j,h,f,c,a⟩:=hM.ok;exact⟨_,.zzu g.1 f c g.2.1 g.2.2.1 g.2.2.2 a,kk b⟩
theorem wk.mgetD {m}{k}[hM:HM t ke ve z0](g:(o.op,e q,e y)=(.lookup t q y M,O<|.d<|GMap.dat ke ve m,O<|.d<|.val<|ke k))(kk:p->G (.d<|ve<|(m.get? k).getD z0)):p->OpP o e H G:=λb=>by simp only[yg]at g;obtain⟨i,h,f,c,a⟩:=hM.ok;exact⟨_,.zz7 g.1 f c g.2.1 g.2.2 a,kk b⟩
end
class HR (i:Nat)(n:outParam Nat)(F:outParam<|List Nat):Prop where mk::
section
variable{p:Prop}{C:Ctx}{ops:Array Oper}{Q:Exit->St->Prop}{rest:List Oper}{T:List<|Nat×V}{H:List Blk}{c:Code}{ids ts:List Nat}
class HF (i:Nat)(ids ts:outParam<|List Nat):Prop where mk::
class HG (i:Nat)(ids ts:outParam<|List Nat):Prop where mk::
structure FrzG (T:List<|Nat×V)(H:List Blk)(ids ts:List Nat)(K:List (Nat×D)->Prop):Prop where out:∃ds,zy7 T H ids ds/\K ds
theorem FrzG.nil {K}(k:p->K []):p->FrzG T H ids [] K:=λa=>⟨[],.nil,k a⟩
theorem FrzG.cons {t}{v}{d}{K}(ht:look t T=O v)(hf:FrzI H ids v d)(k:p->FrzG T H ids ts λds=>K<|(t,d)::ds):p->FrzG T H ids (t::ts) K:=λb=>by obtain⟨ds,c,a⟩:=(k b).out;exact⟨_,.cons ht hf c,a⟩
def live (H:List Blk):List Nat->Bool
 |i::l=>match nthD H i with
  |some .dead=>M|some _=>live H l|none=>M
 |[]=>U
def dst1:List Oper->Option Nat
 |o::l=>match o.dst with
  |some d=>O d|none=>dst1 l
 |[]=>Y
def noDst:List Oper->Nat->Bool
 |o::l,n+1=>match o.dst with
  |some _=>M|none=>noDst l n
 |[],0=>U|_,_=>M
def lastD:List Oper->Option Nat->Option Nat
 |o::l,r=>match o.dst with
  |some d=>lastD l<|O d|none=>lastD l r
 |[],r=>r
class HZ (i:Nat)(m:outParam Nat)(ids ts:outParam<|List Nat):Prop where mk::
theorem wk.frz {i}(hi:hid c=O i)[HF i ids ts](g:live H ids=U)(k:p->FrzG T H ids ts λds=>Tri xg C c Q ⟨frzT ds T,zwp ids H⟩):p->Tri xg C c Q ⟨T,H⟩:=λb=>by obtain⟨ds,d,a⟩:=(k b).out;exact .zv9 ids d a
theorem wk.frzL {i}(hi:dst1 rest=O i)[HG i ids ts](g:live H ids=U)(k:p->FrzG T H ids ts λds=>TriL xg C ops rest Q ⟨frzT ds T,zwp ids H⟩):p->TriL xg C ops rest Q ⟨T,H⟩:=λb=>by obtain⟨ds,c,a⟩:=(k b).out;exact .zv9 ids c a
theorem wk.frzZ {i m}(hi:lastD ops.toList Y=O i)[HZ i m ids ts](g:(noDst rest m,live H ids)=(U,U))(kk:p->FrzG T H ids ts λds=>TriL xg C ops rest Q ⟨frzT ds T,zwp ids H⟩):p->TriL xg C ops rest Q ⟨T,H⟩:=λb=>by obtain⟨ds,c,a⟩:=(kk b).out;exact .zv9 ids c a
end
section
variable{p:Prop}{C:Ctx}{ops:Array Oper}{Q:Exit->St->Prop}{o:Oper}{rest:List Oper}{T:List<|Nat×V}{H:List Blk}
class HA (r:Nat):Prop where mk::
theorem wk.alA {t j}{d}[HA j](g:(o.guard,o.op,o.dst,xA j C.n,tZd t,d.ones)=(Y,.alloc t,O j,U,O d,U))(k:p->TriL xg C ops rest Q ⟨(j,.loc H.length 0)::T,H++[.box t<|V.zvR<|.d d]⟩):p->TriL xg C ops (o::rest) Q ⟨T,H⟩:=wk.alo g k
theorem wk.sv {t i off n}{q z}{bt}{cs}{v}(g:(o.guard,o.op,o.dst,ev T q,nthD H i,ev T z,tC t,v.zvR.length,xQ (off+n) cs.length)=(Y,.store t q z,Y,O<|.loc i off,O<|.box bt cs,O v,O n,n,U))(h1:zxm H v.zvR)(k:p->TriL xg C ops rest Q ⟨T,H.set i<|.box bt<|cs.take off++v.zvR++cs.drop (off+n)⟩):p->TriL xg C ops (o::rest) Q ⟨T,H⟩:=λb=>by simp only[yg]at g;obtain⟨c,d,e,f,h,j,l,m,a⟩:=g;exact .store c d e f (zfn h) j h1 (zog l) m (yt a)<|k b
end
section
variable{p:Prop}{C:Ctx}{ops:Array Oper}{Q:Exit->St->Prop}{rest:List Oper}{T:List<|Nat×V}{H:List Blk}{N:Nat}{al:List Ev}{K:List Ev->List (Nat×V)->Prop}
class HE (n:Nat)(t:outParam Nat):Prop where mk::
class EqD (d:D)(d':outParam D):Prop where eq:d=d'
end
class HTr:Prop where mk::
theorem gX2 [HTr]{g:Prop}(k:g):g:=k
instance eqT1 {l}:EqD (.sl 5<|Tree.encs l)<|.sl 5<|l.map xo:=⟨by rw[Tree.zw4]⟩
instance eqT2 {a c d}{b}{k}:EqD (.agg [.int a,.sl 3<|b.map wA,.int c,.int d,.sl 5<|k.map xo])<|xo ⟨a,b,c,d,k⟩:=⟨(Tree.zyA ⟨a,b,c,d,k⟩).symm⟩
def opT (o:Op)(k:Nat):Option Nat:=match nthO' o.operands.toList k with|some<|.tmp t=>O t|_=>Y where nthO':List Operand->Nat->Option Operand|[],_=>Y|x::_,0=>O x|_::l,n+1=>nthO' l n
theorem wk.oeq {p:Prop}{o}{T}{H}{G}(k){t}{d d'}(g:opT o.op k=O t)(hl:look t T=O (.d d))[h:EqD d d'](kk:p->OpP o (ev<|(t,.d d')::T) H G):p->OpP o (ev T) H G:=λb=>by
 have e:ev ((t,.d d')::T)=ev T:=by funext x;cases x with
  |tmp u=>
   simp only[ev,look];split;·rename_i a;subst a;rw[hl,h.eq]
   ·rfl|_=>rfl
 simp_all
section
variable{α β δ ε ζ γ R:Type}{r:R}{xs:List D}{K:D->Prop}{G:Prop}{i:FuncId}
class Ks3 {α β δ γ:outParam Type}(i:FuncId)(f:outParam<|α->β->δ->Option γ)(a:outParam<|α->D)(b:outParam<|β->D)(c:outParam<|δ->D)(e:outParam<|γ->D):Prop where ok:∀t0 t1 t2 r,f t0 t1 t2=O r->Pure xg i [a t0,b t1,c t2] (e r)
class Ks5 {α β δ ε ζ γ:outParam Type}(i:FuncId)(f:outParam<|α->β->δ->ε->ζ->Option γ)(a:outParam<|α->D)(b:outParam<|β->D)(c:outParam<|δ->D)(d:outParam<|ε->D)(q:outParam<|ζ->D)(e:outParam<|γ->D):Prop where ok:∀t0 t1 t2 t3 t4 r,f t0 t1 t2 t3 t4=O r->Pure xg i [a t0,b t1,c t2,d t3,q t4] (e r)
section
variable[Inhabited γ]
end
theorem Ks4.g [Inhabited γ]{f:α->β->δ->ε->Option γ}{a b c d e}[k:Ks4 i f a b c d e]{x}{y}{z}{u}(hv:G->(f x y z u).isSome=U)(hx:xs=[a x,b y,c z,d u])(g:G->K (e<|(f x y z u).getD J)):G->zv8 i xs K:=λh=>⟨_,hx▸k.ok _ _ _ _ _ (zwh<|hv h),g h⟩
theorem Kd4.self {f:Nat->α->β->δ->ε->Option γ}{a b c d e}(h0:∀x y z u,f 0 x y z u=Y)(hs:∀n,Ks4 i (f n) a b c d e->∀x y z u r,f (n+1) x y z u=O r->Pure xg i [a x,b y,c z,d u] (e r)):Kd4 i f a b c d e:=⟨λn=>by induction n with|zero=>simp_all|succ n ih=>exact hs n ⟨ih⟩⟩
end
section
variable{p:Prop}{C:Ctx}{c:Code}{ops:Array Oper}{Q:Exit->St->Prop}{o:Oper}{rest l:List Oper}{s:St}{T:List<|Nat×V}{H:List Blk}{e:Operand->Option V}{G:V->Prop}{N:Nat}{al:List Ev}{K:List Ev->List (Nat×V)->Prop}{i:FuncId}{xs:List D}{R:D->Prop}
class HX:Prop where mk::
theorem gX [HX]{g:Prop}(k:g):g:=k
theorem gT (k:p->Tri xg C c Q s):p->Tri xg C c Q s:=k
theorem gL (k:p->TriL xg C ops l Q s):p->TriL xg C ops l Q s:=k
theorem gQ (k:p->TriQ xg N ops H l al T K):p->TriQ xg N ops H l al T K:=k
theorem gO (k:p->OpP o e H G):p->OpP o e H G:=k
theorem gC (k:p->zv8 i xs R):p->zv8 i xs R:=k
def ownR:Op->Bool
 |.alloc _=>U|.assign<|.const<|.slice Y 0 0=>U|.buildSlice _ _ _=>U|.makeSlice _ _ _=>U|.makeMap _ _=>U|.build _ _=>U|.call c=>match c.callee with
  |.builtin .append=>U|_=>M
 |_=>M
theorem gP (h:ownR o.op=M)(k:p->TriL xg C ops (o::rest) Q s):p->TriL xg C ops (o::rest) Q s:=k
theorem gN (h:o.dst=Y)(k:p->TriL xg C ops (o::rest) Q s):p->TriL xg C ops (o::rest) Q s:=k
theorem gI {t}{x y}(h:o.op=.indexAddr t x y)(k:p->OpP o e H G):p->OpP o e H G:=k
theorem gV {q}{a}{b}(h:o.op=.call {callee:=.value q,args:=a,argTypes:=b})(k:p->OpP o e H G):p->OpP o e H G:=k
theorem gU {b}{x}{y}(h:o.op=.call {callee:=.builtin b,args:=x,argTypes:=y})(k:p->OpP o e H G):p->OpP o e H G:=k
theorem gB {b}{t u}{x y}(h:o.op=.binOp b t x y u)(k:p->OpP o e H G):p->OpP o e H G:=k
theorem g1 {a}(k:p->zv8 i [a] R):p->zv8 i [a] R:=k
theorem g2 {a b}(k:p->zv8 i [a,b] R):p->zv8 i [a,b] R:=k
theorem g3 {a b c}(k:p->zv8 i [a,b,c] R):p->zv8 i [a,b,c] R:=k
end
def nlK {β:Type}:List Operand->List TypeId->List D->(List D->β)->β
 |.const (.slice Y 0 0)::xs,t::ts,d::ds,k=>match d with
  |.val<|.slice Y 0 0=>match tX t with
   |some kk=>nlK xs ts ds λl=>k<|.sl kk []::l|none=>nlK xs ts ds λl=>k<|d::l
  |_=>nlK xs ts ds λl=>k<|d::l
 |_::xs,_::ts,d::ds,k=>nlK xs ts ds λl=>k<|d::l|_,_,ds,k=>k ds
theorem zu7 {β}:∀(xs)(ts)(ds)(k:List D->β),nlK xs ts ds k=k (zfB xs ts ds):=by
 intro xs ts ds k;induction xs,ts,ds,k using nlK.induct (β:=β)<;>simp_all[nlK,zfB]
theorem wk.oca {p:Prop}{o}{e}{H}{G}{f:FuncId}{args}{tys}{xs xs'}(g:(o.op,memN tCl f,evs e args.toList)=(.call {callee:=.value<|.func f,args:=args,argTypes:=tys},U,O xs))(g2:nlK args.toList tys.toList xs O=O xs')(k:p->zv8 f xs' λd=>G<|.d d):p->OpP o e H G:=wk.ocall g (vP<|(zu7 _ _ _ _).symm.trans g2) k
class Cln (f:FuncId)(t:TypeId):Prop where ok:∃fn,xg.funcs[f]?=O fn/\fn.body=O (zgC t)/\fn.ntmps=8/\fn.results=#[.tmp 2]
section
variable{R:Type}{r:R}{C:Ctx}{ops:Array Oper}{o:Oper}{rest:List Oper}{Q:Exit->St->Prop}{T:List<|Nat×V}{H:List Blk}
theorem wk.cln {α}{f j el kk b t}{q}{enc:α->D}{xs:List α}{F:List α->Option R}[HS j][hc:Cln f t](g:(o.guard,o.op,o.dst,xA j C.n,memN tCl f,ev T q,tE t,xA 0 b,T.all λp=>p.2.under H.length,xQ C.gn H.length)=(Y,.call {callee:=.value<|.func f,args:=#[q],argTypes:=#[t]},O j,U,U,O<|.d<|.sl kk<|xs.map enc,O (el,kk,b),U,U,U))(k:∀zs,F zs=O r->TriL xg C ops rest Q ⟨(j,.vec H.length zs.length)::T,H++[.vec el kk<|zs.map enc]⟩)(ho:∀z,(enc z).ones=true:=by exactλ_=>rfl)(hk:∀z,(enc z).kOK kk=true:=by exactλ_=>rfl):(Go.Proofs.YtipkniadbkndfaaGreatDoor.app b [] xs).bind F=O r->TriL xg C ops (o::rest) Q ⟨T,H⟩:=λh=>by simp only[yg]at g;obtain⟨g1,g2,g3,g4,g5,g6,g7,g8,g9,ga⟩:=g;obtain⟨fn,h1,h2,h3,h4⟩:=hc.ok;obtain⟨v,y,a⟩:=zv0 h;exact .clone g1 g2 g3 g4 (zwe g5) h1 h2 h3 h4 g6 (zzJ g7) g8 ho hk y g9 ga<|k v a
end
section
variable{p:Prop}{C:Ctx}{ops:Array Oper}{o:Oper}{rest:List Oper}{Q:Exit->St->Prop}{T:List<|Nat×V}{H:List Blk}
end
section
class Kf3 {α β δ γ:outParam Type}(i:FuncId)(f:outParam<|Nat->α->(β->Option δ)->(β->Option δ)->Option γ)(a:outParam<|α->D)(b:outParam<|β->D)(d:outParam<|δ->D)(e:outParam<|γ->D):Prop where ok:∀n t0 t1 F,Fn1 b d t1 F->∀t2 G,Fn1 b d t2 G->∀r,f n t0 t1 t2=O r->Pure xg i [a t0,F,G] (e r)
variable{α β δ ε γ R:Type}{i:FuncId}{n:Nat}{xs:List D}{r:R}{K:D->Prop}{G:Prop}
theorem Kf3.cf {f}{a b d e}[k:Kf3 i f a b d e]{x:α}{y z:β->Option δ}{j l}{cs es}{kk:γ->Option R}(hx:xs=[a x,.fn (.func j) [] cs,.fn (.func l) [] es])(hc:(memN tCl j&&memN tCl l)=U)(hf:∀q v,y q=O v->zv8 j (b q::cs) λw=>w=d v)(hg:∀q v,z q=O v->zv8 l (b q::es) λw=>w=d v)(c:∀v,kk v=O r->K (e v)):(f n x y z).bind kk=O r->zv8 i xs K:=λh=>by obtain⟨v,j,g⟩:=zv0 h;simp only[yc]at hc;exact⟨_,hx▸k.ok _ _ _ _ (fn1 hc.1 hf) _ _ (fn1 hc.2 hg) _ j,c v g⟩
end
section
class HI (f:FuncId)(fn:outParam Func)(N:outParam Nat)(rs:outParam<|List ResultVar):Prop where ok:xg.funcs[f]?=O fn/\fn.ntmps=N/\fn.results=rs.toArray
variable{p:Prop}{C:Ctx}{ops:Array Oper}{o:Oper}{rest:List Oper}{Q:Exit->St->Prop}{T:List<|Nat×V}{H:List Blk}
theorem wk.inl {f fn N rs}{args:Array Operand}{tys:Array TypeId}{xs:List V}{c:Code}(g0:o.op=.call {callee:=.value<|.func f,args:=args,argTypes:=tys})[hI:HI f fn N rs](g:(o.guard,zvU o.dst C.n,memN tCl f,evsV (ev T) args.toList,xQ xs.length N,T.all λp=>p.2.under H.length,xQ C.gn H.length)=(Y,U,U,O xs,U,U,U))(hb:fn.body=O c)(k:∀(own0:Nat->Prop)(w:World)(gh:List<|V×Value),p->Tri xg ⟨C.A0,own0,w,N,λ_ _=>False,gh,H.length,[]⟩ c (zy4 xg rs (λv H'=>TriL xg C ops rest Q ⟨putT T o.dst v,H'⟩) λch H'=>Q (.panic ch) ⟨T,H'⟩) ⟨zbv 0 xs,H⟩):p->TriL xg C ops (o::rest) Q ⟨T,H⟩:=λhp=>by simp only[yg]at g;obtain⟨g1,g3,g4,g5,g6,g7,g8⟩:=g;exact .zzf g1 g3 (.stat g0 (zwe g4) g5) hI.ok.1 hb hI.ok.2.1 hI.ok.2.2 g6 g7 g8 λa b d=>k a b d hp
def zzH (T:List<|Nat×V):List ResultVar->Option (List V)
 |[]=>O []|.tmp t::rs=>match look t T,zzH T rs with
  |some v,O vs=>O<|v::vs|_,_=>Y
 |_=>Y
theorem zpN {s:St}:∀{rs vs},zzH s.T rs=O vs->ResV s rs vs
 |[],vs,h=>by cases h;rfl|.tmp t::rs,vs,h=>by
  simp only[zzH]at h;split at h<;>cases h;rename_i h1 h2;exact⟨_,_,rfl,h1,zpN h2⟩|.cell _ _::_,_,h=>by cases h
theorem zrR {P:Program}{s:St}{rs vs}(h:zzH s.T rs=O vs):ResC P s rs<|zdS vs:=by
 unfold ResC;split;·cases h
 ·exact⟨_,zpN h,rfl⟩
variable{s:St}{P:Program}{rs:List ResultVar}{K:V->List Blk->Prop}{Kp:List PanicEntry->List Blk->Prop}{vs:List V}
theorem wk.vR (g:zzH s.T rs=O vs)(k:p->K (zdS vs) s.H):p->zy4 P rs K Kp .ret s:=λhp=>.inl ⟨.inl rfl,_,zrR g,k hp⟩
theorem wk.vN (g:zzH s.T rs=O vs)(k:p->K (zdS vs) s.H):p->zy4 P rs K Kp .normal s:=λhp=>.inl ⟨.inr rfl,_,zrR g,k hp⟩
end
section
variable{p:Prop}{C:Ctx}{ops:Array Oper}{o:Oper}{rest:List Oper}{Q:Exit->St->Prop}{T:List<|Nat×V}{H:List Blk}
theorem wk.bxv {j t}{q}{v:V}[HS j](g:(o.guard,o.op,o.dst,xA j C.n,ev T q)=(Y,.box t q,O j,U,O v))(h:zxm H v.zvR)(k:p->TriL xg C ops rest Q ⟨(j,.loc H.length 0)::T,H++[.box t v.zvR]⟩):p->TriL xg C ops (o::rest) Q ⟨T,H⟩:=λhp=>by simp only[yg]at g;obtain⟨g1,g2,g3,g4,g5⟩:=g;exact .box g1 g2 g3 g4 g5 h<|k hp
end
section
variable{p:Prop}{C:Ctx}{ops:Array Oper}{o:Oper}{rest:List Oper}{Q:Exit->St->Prop}{T:List<|Nat×V}{H:List Blk}{e:Operand->Option V}{G:V->Prop}
theorem wk.mkv {g:FuncId}{cs:Array Operand}{vs:List V}(h:(o.op,evsV e cs.toList)=(.makeFunc (.func g) #[] cs,O vs))(k:p->G (.fn (.func g) [] vs)):p->OpP o e H G:=λhp=>by simp only[yg]at h;exact⟨_,.zxe h.1 h.2,k hp⟩
class Kr1 {α:outParam Type}(i:FuncId)(a:outParam<|α->D)(F:outParam<|α->D):Prop where ok:∀x,Pure xg i [a x]<|F x
theorem Kr1.c {α:Type}{i}{a F:α->D}[k:Kr1 i a F]{x}{xs:List D}{K:D->Prop}(hx:xs=[a x])(c:p->K (F x)):p->zv8 i xs K:=λh=>⟨_,hx▸k.ok x,c h⟩
theorem wk.inlc {f fn N rs}{x:Operand}{args:Array Operand}{tys:Array TypeId}{xs caps:List V}{c:Code}(g0:(o.op,ev T x)=(.call {callee:=.value x,args:=args,argTypes:=tys},O<|.fn (.func f) [] caps))[hI:HI f fn N rs](g:(o.guard,zvU o.dst C.n,memN tCl f,evsV (ev T) args.toList,xQ (xs++caps).length N,T.all λp=>p.2.under H.length,xQ C.gn H.length)=(Y,U,U,O xs,U,U,U))(hb:fn.body=O c)(k:∀(own0:Nat->Prop)(w:World)(gh:List<|V×Value),p->Tri xg ⟨C.A0,own0,w,N,λ_ _=>False,gh,H.length,[]⟩ c (zy4 xg rs (λv H'=>TriL xg C ops rest Q ⟨putT T o.dst v,H'⟩) λch H'=>Q (.panic ch) ⟨T,H'⟩) ⟨zbv 0<|xs++caps,H⟩):p->TriL xg C ops (o::rest) Q ⟨T,H⟩:=λhp=>by simp only[yg]at g g0;obtain⟨g1,g3,g4,g5,g6,g7,g8⟩:=g;exact .zzf g1 g3 (.clos g0.1 g0.2 (zwe g4) g5) hI.ok.1 hb hI.ok.2.1 hI.ok.2.2 g6 g7 g8 λa b d=>k a b d hp
end
section
variable{p:Prop}{o:Oper}{H:List Blk}{e:Operand->Option V}{G:V->Prop}
theorem wk.ofe {t f o1 i n j off el kk:Nat}{q:Operand}{xs:List D}(g:(o.op,e q,H[i]?,tF t f)=(Op.fieldAddr t q f,O<|V.el i n j off,O<|Blk.vec el kk xs,O o1))(hn:n=xs.length)(k:p->G (.el i n j<|off+o1)):p->OpP o e H G:=λhp=>by simp only[yg]at g;obtain⟨g1,g2,g3,g4⟩:=g;exact⟨_,.fieldEl g1 g2 g3 hn<|Tab.fl _ _ _ g4,k hp⟩
theorem wk.olf {α:Type}{t b n el kk off:Nat}{q:Operand}{xs:List α}{enc:α->D}{a:Int}{v:α}{s:Option Nat}{cs:List D}{y:D}(g:(o.op,e q,H[b]?,tS t)=(.load t q,O<|.el b n a.toNat off,O<|.vec el kk<|xs.map enc,O s))(hv:idx xs a=O v)(hc:(enc v,zlP cs off s,y.shape)=(.agg cs,O y,s))(k:p->G (.d y))(hn:n=xs.length:=by exact lnS):p->OpP o e H G:=λhp=>by simp only[yg]at g hc;exact⟨_,.loadElF g.1 g.2.1 g.2.2.1 hn hv (Tab.sh _ _ g.2.2.2) hc.1 hc.2.1 hc.2.2,k hp⟩
end
def relL (i m:Nat):List V->List V|.vec j n::l=>.vec j (match vf i j with|true=>m|false=>n)::relL i m l|v::l=>v::relL i m l|[]=>[]
def relB (i m:Nat):List Blk->List Blk|.box t cs::l=>.box t (relL i m cs)::relB i m l|b::l=>b::relB i m l|[]=>[]
theorem zmV {i m el kk:Nat}{xs:List D}:∀{H:List Blk}{j},relB i m (H.set j<|.vec el kk xs)=(relB i m H).set j (.vec el kk xs)|[],_=>rfl|b::l,0=>by cases b<;>rfl|b::l,j+1=>by cases b<;>simp only[List.set_cons_succ,relB,zmV (H:=l)]
section
variable{R:Type}{r:R}{C:Ctx}{ops:Array Oper}{o:Oper}{rest:List Oper}{Q:Exit->St->Prop}{T:List<|Nat×V}{H:List Blk}
theorem wk.tsf {t i n kk el off:Nat}{q z:Operand}{α:Type}{enc:α->D}{xs:List α}{a:Int}{x0 y:α}{ds:List D}{dy:D}{f:List α->Option R}(g:(o.guard,o.op,o.dst,ev T q,H[i]?,ev T z,tC t)=(Y,.store t q z,Y,O<|.el i n a.toNat off,O<|.vec el kk<|xs.map enc,O<|.d dy,O 1))(h0:idx xs a=O x0)(g2:(dy.shape,dy.ones,xA off kk,enc x0,D.agg<|ds.set off dy)=(Y,U,U,.agg ds,enc y))(k:∀v,f v=O r->TriL xg C ops rest Q ⟨relT i v.length<|dedT [] T,relB i v.length<|H.set i<|.vec el kk<|v.map enc⟩)(hn:n=xs.length:=by exact rfl)(he:(relT i xs.length<|dedT [] T,relB i xs.length H)=(dedT [] T,H):=by exact rfl):(sto xs a y).bind f=O r->TriL xg C ops (o::rest) Q ⟨T,H⟩:=λh=>by simp only[yg]at g g2 he;obtain⟨e,u,j,l,m,p,s⟩:=g;obtain⟨v,c,b⟩:=zv0 h;have:=k v b;rw[zmV,(zcp c).symm,he.1,he.2]at this;exact .storeElF e u j l m hn p g2.1 g2.2.1 (zog s) h0 g2.2.2.2.1 g2.2.2.2.2 g2.2.2.1 c<|.ded this
theorem wk.tsb {t i n kk el:Nat}{q z:Operand}{α:Type}{enc:α->D}{xs:List α}{a:Int}{y:α}{f:List α->Option R}(g:(o.guard,o.op,o.dst,ev T q,H[i]?,ev T z,tC t)=(Y,.store t q z,Y,O<|.el i n a.toNat 0,O<|.vec el kk<|xs.map enc,O<|.d<|enc y,O kk))(g2:((enc y).kOK kk,(enc y).ones)=(U,U))(k:∀v,f v=O r->TriL xg C ops rest Q ⟨relT i v.length<|dedT [] T,relB i v.length<|H.set i<|.vec el kk<|v.map enc⟩)(hn:n=xs.length:=by exact rfl)(he:(relT i xs.length<|dedT [] T,relB i xs.length H)=(dedT [] T,H):=by exact rfl):(sto xs a y).bind f=O r->TriL xg C ops (o::rest) Q ⟨T,H⟩:=λh=>by simp only[yg]at g g2 he;obtain⟨e,u,j,l,m,p,s⟩:=g;obtain⟨v,c,b⟩:=zv0 h;have:=k v b;rw[zmV,(zcp c).symm,he.1,he.2]at this;exact .zwQ e u j l m hn p g2.1 g2.2 (zog s) c<|.ded this
end
section
variable{p:Prop}{C:Ctx}{ops:Array Oper}{Q:Exit->St->Prop}{c:Code}{rest:List Oper}{T:List<|Nat×V}{H:List Blk}{ids ts:List Nat}
theorem wk.frz' {i:Nat}(hi:hid c=O i)[HF i ids ts](g:live H ids=U)(g0:C.own0=ze)(k:p->FrzG T H ids ts λds=>Tri xg C c Q ⟨frzT ds T,zwp ids H⟩):p->Tri xg C c Q ⟨T,H⟩:=wk.frz hi g k
end
section
variable{p:Prop}{C:Ctx}{Q:Exit->St->Prop}{l l1 l2:List Oper}{T:List<|Nat×V}{H:List Blk}
class HD (i:Nat)(n:outParam Nat):Prop where mk::
theorem wk.regH {id n}[HD id n](h:cutN n l (λa b=>O (a,b))=O (l1,l2))(k:p->TriQ xg C.n l.toArray H l1 [] T λal T=>TriL xg C l.toArray l2 Q<|zlC xg H al T)(h1:regOK l n=true:=by kernel_rfl)(h2:(zf4 (l.take n)&&zeN (l.take n))=true:=by kernel_rfl):p->Tri xg C (.region id l.toArray U) Q ⟨T,H⟩:=λc=>by simp only[zi1]at h;cases h;exact .draw n Hm h1 h2<|k c
end
def hidN (n:Nat)(c:Code):Option Nat:=match hid c with|some i=>O<|i+1000*n|none=>Y
section
variable{p:Prop}{C:Ctx}{Q:Exit->St->Prop}{s:St}{x y c:Code}{R:Type}{r:R}{i:Nat}{ks:List Nat}{K:List<|Nat×V}{σ:Type}
theorem zmy {n}(h:hidN n c=O i):∃j,hid c=O j:=by
 unfold hidN at h;split at h;·exact⟨_,‹_›⟩
 ·cases h
theorem wk.Li {body}{n}{init:σ}{u}{f}{T:σ->List (Nat×V)}{xf:σ->List Blk}{X}(hi:hidN C.n c=O i)[HL i ks u f](g1:zx8 ks s.T []=O K)(g2:(λv=>nfH (over s.H<|f s.H v) O)=λv=>O<|xf v)(g3:(λv=>appK (u v) K O)=λv=>O<|T v)(g:(s.H,(xf init).all<|vl (xf init).length,(T init).all λp=>p.2.under (xf init).length,lks (T init) s.T,xQ C.gn s.H.length)=(xf init++X,U,U,vls<|T init,U))(hb:∀(rec)(v),body rec v=O r->Tri xg C c (zxO rec r (λv=>⟨T v,xf v⟩) Q) ⟨T v,xf v⟩):zvt body n init=O r->Tri xg C (.loop c) Q s:=by
 obtain⟨j,hj⟩:=zmy hi;have:HL j ks u f:=⟨⟩;exact wk.L hj g1 g2 g3 g hb
theorem wk.Ji {k:σ->Option R}{m}{u}{f}{T:σ->List (Nat×V)}{xf:σ->List Blk}(hi:hidN C.n y=O i)[HJ i ks u f](g1:zx8 ks s.T []=O K)(g2:(λv=>nfH (over s.H<|f s.H v) O)=λv=>O<|xf v)(g3:(λv=>appK (u v) K O)=λv=>O<|T v)(g:xQ C.gn s.H.length=U)(hm:∀k',m k'=O r->Tri xg C x (zxO k' r (λv=>⟨T v,xf v⟩) Q) s)(hk:∀v,k v=O r->Tri xg C y Q ⟨T v,xf v⟩):jn k m=O r->Tri xg C (.seq x y) Q s:=by
 obtain⟨j,hj⟩:=zmy hi;have:HJ j ks u f:=⟨⟩;exact wk.xf hj g1 g2 g3 g hm hk
end
def zzZ (T:List<|Nat×V)(ids:List Nat):List Nat->Bool
 |t::ts=>match look t T with
  |some<|.vec j _=>match memN ids j with
   |true=>zzZ T ids ts|false=>M
  |some<|.loc j _=>match memN ids j with|true=>zzZ T ids ts|false=>M
  |some _=>zzZ T ids ts|none=>M
 |[]=>U
def tagN (n:Nat):Option Nat->Option Nat|some i=>O<|i+1000*n|none=>Y
section
variable{p:Prop}{C:Ctx}{ops:Array Oper}{Q:Exit->St->Prop}{c:Code}{rest:List Oper}{T:List<|Nat×V}{H:List Blk}{ids ts:List Nat}{i:Nat}
theorem wk.frzi (hi:hidN C.n c=O i)[HF i ids ts](g:(live H ids,zzZ T ids ts)=(U,U))(k:p->FrzG T H ids ts λds=>Tri xg C c Q ⟨frzT ds T,zwp ids H⟩):p->Tri xg C c Q ⟨T,H⟩:=by
 obtain⟨j,hj⟩:=zmy hi;have:HF j ids ts:=⟨⟩;simp only[yg]at g;exact wk.frz hj g.1 k
class HF2 (i:Nat)(ids ts:outParam<|List Nat):Prop where mk::
theorem wk.frzj {p:Prop}{C:Ctx}{c:Code}{Q:Exit->St->Prop}{T:List<|Nat×V}{H:List Blk}{ids ts:List Nat}{i:Nat}(hi:hidN C.n c=O i)[HF2 i ids ts](g:(live H ids,zzZ T ids ts)=(U,U))(k:p->FrzG T H ids ts λds=>Tri xg C c Q ⟨frzT ds T,zwp ids H⟩):p->Tri xg C c Q ⟨T,H⟩:=by
 obtain⟨j,hj⟩:=zmy hi;have:HF j ids ts:=⟨⟩;simp only[yg]at g;exact wk.frz hj g.1 k
theorem wk.frzL' (hi:dst1 rest=O i)[HG i ids ts](g:live H ids=U)(g0:C.own0=ze)(k:p->FrzG T H ids ts λds=>TriL xg C ops rest Q ⟨frzT ds T,zwp ids H⟩):p->TriL xg C ops rest Q ⟨T,H⟩:=wk.frzL hi g k
theorem wk.frzZ' {m}(hi:lastD ops.toList Y=O i)[HZ i m ids ts](g:(noDst rest m,live H ids)=(U,U))(g0:C.own0=ze)(kk:p->FrzG T H ids ts λds=>TriL xg C ops rest Q ⟨frzT ds T,zwp ids H⟩):p->TriL xg C ops rest Q ⟨T,H⟩:=wk.frzZ hi g kk
end
section
variable{p:Prop}{o:Oper}{H:List Blk}{e:Operand->Option V}{G:V->Prop}
end
section
variable{R:Type}{r:R}{p:Prop}{C:Ctx}{ops:Array Oper}{Q:Exit->St->Prop}{o:Oper}{rest:List Oper}{T:List<|Nat×V}{H:List Blk}{i:Nat}
theorem wk.tnvi {j el kk b}(g:(o.guard,o.op,o.dst,xA j C.n,tE o.type)=(Y,.assign<|.const<|.slice Y 0 0,O j,U,O (el,kk,b)))(hj:tagN C.n (O j)=O i)[HS i](k:p->TriL xg C ops rest Q ⟨(j,.vec H.length 0)::(j,.d<|.val<|.slice Y 0 0)::T,H++[.vec el kk []]⟩):p->TriL xg C ops (o::rest) Q ⟨T,H⟩:=have:HS j:=⟨⟩;wk.tnv g k
theorem wk.clnb {α}{f j el kk b t i0 n el':Nat}{q}{enc:α->D}{xs:List α}{F:List α->Option R}(g:(o.guard,o.op,o.dst,xA j C.n,memN tCl f,ev T q,H[i0]?,tE t,xA 0 b)=(Y,.call {callee:=.value<|.func f,args:=#[q],argTypes:=#[t]},O j,U,U,O<|.vec i0 n,O<|.vec el' kk<|xs.map enc,O (el,kk,b),U))[hc:Cln f t](hj:tagN C.n (O j)=O i)[HS i](k:∀zs,F zs=O r->TriL xg C ops rest Q ⟨(j,.vec H.length zs.length)::T,H++[.vec el kk<|zs.map enc]⟩)(hn:n=xs.length:=by exact lnS)(ho:∀z,(enc z).ones=true:=by exactλ_=>rfl)(hk:∀z,(enc z).kOK kk=true:=by exactλ_=>rfl)(hs:∀z,(enc z).scal=true:=by exactλ_=>rfl):(Go.Proofs.YtipkniadbkndfaaGreatDoor.app b [] xs).bind F=O r->TriL xg C ops (o::rest) Q ⟨T,H⟩:=λh=>by simp only[yg]at g;obtain⟨g1,g2,g3,g4,g5,g6,g7,g8,g9⟩:=g;obtain⟨fn,h1,h2,h3,h4⟩:=hc.ok;obtain⟨v,y,a⟩:=zv0 h;exact .cloneB g1 g2 g3 g4 (zwe g5) h1 h2 h3 h4 g6 g7 hn (zzJ g8) g9 ho hk hs y<|k v a
inductive AllE (m:Nat):List Nat->Prop|nil:AllE m []|cons{n l}:n=m->AllE m l->AllE m (n::l)
theorem AllE.ok {m}:∀{l},AllE m l->l=l.map λ_=>m|_,.nil=>rfl|_,.cons e h=>by rw[yU,<-h.ok,e]
def relK {β:Type}(i m:Nat):List (Nat×V)->(List (Nat×V)->β)->β
 |[],k=>k []|(t,.vec j n)::T,k=>relK i m T λT=>match vf i j with
  |true=>k<|(t,.vec j m)::T|false=>k<|(t,.vec j n)::T
 |q::T,k=>relK i m T λT=>k<|q::T
theorem zrO {β:Type}{i m}:∀(T)(k:List (Nat×V)->β),relK i m T k=k (relT i m T)
 |[],k=>rfl|(t,v)::T,k=>by
  cases v<;>simp only[relK,relT,zrO T];split<;>simp_all
theorem wk.rt {α:Type}{p:Prop}(j){c:Code}{t k:Nat}{enc:α->D}{l:List α}{L:List Nat}{T'}(g:H[j]?=O (.vec t k<|l.map enc))(hT:lens j T=L)(h':relK j l.length T O=O T')(a:AllE l.length L)(kk:p->Tri xg C c Q ⟨T',H⟩):p->Tri xg C c Q ⟨T,H⟩:=λh=>by have b:=kk h;rw[zrO,yp]at h';rw[<-h',zmW<|zkG<|hT▸a.ok]at b;exact b
class HOs (t:outParam Nat):Prop where mk::
theorem wk.gto {α:Type}{t k:Nat}{enc:α->D}{l:List α}{m:Option R}[HOs t](hl:look t T=O (.d<|.sl k<|l.map enc))(kk:m=O r->TriL xg C ops rest Q ⟨(t,.d<|.osl k<|l.map enc)::T,H⟩):grd (!l.isEmpty) m=O r->TriL xg C ops rest Q ⟨T,H⟩:=λh=>.toOsl (l:=l) (enc:=enc) t hl (by simpa using(grdS h).1)<|kk (grdS h).2
theorem wk.onz {p:Prop}{e:Operand->Option V}{G:V->Prop}{q:Operand}{t u k kk:Nat}{α:Type}{enc:α->D}{l:List α}(g:(o.op,e q,tX t)=(.binOp .neq t q (.const<|.slice Y 0 0) u,O<|.d<|.osl k<|l.map enc,O kk))(h:p->G (.d<|.bool<|!l.isEmpty)):p->OpP o e H G:=λhp=>by simp only[yg]at g;obtain⟨el,a,_⟩:=zya g.2.2;exact⟨_,.oslNeq g.1 a g.2.1,h hp⟩
theorem wk.alAi {t j}{d}(g:(o.guard,o.op,o.dst,xA j C.n,tZd t,d.ones)=(Y,.alloc t,O j,U,O d,U))(hj:tagN C.n (O j)=O i)[HA i](k:p->TriL xg C ops rest Q ⟨(j,.loc H.length 0)::T,H++[.box t<|V.zvR<|.d d]⟩):p->TriL xg C ops (o::rest) Q ⟨T,H⟩:=wk.alo g k
theorem wk.bxvi {j t}{q}{v:V}(g:(o.guard,o.op,o.dst,xA j C.n,ev T q)=(Y,.box t q,O j,U,O v))(hj:tagN C.n (O j)=O i)[HS i](h:zxm H v.zvR)(k:p->TriL xg C ops rest Q ⟨(j,.loc H.length 0)::T,H++[.box t v.zvR]⟩):p->TriL xg C ops (o::rest) Q ⟨T,H⟩:=have:HS j:=⟨⟩;wk.bxv g h k
end
section
variable{p:Prop}{C:Ctx}{ops:Array Oper}{o:Oper}{rest:List Oper}{Q:Exit->St->Prop}{T:List<|Nat×V}{H H':List Blk}{m:Nat}
theorem wk.in2 {f fn N rs}{args:Array Operand}{tys:Array TypeId}{xs ys:List V}{c:Code}(g0:o.op=.call {callee:=.value<|.func f,args:=args,argTypes:=tys})[hI:HI f fn N rs](g2:(nfH H O,nfN H.length O)=(O H',O m))(g:(o.guard,zvU o.dst C.n,memN tCl f,evsV (ev T) args.toList,xQ xs.length N,T.all λp=>p.2.under m,xQ C.gn m)=(Y,U,U,O xs,U,U,U))(gx:nfVl xs O=O ys)(hb:fn.body=O c)(k:∀(own0:Nat->Prop)(w:World)(gh:List<|V×Value),p->Tri xg ⟨C.A0,own0,w,N,λ_ _=>False,gh,m,[]⟩ c (zy4 xg rs (λv H'=>TriL xg C ops rest Q ⟨putT T o.dst v,H'⟩) λch H'=>Q (.panic ch) ⟨T,H'⟩) ⟨zbv 0 ys,H'⟩):p->TriL xg C ops (o::rest) Q ⟨T,H⟩:=by simp only[yg,zkS,zpH,zmQ,yp]at g2 gx;obtain⟨rfl,rfl⟩:=g2;subst gx;exact wk.inl g0 g hb k
theorem wk.ic2 {f fn N rs}{x:Operand}{args:Array Operand}{tys:Array TypeId}{xs ys caps:List V}{c:Code}(g0:(o.op,ev T x)=(.call {callee:=.value x,args:=args,argTypes:=tys},O<|.fn (.func f) [] caps))[hI:HI f fn N rs](g2:(nfH H O,nfN H.length O)=(O H',O m))(g:(o.guard,zvU o.dst C.n,memN tCl f,evsV (ev T) args.toList,xQ (xs++caps).length N,T.all λp=>p.2.under m,xQ C.gn m)=(Y,U,U,O xs,U,U,U))(gx:nfVl (xs++caps) O=O ys)(hb:fn.body=O c)(k:∀(own0:Nat->Prop)(w:World)(gh:List<|V×Value),p->Tri xg ⟨C.A0,own0,w,N,λ_ _=>False,gh,m,[]⟩ c (zy4 xg rs (λv H'=>TriL xg C ops rest Q ⟨putT T o.dst v,H'⟩) λch H'=>Q (.panic ch) ⟨T,H'⟩) ⟨zbv 0 ys,H'⟩):p->TriL xg C ops (o::rest) Q ⟨T,H⟩:=by simp only[yg,zkS,zpH,zmQ,yp]at g2 gx;obtain⟨rfl,rfl⟩:=g2;subst gx;exact wk.inlc g0 g hb k
def nfT {β:Type}:List (Nat×V)->(List (Nat×V)->β)->β|[],k=>k []|(t,v)::T,k=>nfV v λv=>nfT T λT=>k<|(t,v)::T
theorem ztB {β:Type}:∀(T)(k:List (Nat×V)->β),nfT T k=k T|[],k=>rfl|(t,v)::T,k=>by rw[nfT,zrC,ztB T]
theorem wk.nf {T'}(g:(nfT T O,nfH H O)=(O T',O H'))(k:p->TriL xg C ops rest Q ⟨T',H'⟩):p->TriL xg C ops rest Q ⟨T,H⟩:=by simp only[yg,zkS,ztB,yp]at g;obtain⟨rfl,rfl⟩:=g;exact k
variable{s:St}{ch:List PanicEntry}{P:Program}
class HPn (t:TypeId):Prop where ok:zdt xg t=O []/\zwT xg t=O []/\∃fs,xg.underlying t=O (.struct fs)
instance:HPn 182:=⟨Pl182,Zc182,_,UE182⟩
theorem wk.pan {t:TypeId}{a b:Nat}{o1 o2 o3:Oper}(g:(o1.guard,o1.op,o1.dst,o2.guard,o2.op,o2.dst,o3.guard,o3.op,xA a C.n,xA b C.n)=(Y,.build t #[],O a,Y,.makeInterface t<|.tmp a,O b,Y,.panic<|.tmp b,U,U))[h1:HPn t](k:p->Q (.panic [{v:=.iface t<|.agg #[],recovered:=M}]) ⟨(b,.d<|.val<|.iface t<|.agg #[])::(a,.d<|.agg [])::T,H⟩):p->TriL xg C ops [o1,o2,o3] Q ⟨T,H⟩:=λhp=>by simp only[yg]at g;obtain⟨g1,g2,g3,g4,g5,g6,g7,g8,g9,ga⟩:=g;obtain⟨h2,h3,fs,h4⟩:=h1.ok;refine .op g1 (by rw[g3];exact g9) (.build (pl:=[]) g2 h2 (.agg h3 (ds':=[]) .nil) rfl rfl) ?_;rw[g3];refine .op g4 (by rw[g6];exact ga) (.mkIface g5 h4 (d:=.agg []) (by simp[ev,St.put,look])<|IsV.struct []) ?_;rw[g6];exact .panic g7 g8 (by simp[ev,St.put,look])<|k hp
theorem wk.pT {n:St->Prop}(k:p->Q (.panic ch) s):p->zxS n Q (.panic ch) s:=k
theorem wk.pB {i}(k:p->Q (.panic ch) s):p->zfl i Q (.panic ch) s:=k
theorem wk.pJ {σ R:Type}{kk:σ->Option R}{r:R}{xf:σ->St}(k:p->Q (.panic ch) s):p->zxO kk r xf Q (.panic ch) s:=k
theorem wk.pV {rs K}{Kp:List PanicEntry->List Blk->Prop}(k:p->Kp ch s.H):p->zy4 P rs K Kp (.panic ch) s:=λhp=>.inr ⟨_,rfl,k hp⟩
def dsV:List V->Option (List D)
 |[]=>O []|.d x::l=>match dsV l with
  |some ds=>O<|x::ds|none=>Y
 |_::_=>Y
theorem zpb:∀{cs ds},dsV cs=O ds->cs=ds.map V.d
 |[],_,h=>by cases h;rfl|.d x::l,ds,h=>by
  simp only[dsV]at h;split at h;·cases h;have:=zpb (cs:=l) ‹_›;rw[this];rfl
  ·cases h
theorem wk.t2P {A β:Type}{F:A->D×List D}{tt:Tmp}{ty t t1:TypeId}{m k1:Nat}{pv:Value}{cs:List V}{cs':List D}{xs:List β}{enc:β->D}{r:Option A}(g:(s.H[0]?,dsV cs,s.H[1]?)=(O<|.box t cs,O cs',O<|.vec t1 k1<|xs.map enc))(hl:Z (xs.length=m)=U):O Y=O r->zzw tt ty P pv t m (Option.map F r) (.panic [{v:=pv,recovered:=M}]) s:=λh=>by simp only[yg]at g;obtain⟨g1,g2,g3⟩:=g;have e:=zpb g2;subst e;cases h;exact .inr ⟨cs',rfl,rfl,g1,_,_,_,g3,by simpa using hl⟩
theorem wk.t2R {A β:Type}{F:A->D×List D}{tt:Tmp}{ty t t1 T0:TypeId}{m k1 i:Nat}{pv:Value}{bs cs:List V}{ds cs':List D}{xs:List β}{enc:β->D}{r:Option A}{x:A}(g:(look tt s.T,s.H[i]?,dsV bs,tS ty,s.H[0]?,dsV cs,s.H[1]?)=(O<|.loc i 0,O<|.box T0 bs,O ds,O<|O ds.length,O<|.box t cs,O cs',O<|.vec t1 k1<|xs.map enc))(hl:Z (xs.length=m)=U)(e:F x=(.agg ds,cs')):O (O x)=O r->zzw tt ty xg pv t m (Option.map F r) .ret s:=λh=>by simp only[yg]at g;obtain⟨g1,g2,g3,g4,g5,g6,g7⟩:=g;have e3:=zpb g3;have e6:=zpb g6;subst e3 e6;cases h;exact .inl ⟨_,_,ds,cs',by simp only[Option.map,e],rfl,g1,g2,Tab.sh _ _ g4,g5,_,_,_,g7,by simpa using hl⟩
end
theorem walk {R:Type}{m}{r:R}{g:Prop}(h:m=O r)(k:m=O r->g:=by repeat' first
  |exact I|(refine gL ?_;first|(refine gX ?_;first|refine wk.tnc 0 I ?_|refine wk.tnc 1 I ?_|refine wk.tnc 2 I ?_|refine wk.tnc 3 I ?_|refine wk.tnc 4 I ?_|refine wk.tnc 5 I ?_|apply wk.frzL' I I I|apply wk.frzZ' I I I|refine wk.gto I ?_|refine wk.pan I ?_|(refine wk.self I I I ?_ ?_<;>intro _)|(refine wk.in2 I I I I I ?_;intro _ _ _)|(refine wk.ic2 I I I I I ?_;intro _ _ _))|refine wk.aq ?_|refine wk.bxv I ?_ ?_|(refine gX ?_;first|(refine wk.alAi I I ?_;refine wk.nf I ?_)|refine wk.bxvi I I ?_ ?_|(refine wk.tnvi I I ?_;refine wk.nf I ?_)|(refine wk.clnb I I ?_;intro _;refine wk.nf I ?_))|refine wk.W I ?_|refine wk.nil ?_|(refine wk.gK ?_;intro _)|(refine wk.cln I ?_;intro _)|(refine gP I ?_;refine wk.oL I ?_)|(refine gN I ?_;first|refine wk.so I ?_|(refine gX ?_;refine wk.tsb I I ?_)|refine wk.tst I I I I ?_|(refine wk.tsf (x0:=?_) (ds:=?_) I ?_ ?_ ?_;rotate_left 2;assumption;exact I)|apply wk.sv I|refine wk.mput I ?_)|(refine wk.alN I ?_;refine wk.nf I ?_)|(refine wk.alA I ?_;refine wk.nf I ?_)|refine wk.aS I ?_|(refine wk.alo I ?_;refine wk.nf I ?_)|refine wk.blN I ?_|(refine wk.tnv I ?_;refine wk.nf I ?_)|(refine wk.tbv I ?_;refine wk.nf I ?_)|(refine wk.app I ?_;intro _)|(refine wk.mkm I ?_;refine wk.nf I ?_)|(refine wk.tmk I ?_ I;intro _)|refine wk.oL I ?_)|(refine gT ?_;first|(refine gX ?_;first|(refine wk.Ji I I I I I ?_ ?_<;>intro _)|(refine wk.Li I I I I I ?_;intro _ _)|apply wk.frz' I I I|apply wk.frzi I I|apply wk.frzj I I|(refine wk.gk I ?_;refine wk.kids Tryz.func128 I I ?_;intro _)|refine wk.regH I ?_)|(refine wk.xf I I I I I ?_ ?_<;>intro _)|refine wk.seq ?_|refine wk.reg I ?_|refine wk.regP I I ?_|refine wk.regD I ?_|refine wk.cond I ?_ ?_|refine wk.zzT I ?_|refine wk.zzS I ?_|refine wk.block ?_|refine wk.skip ?_|refine wk.exit ?_|refine wk.ret ?_|(refine wk.L I I I I I ?_;intro _ _)|exact wk.no|(refine wk.gK ?_;intro _;try(refine gX ?_;refine wk.rt 1 I I I (by first|exact .cons lnS .nil|exact .cons lnS<|.cons lnS .nil|exact .cons lnS<|.cons lnS<|.cons lnS .nil|exact .cons lnS<|.cons lnS<|.cons lnS<|.cons lnS .nil) ?_)))|(refine gO ?_;first|(refine gX2 ?_;first|refine wk.oeq 0 I I ?_|refine wk.oeq 1 I I ?_|refine wk.oeq 2 I I ?_)|(refine gV I ?_;first|refine wk.oca I I ?_|refine wk.odyn I ?_|apply wk.ocallB I)|(refine gI I ?_;first|(refine wk.ox I ?_;intro _)|refine wk.oxg I isS ?_|(refine wk.oxv I ?_;intro _ _))|(refine gU I ?_;first|refine wk.oe I ?_|refine wk.oev I ?_|refine wk.om3 I ?_)|(refine gB I ?_;first|(refine wk.oqu I ?_;intro _)|(refine wk.ore I ?_;intro _)|refine wk.oqug I isS ?_|refine wk.osq I ?_|refine wk.osn I ?_|refine wk.osq (b:=⟨_,_⟩) I ?_|refine wk.osn (b:=⟨_,_⟩) I ?_|refine wk.onz I ?_|refine wk.oin I ?_|(refine wk.osh I ?_;intro _))|refine wk.ons I ?_|refine wk.obl I ?_|refine wk.ole I (by assumption) I ?_|refine wk.ofe I lnS ?_|refine wk.olf I (by assumption) I ?_|(refine wk.osi I ?_;intro _)|refine wk.osig I isS ?_|(refine wk.ocl I ?_;intro _)|refine wk.ochg I isS ?_|(refine wk.ocb I ?_;intro _)|refine wk.ocbg I isS ?_|refine wk.olhg I isS ?_|refine wk.mget I ?_|refine wk.mgetD I ?_|refine wk.mkv I ?_|exact wk.no|(refine wk.gK ?_;intro _))|(refine gC ?_;first|(refine g1 ?_;first|(refine Kd1.c I ?_;intro _)|refine Kr1.c I ?_|(apply Kd1.p (n:=0);exact I;exact I)|(apply Kd1.gx;exact I;exact isS)|refine Kd1.g isS ?_ ?_)|(refine g2 ?_;first|(refine Kd2.c I ?_;intro _)|(refine Ks2.c I ?_;intro _)|(refine Kf2.cf I I ?_ ?_)|(apply Kd2.p (n:=0);exact I;exact I)|(apply Kd2.gx;exact I;exact isS)|refine Kd2.g isS ?_ ?_|refine Kf2.c I (by assumption) ?_|(apply Kf2.gf;exact I;exact I;exact isS))|(refine g3 ?_;first|(refine Kd3.c I ?_;intro _)|(refine Kf3.cf I I ?_ ?_ ?_)|(apply Kd3.gx;exact I;exact isS)|refine Kd3.g isS ?_ ?_)|(refine Kd4.c I ?_;intro _)|(refine Kd0.c I ?_;intro _)|refine Kd4.g isS ?_ ?_|refine Ks4.g isS ?_ ?_)|(refine gQ ?_;first|refine wk.QW I ?_|refine wk.Qn ?_|(refine wk.gK ?_;intro _)|refine wk.Qal I ?_|refine wk.Qst I ?_|refine wk.oQ I ?_|apply wk.jA I I|apply wk.jO I I)|(refine wk.und ?_;intro _)|refine wk.nB ?_|refine wk.xT ?_|refine wk.xB ?_|refine wk.xJ ?_|refine wk.rT ?_|refine wk.rB ?_|refine wk.rJ ?_|refine wk.vR I ?_|refine wk.vN I ?_|refine wk.pT ?_|refine wk.pB ?_|refine wk.pJ ?_|refine wk.pV ?_|exact wk.t2P I<|by assumption|exact wk.t2M I<|by assumption|exact wk.t2R I (by assumption)<|by first|rfl|(simp only[xN,Tree.zw4,xo]<;>rfl)
  |exact wk.nd I|exact wk.rO I|exact wk.fin I|refine FrzG.nil ?_|apply FrzG.cons I|(refine wk.gK ?_;intro _)|refine Fn1.c (by assumption) ?_ ?_|refine Fn1.g (by assumption) isS ?_ ?_|refine dynF I ?_|(intro _ _;first|exact Kd1.d I|exact Kd2.d I|exact Kd3.d I|exact Kd5.d I)|refine wk.sc I ?_|exact Frz.d _|exact Frzs.nil|apply Frzs.cons|exact Frz.vec I lnS|apply Frz.agg|exact FrzI.d _|exact FrzI.vec (zw9 I) I lnS|apply FrzI.loc (zw9 I) I|(refine FrzI.loc1 (zw9 I) I ?_ I)|exact zxn.nil|apply zxn.cons|exact zxm.nil|apply zxm.cons|exact OneV.d I|exact OneV.vec I lnS|exact OneV.mp I|exact OneV.loc I|exact OneV.fn|exact Lent.nil|apply Lent.cons I|refine all1 λ_=>?_|(intro h;cases h;first|exact zgt I<|.vec I lnS|exact zgt I<|.d _|exact zgt I<|.mp I<|GMap.wfm _|refine ztC I I ?_ ?_|refine zj8 I I I ?_ ?_ ?_|refine wk.rC I ?_|refine wk.rCT I ?_ ?_)|fail):g:=k h
end
