/- Part of the proof of one law of the seat. -/
import Derived.Test.YtipkniadbkndfaaGreatDoorSm11
set_option linter.all false
set_option maxRecDepth 100000
set_option maxHeartbeats 40000000
namespace Go.Proofs.YtipkniadbkndfaaGreatDoor
open Go Go.RowKit
open Option renaming some->O,none->Y
open Bool renaming true->U,false->M
open Decidable renaming decide->Z
open zvx renaming gs->xI
open Nat renaming ble->xQ
open Go.Code renaming wp_mono->xW
open List renaming not_mem_nil->vE
abbrev yfV (l:Nat):D:=.fn (.yield l) [] []
abbrev HV (c:Int):List Blk:=[.box 4 [.d<|.bool M],.box 3 [.d<|.int c]]
abbrev HW (l:Nat)(c:Int):List Blk:=[.box 4 [.d<|.bool M],.box 3 [.d<|.int c],.box 248 [.fn (.func 194) [] [.d<|.ref<|yfV l,.loc 2 0]]]
abbrev TV:List<|Nat×V:=[(2,.loc 0 0),(3,.loc 1 0)]
theorem eK194:zvB pg 194=true:=by kernel_rfl
theorem eK193:zvB pg 193=true:=by kernel_rfl
theorem eK153:zvB pg 153=true:=by kernel_rfl
theorem eK154:zvB pg 154=true:=by kernel_rfl
theorem eY248:zas pg 248=O none:=by kernel_rfl
theorem eC248:cellsOf pg 248=O 1:=by kernel_rfl
theorem eZ248:zbR pg 248=O .nilFunc:=by kernel_rfl
section
variable[zvx][Drw]{P:Program}{C:Ctx}{ops:Array Oper}{o:Oper}{s:St}
theorem TriL.plainL {Q}{l}(n)(hna:zoO (l.take n)=U)(h:TriQ P C.n l.toArray s.H (l.take n) [] s.T λ_ T=>TriL P C l.toArray (l.drop n) Q ⟨T,s.H⟩):TriL P C l.toArray l Q s:=by
 refine⟨λe a w d=>?_⟩;have f:=(uC n l).symm;have b:∀o∈l.take n,zap o=false:=λo c=>by
  have:=(yo.1 hna) o c;grind
 have:=zvF.toList (l.take n) [] s.T e a w b h.run d;grind
theorem not1 {t}{x}{b}(h:(o.guard,zvU o.dst C.n,o.op,ev s.T x)=(Y,U,.unOp .not t x,O<|.d<|.bool b)):TriL P C ops [o] (zyh<|s.put o.dst<|.d<|.bool !b) s:=by
 simp only[yg]at h;exact .op h.1 h.2.1 (.not h.2.2.1 h.2.2.2)<|.nil ⟨rfl,rfl⟩
theorem out1 {c:Tmp}{id}{y}{d}{b}{Q}(hc:look c s.T=O (.d<|.bool U))(h:(o.guard,zvU o.dst C.n,o.op,o.dst)=(Y,U,.assign<|.const<|.bool b,O d))(hq:Q .ret ⟨(d,.d<|.bool b)::s.T,s.H⟩):Tri P C (.cond (.tmp c) (.seq (.region id #[o] M) .ret) y) Q s:=by
  simp only[yg]at h;refine .cond (t:=U) hc (λ_=>.sr (l:=[o])<|.op h.1 h.2.1 (.assign h.2.2.1 rfl)<|.nil<|.ret<|by rw[h.2.2.2];exact hq) λh=>by cases h
end
theorem zty {G G3}{D0}{A0 own0}{w0}{N gn}{gh}{df}{Q Q3 QL}(h:∀e s,Q3 e s->e=.ret/\QL .ret s):∀e a w,@QR G3 D0 ⟨A0,own0,w0,N,λ_ _=>False,gh,gn,df⟩ Q3 e a w->@QR G D0 ⟨A0,own0,w0,N,escX G3 D0 ⟨A0,own0,w0,N,λ_ _=>False,gh,gn,df⟩ QL,gh,gn,df⟩ Q e a w:=by
 rintro e a w(⟨c,s,d,f⟩|⟨_,g⟩)
 ·obtain⟨rfl,b⟩:=h e s d;exact .inr ⟨rfl,c,s,b,f⟩
 grind
noncomputable def rndL (n:Nat)(level:Int)(t:Tree)(c:Int):Option Bool:=if(Z (4096<level)||decide (65536<c))=U then O U else(zb3 n t).map (!·)
def zx4 (t:Tree)(c:Int):Int:=zvp c<|zvp 1 (t.steps.length:Int)
theorem zsr {n k level t c b c'}(h:zax n (k+1) level t c=O (b,c')):∃left,rndL n level t (zx4 t c)=O left/\if left=U then b=M/\c'=zx4 t c else zvt (zax.l1 n (zax n k) level t.kids) n (zx4 t c,0)=O (b,c'):=by
 simp only[zax]at h;unfold rndL zx4;split at h<;>rename_i a
 ·rw[if_pos a];grind
 ·obtain⟨x,d,h⟩:=zv0 h;grind
set_option maxRecDepth 10000 in
theorem ztK {G1 G3}[G:zvx]{l}{rec}{asg body}(hGs:@xI G=(l,.loop rec)::@xI G1)(hG3:@xI G3=(l,.loop<|recB U rec)::@xI G1)(hGE:∀q∈@xI G1,q.1≠l)(hrec:rec.state=.ready/\rec.pending=Y/\rec.params=#[8,9]/\rec.tmps.size=27)(hasg:rec.assign=asg)(hbd:rec.body=body)(n)(hY:∀(A0 own0)(w)(gh)(level)(t)(c)(left),rndL n level t (zx4 t c)=O left->@TriR G1 dF l pg ⟨A0,own0,w,27,λ_ _=>False,gh,3,[]⟩ asg (λe s1=>e=.normal/\∀(own0)(w),@TriR G1 dF l pg ⟨A0,own0,w,27,λ_ _=>False,gh,3,[]⟩ body (λe s2=>e=(if left=U then .ret else .normal)/\∃X,s2.H=HW l (zx4 t c)++X) s1) ⟨(9,.d t.enc)::(8,.d<|.int level)::TV,HW l c⟩):∀(k)(level)(t)(c)(b)(c'),zax n k level t c=O (b,c')->∀(A0 own0)(w0)(gh),zxD ⟨A0,own0,w0,28,λ_ _=>False,gh,3,[]⟩ l rec TV->TriX G dF ⟨A0,own0,w0,28,λ_ _=>False,gh,3,[]⟩ (if b=U then G else G3) pg (zh8 pg 194) (retV [.tmp 6] λv H2=>v=.d (.bool b)/\∃X,H2=HW l c'++X) ⟨zbv 0 [.d<|.int level,.d t.enc,.d<|.ref<|yfV l,.loc 2 0],HW l c⟩
 |0,level,t,c,b,c',h,_,_,_,_,_=>by grind[zax]|k+1,level,t,c,b,c',h,A0,own0,w0,gh,hs=>by
  have IH:=ztK hGs hG3 hGE hrec hasg hbd n hY k;have hgn3:xQ (Ctx.gn ⟨A0,own0,w0,28,λ_ _=>False,gh,3,[]⟩) 3=true:=rfl;obtain⟨left,hl,h⟩:=zsr h;obtain⟨QL,hQL⟩:∃QL:Exit->St->Prop,QL=λe s=>b=M/\retV [.tmp 6] (λv H2=>v=.d (.bool M)/\∃X,H2=HW l c'++X) e s:=⟨_,rfl⟩;have main:@Tri G dF pg ⟨A0,own0,w0,28,escX G3 dF ⟨A0,own0,w0,28,λ_ _=>False,gh,3,[]⟩ QL,gh,3,[]⟩ (zh8 pg 194) (λe s=>b=U/\retV [.tmp 6] (λv H2=>v=.d (.bool U)/\∃X,H2=HW l c'++X) e s) ⟨zbv 0 [.d<|.int level,.d t.enc,.d<|.ref<|yfV l,.loc 2 0],HW l c⟩:=by
   rw[zcV Tryz.func194 rfl];refine .sr<|.p I (.bx I)<|.z I<|.nil<|.seq ?_;refine Tri.regW (G2:=G) (D0:=dF) ?_;refine .op 0 rfl rfl (.p I (.ld eY248 I)<|.nil ⟨rfl,rfl⟩) ?_;refine .op 1 rfl rfl (.m I<|.nil ⟨rfl,rfl⟩) ?_;refine .op 2 rfl rfl (.p I (.ld Y40 I)<|.nil ⟨rfl,rfl⟩) ?_;have yb:=λown0 w gh=>hY A0 own0 w gh level t c left hl;cases left with
   |true=>
    rw[if_pos rfl]at h;obtain⟨rfl,rfl⟩:=h;refine .one 3 rfl (OneX.yield (G1:=G1) (G2:=G) (G3:=G3) (H':=HW l<|zx4 t c) U hGs hG3 hGE hrec hasg hbd hs rfl rfl rfl (by decide) rfl rfl rfl rfl rfl rfl (.none rfl) rfl rfl rfl rfl rfl (by repeat(first|exact trivial|refine⟨rfl,?_⟩)) λown0 w gh=>yb own0 w gh) ?_;refine .op 4 rfl rfl (@not1 G3 dF _ _ _ _ _ _ _ M rfl) ?_;refine TriW.nil (C3:=⟨A0,own0,w0,28,λ_ _=>False,gh,3,[]⟩) (Q3:=λe s=>e=.ret/\QL .ret s) (@out1 G3 dF _ _ _ _ _ _ _ _ M _ rfl rfl ⟨rfl,?_⟩)<|zty λe s h=>h;rw[hQL];exact⟨rfl,.inl rfl,[.d<|.bool M],⟨_,[],rfl,rfl,rfl⟩,rfl,[],(ud _).symm⟩|false=>
    rw[if_neg<|by simp]at h;refine .one 3 rfl (OneX.yield (G1:=G1) (G2:=G) (G3:=G) (H':=HW l<|zx4 t c) M hGs hGs hGE hrec hasg hbd hs rfl rfl rfl (by decide) rfl rfl rfl rfl rfl rfl (.none rfl) rfl rfl rfl rfl rfl (by repeat(first|exact trivial|refine⟨rfl,?_⟩)) λown0 w gh=>yb own0 w gh) ?_;refine .op 4 rfl rfl (.p I (.nt I)<|.nil ⟨rfl,rfl⟩) ?_;refine TriW.nil (C3:=⟨A0,own0,w0,28,escX G3 dF ⟨A0,own0,w0,28,λ_ _=>False,gh,3,[]⟩ QL,gh,3,[]⟩) ?_ λ_ _ _ h=>h;refine .cond (t:=M) rfl (λh=>by cases h) λ_=>.skip ?_;refine .seq<|.sr<|.p I (.fa I<|zzL _)<|.p I (.ld Y38 I)<|.p I (.len I U38 I)<|.m I<|.nil ?_;refine .block<|.loopS [0,2,3,15,16] (λ(v:Int×Int)=>[(17,.d<|.int v.2)]) (λv=>[(1,.box 3 [.d<|.int v.1])]) (.c4 I<|.c I .nil) h ⟨_,Fz8 I<|Fz1 I trivial⟩ λrec' v h=>?_;refine .sr<|.p I (.ls I)<|.nil<|.keep (HW l v.1) [0,2,3,15,16,17,18] (.c4 I<|.c2 I<|.c I .nil) I<|.seq<|.zvG I h (λh=>?_) λh=>?_
    ·obtain⟨x,hx,h⟩:=zv0 h;obtain⟨⟨rb,rc⟩,hr,h⟩:=zv0 h;refine .skip<|.seq<|.block<|.sr<|.p I (.ix I U38 S40 hx)<|.p I (.ld Y40 I)<|.zwY I I I I I I I I (by simp) I I Z40<|.nil ?_;refine Tri.regW (G2:=G) (D0:=dF) ?_;refine .op 0 rfl rfl (.p I (.zvM I I I eY248 I)<|.nil ⟨rfl,rfl⟩) ?_;refine .op 1 rfl rfl (.m I<|.nil ⟨rfl,rfl⟩) ?_;refine .op 2 rfl rfl (.p I (.ad I)<|.nil ⟨rfl,rfl⟩) ?_;refine .op 3 rfl rfl (.p I (.ld Y40 I)<|.nil ⟨rfl,rfl⟩) ?_;have ih:=λown0 w gh hs=>IH (zvp level 1) x v.1 rb rc hr A0 own0 w gh hs;rw[zcV Tryz.func194 rfl]at ih;cases rb with
     |true=>
      simp only[if_true]at h ih;refine .one 4 rfl (OneX.call (G2:=G) (G3:=G) (H':=HW l rc) (.none rfl) rfl (zw7.clos (xs:=[.d<|.int<|zvp level 1,.d x.enc]) (caps:=[.d<|.ref<|yfV l,.loc 2 0]) rfl rfl eK194 rfl) Tryz.func194 rfl Tryz.ntmps194 rfl rfl rfl rfl rfl rfl rfl (by repeat(first|exact trivial|refine⟨rfl,?_⟩)) λown0 w gh h1 h2=>ih own0 w gh ⟨h1 _ hs.1,λq hq=>h2 _<|hs.2 q hq⟩) ?_;refine .op 5 rfl rfl (.p I (.nt I)<|.nil ⟨rfl,rfl⟩) ?_;refine TriW.nil (C3:=⟨A0,own0,w0,28,escX G3 dF ⟨A0,own0,w0,28,λ_ _=>False,gh,3,[]⟩ QL,gh,3,[]⟩) ?_ λ_ _ _ h=>h;refine .cond (t:=M) rfl (λh=>by cases h) λ_=>.skip ?_;refine .region<|.p I (.ad I)<|.m I<|.nil ⟨_,h,⟨_,Fz8 I<|Fz1 I trivial⟩⟩|false=>
      simp only[ye,if_false]at h ih;cases h;refine .one 4 rfl (OneX.call (G2:=G) (G3:=G3) (H':=HW l c') (.none rfl) rfl (zw7.clos (xs:=[.d<|.int<|zvp level 1,.d x.enc]) (caps:=[.d<|.ref<|yfV l,.loc 2 0]) rfl rfl eK194 rfl) Tryz.func194 rfl Tryz.ntmps194 rfl rfl rfl rfl rfl rfl rfl (by repeat(first|exact trivial|refine⟨rfl,?_⟩)) λown0 w gh h1 h2=>ih own0 w gh ⟨h1 _ hs.1,λq hq=>h2 _<|hs.2 q hq⟩) ?_;refine .op 5 rfl rfl (@not1 G3 dF _ _ _ _ _ _ _ M rfl) ?_;refine TriW.nil (C3:=⟨A0,own0,w0,28,λ_ _=>False,gh,3,[]⟩) (Q3:=λe s=>e=.ret/\QL .ret s) (@out1 G3 dF _ _ _ _ _ _ _ _ M _ rfl rfl ⟨rfl,?_⟩)<|zty λe s h=>h;rw[hQL];exact⟨rfl,.inl rfl,[.d<|.bool M],⟨_,[],rfl,rfl,rfl⟩,rfl,[],(ud _).symm⟩
    ·cases h;refine .exit<|.sr<|.z I<|.nil<|.ret ⟨rfl,.inl rfl,[.d<|.bool U],⟨_,[],rfl,rfl,rfl⟩,rfl,[],(ud _).symm⟩
  cases b with
  |true=>
   simp only[if_true];refine TriX.mk λbs a w hR=>xW ?_<|@Tri.run G dF _ _ _ _ _ main bs a w<|@R.esc G dF _ _ _ _ _ _ hR;rintro e a w(⟨bs',s',⟨_,hq⟩,hR'⟩|⟨_,bs',s',hq,hR'⟩);·exact⟨bs',s',hq,@R.esc G dF _ _ _ _ _ _ hR'⟩
   ·rw[hQL]at hq;exact absurd hq.1<|by simp|false=>
   simp only[ye,if_false];refine TriX.mk λbs a w hR=>xW ?_<|@Tri.run G dF _ _ _ _ _ main bs a w<|@R.esc G dF _ _ _ _ _ _ hR;rintro e a w(⟨bs',s',⟨hq,_⟩,hR'⟩|⟨rfl,bs',s',hq,hR'⟩);·exact absurd hq<|by simp
   ·rw[hQL]at hq;exact⟨bs',s',hq.2,hR'⟩
theorem TriX.seqT {G G3}{D0}{P}{C}{x y}{Q}{s}(h:@Tri G D0 P C.ne x (λe s=>e=.normal/\TriX G D0 C G3 P y Q s) s):TriX G D0 C G3 P (.seq x y) Q s:=by
 refine⟨λd a w f=>wp_seq<|xW ?_<|@Tri.run G D0 _ _ _ _ _ h d a w<|@R.esc G D0 _ _ _ _ _ _ f⟩;rintro e a w(⟨c,j,⟨rfl,g⟩,b⟩|⟨_,i⟩);·exact g.run c a w<|@R.unesc G D0 _ _ _ _ _ b
 grind
theorem TriX.regionW {G G3}{D0}{P}{C}{id}{l}{Q}{s}(h:TriW G D0 P C l.toArray l (λe a' w'=>∃bs' s',Q e s'/\@R G3 D0 C bs' s' a' w') s):TriX G D0 C G3 P (.region id l.toArray M) Q s:=⟨λc a w b=>wpIn_wide (n:=0).1<|wpIn_region_lit<|h.run c a w b⟩
theorem TriW.nilX {G3}{D0}{P}{C}{ops}{Q:Exit->St->Prop}{s}(h:Q .normal s):TriW G3 D0 P C ops [] (λe a' w'=>∃bs' s',Q e s'/\@R G3 D0 C bs' s' a' w') s:=⟨λc a w b=>⟨c,s,h,b⟩⟩
theorem zu8 {G1 G3}[G:zvx]{l}{rec}{asg body}(hGs:@xI G=(l,.loop rec)::@xI G1)(hG3:@xI G3=(l,.loop<|recB U rec)::@xI G1)(hGE:∀q∈@xI G1,q.1≠l)(hrec:rec.state=.ready/\rec.pending=Y/\rec.params=#[8,9]/\rec.tmps.size=27)(hasg:rec.assign=asg)(hbd:rec.body=body)(n)(hY:∀(A0 own0)(w)(gh)(level)(t)(c)(left),rndL n level t (zx4 t c)=O left->@TriR G1 dF l pg ⟨A0,own0,w,27,λ_ _=>False,gh,3,[]⟩ asg (λe s1=>e=.normal/\∀(own0)(w),@TriR G1 dF l pg ⟨A0,own0,w,27,λ_ _=>False,gh,3,[]⟩ body (λe s2=>e=(if left=U then .ret else .normal)/\∃X,s2.H=HW l (zx4 t c)++X) s1) ⟨(9,.d t.enc)::(8,.d<|.int level)::TV,HW l c⟩){t}{b}{c'}(h:zax n n 1 t 0=O (b,c'))(A0 own0)(w0)(gh)(hs:zxD ⟨A0,own0,w0,8,λ_ _=>False,gh,2,[]⟩ l rec TV):TriX G dF ⟨A0,own0,w0,8,λ_ _=>False,gh,2,[]⟩ (if b=U then G else G3) pg (zh8 pg 193) (λe s=>(e=.ret\/e=.normal)/\∃X,s.H=HV c'++X) ⟨zbv 0 [.d<|yfV l,.d<|.ref t.enc],HV 0⟩:=by
 rw[zcV Tryz.func193 rfl];refine .seqT<|.region<|.p I (.bx I)<|.nil ⟨rfl,?_⟩;refine .seqT<|.region<|.alloc I I I I eZ248<|.nil ⟨rfl,?_⟩;refine .seqT<|.region<|.p I (.zxe I I)<|.store I I I I I I (.cons .fn .nil) eC248 I (yt I)<|.nil ⟨rfl,?_⟩;refine .regionW ?_;refine .op 0 rfl rfl (.p I (.zvM I I I eY248 I)<|.nil ⟨rfl,rfl⟩) ?_;refine .op 1 rfl rfl (.p I (.ld Y40 I)<|.nil ⟨rfl,rfl⟩) ?_;have a:=λown0 w gh hs=>ztK hGs hG3 hGE hrec hasg hbd n hY n 1 t 0 b c' h A0 own0 w gh hs;rw[zcV Tryz.func194 rfl]at a;refine .one 2 rfl (OneX.call (G2:=G) (G3:=if b=U then G else G3) (H':=HW l c') (.none rfl) rfl (zw7.clos (xs:=[.d<|.int 1,.d t.enc]) (caps:=[.d<|.ref<|yfV l,.loc 2 0]) rfl rfl eK194 rfl) Tryz.func194 rfl Tryz.ntmps194 rfl rfl rfl rfl rfl rfl rfl (by repeat(first|exact trivial|refine⟨rfl,?_⟩)) λown0 w gh g i=>a own0 w gh ⟨g _ hs.1,λq f=>i _<|hs.2 q f⟩) ?_;exact .nilX ⟨.inr rfl,[.box 248 [.fn (.func 194) [] [.d<|.ref<|yfV l,.loc 2 0]]],rfl⟩
theorem zsY (t:Tree):Pure pg 153 [t.enc]<|.fn (.func 193) [] [.ref t.enc]:=by refine Pure.zyo Tryz.func153 rfl (by simp_all) λA w=>.sr<|.p I (.bx I)<|.z I<|.nil<|.sr<|.p I (.makeFunc I I)<|.z I<|.nil<|.ret<|zgt I<|.d _
theorem zs5 {n level t c left}(h:rndL n level t c=O left):∃nb,((Z (4096<level)||decide (65536<c))=M->zb3 n t=O nb)/\left=(Z (4096<level)||decide (65536<c)||!nb):=by
 unfold rndL at h;split at h<;>rename_i b;·grind
 ·cases a:zb3 n t with
  |none=>grind|some nb=>grind
theorem zh0 (n)(t0)(r)(h:zb8 n t0=O r):Pure pg 94 [t0.enc]<|.bool r:=by
 obtain⟨⟨b,c'⟩,hv,hb⟩:∃p,zax n n 1 t0 0=O p/\p.1=r:=by
  unfold zb8 at h;simp_all
 simp only at hb;subst hb;refine Pure.zzh Tryz.func94 rfl (by simp_all) λA w=>?_;rw[Tryz.ntmps94];refine .sr<|.p I (.bx I)<|.alloc I I I I Zv4<|.nil<|.sr<|.alloc I I I I Zv3<|.store I I I I I I (.ofD rfl) C3 I (yt I)<|.nil<|.keep (HV 0) [1,2,3] (.c2 I<|.c I .nil) I ?_;refine Tri.zzG (!b) (K:=λH2=>∃X,H2=HV c'++X) (RQ:=λs=>zzy pg s [.cell 2 4] [.bool b]) (fs:=[]) (cs:=[.ref t0.enc]) (.region<|.p I (.ld Y40 I)<|.p I (.call I eK153 I<|zsY _)<|.nil ⟨rfl,rfl⟩) rfl eK193 Tryz.func193 rfl Tryz.ntmps193 rfl rfl rfl ?_ ?_ ?_ ?_
 ·intro l Dd rec own0 w1 gh G' hne hG' hGl hrec hasg hbd hown hgh G'' hG'';have hs:zxD ⟨A,own0,w1,8,λ_ _=>False,gh,2,[]⟩ l rec TV:=⟨hown,λq hq=>by
   simp only[yE,vE,or_false]at hq;rcases hq with rfl|rfl;·exact hgh 2 _ rfl
   ·exact hgh 3 _ rfl⟩;obtain⟨G3,hG3⟩:∃G3:zvx,@xI G3=(l,.loop<|recB U rec)::(Dd,.deferred<|O [])::@xI globs:=⟨⟨_⟩,rfl⟩;have hGG:(if b=U then G' else G3)=G'':=by cases b with
   |true=>
    rw[if_pos rfl];obtain⟨x⟩:=G';obtain⟨y⟩:=G'';simp only at hG' hG'';rw[hG',hG''];rfl|false=>
    rw[if_neg<|by simp];obtain⟨x⟩:=G3;obtain⟨y⟩:=G'';simp only at hG3 hG'';rw[hG3,hG''];rfl
  obtain⟨G1,hG1⟩:∃G1:zvx,@xI G1=(Dd,.deferred<|O [])::@xI globs:=⟨⟨_⟩,rfl⟩;have hsub:∀p∈@xI globs,p∈@xI G1:=λp hp=>by rw[hG1];exact yZ _ hp
  have hGs:@xI G'=(l,.loop rec)::@xI G1:=by rw[hG',hG1]
  have hGs3:@xI G3=(l,.loop<|recB U rec)::@xI G1:=by rw[hG3,hG1]
  have ct:=@zu8 G1 G3 G' l rec _ _ hGs hGs3 (λq hq=>by
   rw[hG1]at hq;rcases yE.1 hq with rfl|hq;·exactλe=>hne e.symm
   ·exact hGl q hq) hrec hasg hbd n (λA0 own0 w gh level t c left hl=>?_) t0 b c' hv A own0 w1 gh hs;·rw[hGG,zcV Tryz.func193 rfl]at ct;exact ct
  ·obtain⟨nb,hn1,hn2⟩:=zs5 hl;have nodeP1:(Z (4096<level)||decide (65536<zx4 t c))=M->Pure pg 154 [t.enc] (.bool nb):=λhc=>Pure.widen hsub<|refutation_node_ok n t nb<|hn1 hc;refine .seq<|.region rfl<|.z I<|.nil ⟨rfl,rfl,?_⟩;refine .region rfl<|.zwY I I I I I I I I (by simp) I I Z40<|.nil ⟨rfl,rfl,λown0 w=>?_⟩;refine .block<|.seq<|.region rfl<|.p I (.zvM I I I Y3 I)<|.p I (.fa I<|G40_1 _)<|.p I (.ld Y37 I)<|.p I (.len I U37 I)<|.p I (.ad I)<|.p I (.ad I)<|.store I I I I I I (.ofD rfl) C3 I (yt I)<|.nil ⟨rfl,rfl,?_⟩;refine .seq<|.region rfl<|.plainL 11 rfl ?_;refine .m I<|.p I (.gt I)<|.m I<|.jOr 2 (b2:=Z<|65536<zx4 t c) rfl rfl rfl rfl (.inl rfl) (λ_ _ _ h1=>by cases h1) rfl rfl (λhb=>.q I (.zvM I I I Y3 I)<|.q I (.gt I)<|.nil rfl) ?_;refine .m I<|.jOr 3 (b2:=!nb) rfl rfl rfl rfl (.inl rfl) (λ_ _ _ h1=>by cases h1) rfl rfl (λhb=>.q I (.ld Y40 I)<|.q I (.call I eK154 I<|nodeP1 hb)<|.q I (.nt I)<|.nil rfl) ?_;refine .nil<|.nil ⟨rfl,rfl,?_⟩;refine .cond (t:=left) (by rw[hn2];rfl) ?_;cases left with
   |true=>exact .seq<|.region rfl<|.store I I I I I I (.ofD rfl) C4 I (yt I)<|.nil ⟨rfl,rfl,.ret ⟨.inr rfl,rfl,[],(ud _).symm⟩⟩|false=>exact .skip ⟨.inl rfl,rfl,[],(ud _).symm⟩
 ·intro hb H2⟨X,hX⟩;subst hX;cases b with
  |true=>cases hb|false=>exact⟨.bool M,[],0,4,[.d<|.bool M],rfl,rfl,rfl,Y4,.loc1 (c:=.d<|.bool M) rfl (.d _) rfl,rfl⟩
 ·intro hb Dd H2 G' hG'⟨X,hX⟩;subst hX;cases b with
  |false=>cases hb|true=>
   refine Tri.ge (t:=⟨[(2,.loc 0 0)],HV c'⟩) ⟨X,rfl,rfl,rfl,rfl,trivial⟩ ?_ rfl;exact .sr<|.store I I I I I I (.ofD rfl) C4 I (yt I)<|.nil<|.ret ⟨rfl,.bool U,[],0,4,[.d<|.bool U],rfl,rfl,rfl,Y4,.loc1 (c:=.d<|.bool U) rfl (.d _) rfl,rfl⟩
 ·intro s bs a w' df hq hR;obtain⟨u,hu1,hu2⟩:=zrS (P:=pg) (fn:=Tryz.f94) (y:=.bool b) (ds:=[.bool b]) rfl hq hR;exact⟨u,hu1,u,rfl,hR.fr,hu2⟩
